/-
 Texts joined: PaAA PaAB.
-/
import Derived.Test.YtenieameoojbjaaGreatDoorUML
import Derived.Test.YtenieameoojbjaaGreatDoorUMD
set_option linter.unusedVariables false
set_option linter.unusedSimpArgs false
set_option linter.loopingSimpArgs false
-- CLOSERS: PCL,TCL,DCL,FCL,RCL,MCL,BCL,GCL
set_option maxHeartbeats 64000000
-- NEST
set_option maxRecDepth 8000
namespace Go.LexSem
open Go Go.V Go.Proofs Go.Num

theorem prog_sem (ts:List Tok) (s0:PS) (i0:PInv ts s0):PSem 39 [] ts s0 (Hp ts s0) pgV:=by
 obtain ⟨x,hx⟩:∃ x,x=Hp ts s0:=⟨_,rfl⟩
 rw [←hx]
 unfold Hp at hx
 unfold PSem
 refine FSem.en 110 Tryz.func39 ?_
 simp only [Aj]
 refine WC.go ?_
 refine WC.go ?_
 refine Bt (X:=List (List UInt8) × PS) (fun y=>PInv ts y.2∧x=Lf ts y.1 y.2) (fun y=>⟨[(3,.ptr (.l 1) 0 0),(2,.ptr (.l 0) 0 0),(0,.ptr (.o 0) 0 0)],[Bq ts y.2],[.row [.agg [.nils,.nils,.nils,.nils,.nils,.str []]] 6 32,.row [.agg [Cs y.1,.nils,.nils,.nils,.nils,.str []]] 6 32],[]⟩) ?_ ?_
 ·refine WC.b1 ?_
  refine WC.loop (X:=Nat × List (List UInt8) × PS) (fun y=>if y.2.1=[] then ⟨[(3,.ptr (.l 1) 0 0),(2,.ptr (.l 0) 0 0),(0,.ptr (.o 0) 0 0)],[Bq ts y.2.2],[.row [.agg [.nils,.nils,.nils,.nils,.nils,.str []]] 6 32,.row [.agg [.nils,.nils,.nils,.nils,.nils,.str []]] 6 32],[]⟩ else ⟨[(3,.ptr (.l 1) 0 0),(2,.ptr (.l 0) 0 0),(0,.ptr (.o 0) 0 0)],[Bq ts y.2.2],[.row [.agg [.nils,.nils,.nils,.nils,.nils,.str []]] 6 32,.row [.agg [.ref (.l 2) 0 y.2.1.length,.nils,.nils,.nils,.nils,.str []]] 6 32,.row (y.2.1.map .str) 1 9],[]⟩)
   (fun y=>PInv ts y.2.2∧rem ts y.2.2 + 1≤y.1∧y.2.1.length≤y.2.2.at_∧x=bnd (Hw ts y.1 y.2.1 y.2.2) (Lf ts)) (fun y=>y.1) (rem ts s0 + 1,[],s0) [0,1] ⟨i0,Nat.le_refl _,Nat.zero_le _,hx⟩ ?_ ?_
  ·dsimp only
   rw [if_pos rfl]
   exact Conv.all (by simp only [EC,simprocAttr,PRN,MRN,DRN,DS,MS,PGS,PGR,A3])
  clear hx
  rintro ⟨m,acc,s1⟩ ⟨i1,hr,hlen,hx⟩
  dsimp only at i1 hr hlen hx ⊢
  have hle:=i1.le
  have hlt:=i1.lt
  obtain ⟨m,rfl⟩:∃ k,m=k + 1:=⟨m - 1,by omega⟩
  rw [Hw] at hx
  by_cases hne:acc=[]
  ·skip
   subst hne
   rw [if_pos rfl]
   refine Am fun K3 hK3=>?_
   refine WC.rs fun K hK=>?_
   simp only [↓EJ,FY,simprocAttr]
   repeat rw [Ae] at hx
   refine CallX.acc hx i1 fun b2 s2 h2 hx g2 i2=>?_
   have r2:=g2.rem
   have a2:=g2.2
   simp only [↓EJ,FY,simprocAttr]
   refine hK _ ?_;clear hK K
   refine WC.cond rfl (fun h=>?_) fun h=>?_
   ·obtain rfl:b2=true:=by simpa using h
    dsimp only at hx
    have q2:=(Bm i1 h2).rem
    refine WC.skip (hK3 _ ?_)
    refine WC.b1 ?_
    refine WC.dg [⟨0,0,true,[]⟩,⟨1,0,true,[]⟩,⟨2,0,false,[]⟩,⟨3,1,false,[0,1]⟩,⟨4,2,false,[]⟩,⟨5,1,false,[]⟩,⟨6,0,false,[]⟩,⟨7,1,false,[]⟩] [0,1,0,4,12,31,63,127] fun K hK=>?_
    simp only [↓EJ,FY,simprocAttr,MS]
    repeat rw [Ae] at hx
    refine Af hx (C4 ts s2 i2) (by simp only [CL,PCL,TCL,DCL,FCL,RCL,MCL,BCL,GCL,and_self]) (fun v=>by simp only [CL,PCL,TCL,DCL,FCL,RCL,MCL,BCL,GCL,and_self]) fun t s3 h3 hx=>?_
    have g3:=B9 i2 h3
    have i3:=g3.1
    have r3:=g3.rem
    have a3:=g3.2
    simp only [↓EJ,FY,simprocAttr,MS]
    refine hK _ (Aa [0,2,3,4,5,7,18,29,38,67,106] ?_);clear hK K
    refine F9 [1] ?_
    simp only [↓EJ,FY,simprocAttr,EZ]
    repeat rw [Ae] at hx
    refine CallX.exp hx i3 fun u4 s4 h4 hx g4 i4=>?_
    have r4:=g4.rem
    have a4:=g4.2
    simp only [↓EJ,FY,simprocAttr,EZ]
    try simp only [EQ,simprocAttr]
    refine ⟨(m,[t],s4),[0,1,2],⟨i4,by dsimp only;omega,by simp only [List.length_append,List.length_cons,List.length_nil];omega,hx⟩,by dsimp only;omega,?_⟩
    dsimp only
    rw [if_neg (by simp)]
    exact Conv.all (by simp only [EC,simprocAttr,PRN,MRN,DRN,DS,MS,PGS,PGR,A3,Gb,Aw,List.map_append,List.map_cons,List.map_nil,List.length_append,List.length_cons,List.length_nil])
   ·obtain rfl:b2=false:=by simpa using h
    dsimp only at hx
    simp only [Ay] at hx
    refine WC.exit ?_
    simp only [EQ,reduceIte,Nat.reduceEqDiff]
    try simp only [EQ,reduceIte,Nat.reduceEqDiff]
    refine ⟨([],s2),[0,1],⟨i2,hx⟩,?_⟩
    dsimp only
    rw [Om]
    exact Conv.all (by simp only [EC,simprocAttr,PRN,MRN,DRN,DS,MS,PGS,PGR,A3])
  ·skip
   rw [if_neg hne]
   refine Am fun K3 hK3=>?_
   refine WC.rs fun K hK=>?_
   simp only [↓EJ,FY,simprocAttr]
   repeat rw [Ae] at hx
   refine CallX.acc hx i1 fun b2 s2 h2 hx g2 i2=>?_
   have r2:=g2.rem
   have a2:=g2.2
   simp only [↓EJ,FY,simprocAttr]
   refine hK _ ?_;clear hK K
   refine WC.cond rfl (fun h=>?_) fun h=>?_
   ·obtain rfl:b2=true:=by simpa using h
    dsimp only at hx
    have q2:=(Bm i1 h2).rem
    refine WC.skip (hK3 _ ?_)
    refine WC.b1 ?_
    refine WC.dg [⟨0,0,true,[]⟩,⟨1,0,true,[]⟩,⟨2,0,false,[]⟩,⟨3,1,false,[0,1]⟩,⟨4,2,false,[]⟩,⟨5,1,false,[]⟩,⟨6,0,false,[]⟩,⟨7,1,false,[]⟩] [0,1,0,4,12,31,63,127] fun K hK=>?_
    simp only [↓EJ,FY,simprocAttr,MS]
    repeat rw [Ae] at hx
    refine Af hx (C4 ts s2 i2) (by simp only [CL,PCL,TCL,DCL,FCL,RCL,MCL,BCL,GCL,and_self]) (fun v=>by simp only [CL,PCL,TCL,DCL,FCL,RCL,MCL,BCL,GCL,and_self]) fun t s3 h3 hx=>?_
    have g3:=B9 i2 h3
    have i3:=g3.1
    have r3:=g3.rem
    have a3:=g3.2
    simp only [↓EJ,FY,simprocAttr,MS]
    refine ⟨by rw [List.length_map],by omega,by omega,?_⟩
    refine hK _ (Aa [0,2,3,4,5,7,18,29,38,67,106] ?_);clear hK K
    refine F9 [1] ?_
    simp only [↓EJ,FY,simprocAttr,EZ]
    repeat rw [Ae] at hx
    refine CallX.exp hx i3 fun u4 s4 h4 hx g4 i4=>?_
    have r4:=g4.rem
    have a4:=g4.2
    simp only [↓EJ,FY,simprocAttr,EZ]
    try simp only [EQ,simprocAttr]
    refine ⟨(m,acc ++ [t],s4),[0,1,3],⟨i4,by dsimp only;omega,by simp only [List.length_append,List.length_cons,List.length_nil];omega,hx⟩,by dsimp only;omega,?_⟩
    dsimp only
    rw [if_neg (by simp)]
    exact Conv.all (by simp only [EC,simprocAttr,PRN,MRN,DRN,DS,MS,PGS,PGR,A3,Gb,Aw,List.map_append,List.map_cons,List.map_nil,List.length_append,List.length_cons,List.length_nil])
   ·obtain rfl:b2=false:=by simpa using h
    dsimp only at hx
    simp only [Ay] at hx
    refine Dy 1 2 0 rfl rfl rfl (by decide) (by simp) ?_
    simp only [List.set_cons_zero,List.set_cons_succ]
    refine WC.exit ?_
    simp only [EQ,reduceIte,Nat.reduceEqDiff]
    try simp only [EQ,reduceIte,Nat.reduceEqDiff]
    refine ⟨(acc,s2),[0,1],⟨i2,hx⟩,?_⟩
    dsimp only
    rw [Q5 hne]
    have ht:List.take acc.length (List.drop 0 (List.map PVal.str acc))=List.map PVal.str acc:=by rw [List.drop_zero,List.take_of_length_le (by simp)]
    rw [ht]
    exact Conv.all (by simp only [EC,simprocAttr,PRN,MRN,DRN,DS,MS,PGS,PGR,A3,Gb])
 ·rintro ⟨ps,s1⟩ ⟨i1,hx1⟩
  dsimp only at i1 hx1 ⊢
  clear hx i0
  rename x=_=>hx
  unfold Lf at hx
  refine Bt (X:=(List Fn × List Fn) × PS) (fun y=>PInv ts y.2∧x=Fr ts ps y.1 y.2) (fun y=>⟨[(3,.ptr (.l 1) 0 0),(2,.ptr (.l 0) 0 0),(0,.ptr (.o 0) 0 0)],[Bq ts y.2],[.row [.agg [.nils,.nils,.nils,.nils,.nils,.str []]] 6 32,.row [.agg [Cs ps,D4 y.1.1,D4 y.1.2,.nils,.nils,.str []]] 6 32],[]⟩) ?_ ?_
  ·refine WC.b1 ?_
   refine WC.loop (X:=Nat × List Fn × List Fn × PS) (fun y=>if y.2.1=[] then (if y.2.2.1=[] then ⟨[(3,.ptr (.l 1) 0 0),(2,.ptr (.l 0) 0 0),(0,.ptr (.o 0) 0 0)],[Bq ts y.2.2.2],[.row [.agg [.nils,.nils,.nils,.nils,.nils,.str []]] 6 32,.row [.agg [Cs ps,.nils,.nils,.nils,.nils,.str []]] 6 32],[]⟩ else ⟨[(3,.ptr (.l 1) 0 0),(2,.ptr (.l 0) 0 0),(0,.ptr (.o 0) 0 0)],[Bq ts y.2.2.2],[.row [.agg [.nils,.nils,.nils,.nils,.nils,.str []]] 6 32,.row [.agg [Cs ps,.nils,.ref (.l 2) 0 y.2.2.1.length,.nils,.nils,.str []]] 6 32,.row (y.2.2.1.map fnV) 5 70],[]⟩) else (if y.2.2.1=[] then ⟨[(3,.ptr (.l 1) 0 0),(2,.ptr (.l 0) 0 0),(0,.ptr (.o 0) 0 0)],[Bq ts y.2.2.2],[.row [.agg [.nils,.nils,.nils,.nils,.nils,.str []]] 6 32,.row [.agg [Cs ps,.ref (.l 2) 0 y.2.1.length,.nils,.nils,.nils,.str []]] 6 32,.row (y.2.1.map fnV) 5 70],[]⟩ else ⟨[(3,.ptr (.l 1) 0 0),(2,.ptr (.l 0) 0 0),(0,.ptr (.o 0) 0 0)],[Bq ts y.2.2.2],[.row [.agg [.nils,.nils,.nils,.nils,.nils,.str []]] 6 32,.row [.agg [Cs ps,.ref (.l 2) 0 y.2.1.length,.ref (.l 3) 0 y.2.2.1.length,.nils,.nils,.str []]] 6 32,.row (y.2.1.map fnV) 5 70,.row (y.2.2.1.map fnV) 5 70],[]⟩))
    (fun y=>PInv ts y.2.2.2∧rem ts y.2.2.2 + 1≤y.1∧y.2.1.length≤y.2.2.2.at_∧y.2.2.1.length≤y.2.2.2.at_∧x=bnd (Gy ts y.1 y.2.1 y.2.2.1 y.2.2.2) (Fr ts ps)) (fun y=>y.1) (rem ts s1 + 1,[],[],s1) [0,1] ⟨i1,Nat.le_refl _,Nat.zero_le _,Nat.zero_le _,hx⟩ ?_ ?_
   ·dsimp only
    rw [if_pos rfl,if_pos rfl]
    exact Conv.all (by simp only [EC,simprocAttr,PRN,MRN,DRN,DS,MS,PGS,PGR,A3])
   clear hx i1
   rintro ⟨m,F,Q,s1⟩ ⟨i1,hr,hlf,hlq,hx⟩
   dsimp only at i1 hr hlf hlq hx ⊢
   have hle:=i1.le
   have hlt:=i1.lt
   obtain ⟨m,rfl⟩:∃ k,m=k + 1:=⟨m - 1,by omega⟩
   rw [Gy] at hx
   rcases Classical.em (F=[]) with hF | hF <;> rcases Classical.em (Q=[]) with hQ | hQ
   ·skip
    subst hF
    subst hQ
    rw [if_pos rfl,if_pos rfl]
    refine WC.b1 ?_
    refine WC.bs fun K4 hK4=>?_
    refine WC.rs fun K hK=>?_
    simp only [↓EJ,FY,simprocAttr]
    repeat rw [Ae] at hx
    refine CallX.acc hx i1 fun b2 s2 h2 hx g2 i2=>?_
    have r2:=g2.rem
    have a2:=g2.2
    simp only [↓EJ,FY,simprocAttr]
    refine hK _ ?_;clear hK K
    refine WC.cond rfl (fun h=>?_) fun h=>?_
    ·obtain rfl:b2=true:=by simpa using h
     dsimp only at hx
     have q2:=(Bm i1 h2).rem
     unfold Nw at hx
     refine WC.rs fun K hK=>?_
     simp only [↓EJ,FY,simprocAttr]
     repeat rw [Ae] at hx
     refine Af hx (C4 ts s2 i2) (by simp only [CL,PCL,TCL,DCL,FCL,RCL,MCL,BCL,GCL,and_self]) (fun v=>by simp only [CL,PCL,TCL,DCL,FCL,RCL,MCL,BCL,GCL,and_self]) fun w s3 h3 hx=>?_
     have g3:=B9 i2 h3
     have i3:=g3.1
     have r3:=g3.rem
     have a3:=g3.2
     simp only [↓EJ,FY,simprocAttr,MS]
     refine hK _ ?_;clear hK K
     refine A2 [1] fun K hK=>?_
     simp only [↓EJ,FY,simprocAttr,EZ]
     repeat rw [Ae] at hx
     refine CallX.exp hx i3 fun u4 s4 h4 hx g4 i4=>?_
     have r4:=g4.rem
     have a4:=g4.2
     simp only [↓EJ,FY,simprocAttr,EZ]
     refine hK _ (Aa [0,2,3,4,5,18,29,38,67,106] ?_);clear hK K
     refine Bt (X:=List De × PS) (fun y=>Ge ts s4 y.2∧x=bnd (Fo ts w y.1 y.2) (fun f s=>bnd (Gy ts m ([] ++ [f]) [] s) (Fr ts ps))) (fun y=>⟨[(4,.ptr (.l 2) 0 0),(3,.ptr (.l 1) 0 0),(2,.ptr (.l 0) 0 0),(0,.ptr (.o 0) 0 0)],[Bq ts y.2],[.row [.agg [.nils,.nils,.nils,.nils,.nils,.str []]] 6 32,.row [.agg [Cs ps,.nils,.nils,.nils,.nils,.str []]] 6 32,.row [.agg [.str w,Dq y.1,.nils,.nils,.str []]] 5 70],[]⟩) ?_ ?_
     ·cases hp:isP ts s4 [41] with
      | true =>
        simp only [hp,Ay] at hx
        refine WC.rs fun K hK=>?_
        simp only [↓EJ,FY,simprocAttr]
        refine CallX.mk (CallW.one (r:=.o 0) (D3 ts s4 i4 [41]) rfl (Ag ts s4) (Ag ts s4) (by simp only [CL]) (by simp [Ba,ren,A4]) ?_)
        rw [hp]
        simp only [↓EJ,FY,simprocAttr]
        refine hK _ ?_;clear hK K
        refine WC.cond rfl (fun h=>?_) fun h=>?_
        ·simp at h
        refine WC.skip ?_
        try simp only [EQ,simprocAttr]
        refine ⟨([],s4),[0,1,2],⟨Ge.refl i4,hx⟩,?_⟩
        dsimp only
        rw [Di]
        exact Conv.all (by simp only [EC,simprocAttr,PRN,MRN,DRN,DS,MS,PGS,PGR,A3])
      | false =>
        simp only [hp] at hx
        refine WC.rs fun K hK=>?_
        simp only [↓EJ,FY,simprocAttr]
        refine CallX.mk (CallW.one (r:=.o 0) (D3 ts s4 i4 [41]) rfl (Ag ts s4) (Ag ts s4) (by simp only [CL]) (by simp [Ba,ren,A4]) ?_)
        rw [hp]
        simp only [↓EJ,FY,simprocAttr]
        refine hK _ ?_;clear hK K
        refine WC.cond rfl (fun h=>?_) fun h=>?_
        rotate_left
        ·simp at h
        refine WC.dg [⟨0,0,true,[]⟩,⟨1,0,true,[]⟩,⟨2,0,false,[]⟩,⟨3,1,false,[0,1]⟩,⟨4,2,false,[]⟩,⟨5,1,false,[]⟩,⟨6,0,false,[]⟩,⟨7,1,false,[]⟩] [0,1,0,4,12,31,63,127] fun K hK=>?_
        simp only [↓EJ,FY,simprocAttr,MS]
        repeat rw [Ae] at hx
        refine Af hx (Ha ts s4 i4) (by simp only [CL,PCL,TCL,DCL,FCL,RCL,MCL,BCL,GCL,and_self]) (fun v=>by simp only [CL,PCL,TCL,DCL,FCL,RCL,MCL,BCL,GCL,and_self]) fun t s5 h5 hx=>?_
        have g5:=F6 i4 h5
        have i5:=g5.1
        have r5:=g5.rem
        have a5:=g5.2
        simp only [↓EJ,FY,simprocAttr,DS,MS]
        refine hK _ (Aa [0,2,3,4,5,18,29,38,67,106] ?_);clear hK K
        refine WC.b1 ?_
        refine WC.loop (X:=Nat × List De × PS) (fun y=>⟨[(4,.ptr (.l 2) 0 0),(3,.ptr (.l 1) 0 0),(2,.ptr (.l 0) 0 0),(0,.ptr (.o 0) 0 0)],[Bq ts y.2.2],[.row [.agg [.nils,.nils,.nils,.nils,.nils,.str []]] 6 32,.row [.agg [Cs ps,.nils,.nils,.nils,.nils,.str []]] 6 32,.row [.agg [.str w,.ref (.l 3) 0 y.2.1.length,.nils,.nils,.str []]] 5 70,.row (y.2.1.map deV) 6 75],[]⟩)
         (fun y=>Ge ts s4 y.2.2∧rem ts y.2.2 + 1≤y.1∧y.2.1≠[]∧y.2.1.length≤y.2.2.at_∧x=bnd (Gt ts y.1 y.2.1 y.2.2) (fun a s=>bnd (Fo ts w a s) (fun f s=>bnd (Gy ts m ([] ++ [f]) [] s) (Fr ts ps)))) (fun y=>y.1) (rem ts s5 + 1,[t],s5) [0,1,2,3] ⟨g5.ge,Nat.le_refl _,by simp,by simp only [List.length_cons,List.length_nil];omega,hx⟩ ?_ ?_
        ·exact Conv.all (by simp only [EC,simprocAttr,PRN,MRN,DRN,DS,MS,PGS,PGR,A3,Aw,List.map_append,List.map_cons,List.map_nil,List.length_append,List.length_cons,List.length_nil])
        clear hx r5 a5 h5 i5
        rintro ⟨mm,acc,s5⟩ ⟨g5,hr5,hne,hlen,hx⟩
        dsimp only at g5 hr5 hne hlen hx ⊢
        have i5:=g5.1
        have hle5:=i5.le
        have hlt5:=i5.lt
        obtain ⟨mm,rfl⟩:∃ k,mm=k + 1:=⟨mm - 1,by omega⟩
        rw [Gt] at hx
        refine Am fun K7 hK7=>?_
        refine WC.rs fun K hK=>?_
        simp only [↓EJ,FY,simprocAttr]
        repeat rw [Ae] at hx
        refine CallX.acc hx i5 fun b6 s6 h6 hx g6 i6=>?_
        have r6:=g6.rem
        have a6:=g6.2
        simp only [↓EJ,FY,simprocAttr]
        refine hK _ ?_;clear hK K
        refine WC.cond rfl (fun h=>?_) fun h=>?_
        ·obtain rfl:b6=true:=by simpa using h
         dsimp only at hx
         have q6:=(Bm i5 h6).rem
         refine WC.skip (hK7 _ ?_)
         refine WC.b1 ?_
         refine Dn [⟨0,0,true,[]⟩,⟨1,0,true,[]⟩,⟨2,0,false,[]⟩,⟨3,1,false,[0,1]⟩,⟨4,2,false,[]⟩,⟨5,1,false,[]⟩,⟨6,0,false,[]⟩,⟨7,1,false,[]⟩] [0,1,0,4,12,31,63,127] ?_
         simp only [↓EJ,FY,simprocAttr,MS]
         repeat rw [Ae] at hx
         refine Af hx (Ha ts s6 i6) (by simp only [CL,PCL,TCL,DCL,FCL,RCL,MCL,BCL,GCL,and_self]) (fun v=>by simp only [CL,PCL,TCL,DCL,FCL,RCL,MCL,BCL,GCL,and_self]) fun t s7 h7 hx=>?_
         have g7:=F6 i6 h7
         have i7:=g7.1
         have r7:=g7.rem
         have a7:=g7.2
         simp only [↓EJ,FY,simprocAttr,DS,MS]
         refine ⟨by rw [List.length_map],by omega,by omega,?_⟩
         try simp only [EQ,simprocAttr]
         refine ⟨(mm,acc ++ [t],s7),[0,1,2,4],⟨g5.trans (g6.trans g7.ge),by dsimp only;omega,by simp,by simp only [List.length_append,List.length_cons,List.length_nil];omega,hx⟩,by dsimp only;omega,?_⟩
         dsimp only
         exact Conv.all (by simp only [EC,simprocAttr,PRN,MRN,DRN,DS,MS,PGS,PGR,A3,Aw,List.map_append,List.map_cons,List.map_nil,List.length_append,List.length_cons,List.length_nil])
        ·obtain rfl:b6=false:=by simpa using h
         dsimp only at hx
         simp only [Ay] at hx
         refine Dy 2 3 1 rfl rfl rfl (by decide) (by simp) ?_
         simp only [List.set_cons_zero,List.set_cons_succ]
         refine WC.exit ?_
         simp only [EQ,reduceIte,Nat.reduceEqDiff]
         try simp only [EQ,reduceIte,Nat.reduceEqDiff]
         refine ⟨(acc,s6),[0,1,2],⟨g5.trans g6,hx⟩,?_⟩
         dsimp only
         rw [Ka hne]
         have ht:List.take acc.length (List.drop 0 (List.map deV acc))=List.map deV acc:=by rw [List.drop_zero,List.take_of_length_le (by simp)]
         rw [ht]
         exact Conv.all (by simp only [EC,simprocAttr,PRN,MRN,DRN,DS,MS,PGS,PGR,A3])
     rintro ⟨al,s5⟩ ⟨g5,hx5⟩
     dsimp only at g5 hx5 ⊢
     clear hx
     rename x=_=>hx
     unfold Fo at hx
     have i5:=g5.1
     have r5:=g5.rem
     have a5:=g5.2
     refine A2 [1] fun K hK=>?_
     simp only [↓EJ,FY,simprocAttr,EZ]
     repeat rw [Ae] at hx
     refine CallX.exp hx i5 fun u6 s6 h6 hx g6 i6=>?_
     have r6:=g6.rem
     have a6:=g6.2
     simp only [↓EJ,FY,simprocAttr,EZ]
     refine hK _ ?_;clear hK K
     refine WC.rs fun K hK=>?_
     simp only [↓EJ,FY,simprocAttr]
     repeat rw [Ae] at hx
     refine Af hx (Fm ts s6 i6) (by simp only [CL,PCL,TCL,DCL,FCL,RCL,MCL,BCL,GCL,and_self]) (fun v=>by simp only [CL,PCL,TCL,DCL,FCL,RCL,MCL,BCL,GCL,and_self]) fun b s7 h7 hx=>?_
     have g7:=Fd i6 h7
     have i7:=g7.1
     have r7:=g7.rem
     have a7:=g7.2
     simp only [↓EJ,FY,simprocAttr,blV,MS,Bi]
     refine hK _ (Aa [0,2,3,4,5,18,29,38,67,106] ?_);clear hK K
     refine A2 [1] fun K hK=>?_
     simp only [↓EJ,FY,simprocAttr,EZ]
     repeat rw [Ae] at hx
     refine CallX.exp hx i7 fun u8 s8 h8 hx g8 i8=>?_
     have r8:=g8.rem
     have a8:=g8.2
     have i8l:=i8.le
     have i8t:=i8.lt
     simp only [↓EJ,FY,simprocAttr,EZ]
     refine hK _ ?_;clear hK K
     refine A2 [3] fun K hK=>?_
     simp only [↓EJ,FY,simprocAttr,EZ,MS]
     refine hK _ (Aa [0,2,3,4,5,18,29,38,67,106] ?_);clear hK K
     refine WC.exit ?_
     simp only [EQ,reduceIte,Nat.reduceEqDiff]
     try simp only [EQ,reduceIte,Nat.reduceEqDiff]
     try rw [Ay] at hx
     refine ⟨(m,[] ++ [⟨w,al,b.vars,b.body,b.result⟩],[],s8),[0,1,3],⟨i8,by dsimp only;omega,by simp only [List.length_append,List.length_cons,List.length_nil];omega,by first | exact Nat.zero_le _ | (dsimp only;omega),hx⟩,by dsimp only;omega,?_⟩
     dsimp only
     rw [if_neg (by simp),if_pos rfl]
     exact Conv.all (by simp only [EC,simprocAttr,PRN,MRN,DRN,DS,MS,PGS,PGR,A3,Aw,List.map_append,List.map_cons,List.map_nil,List.length_append,List.length_cons,List.length_nil,List.nil_append,fnV,fnC])
    obtain rfl:b2=false:=by simpa using h
    dsimp only at hx
    refine WC.rs fun K hK=>?_
    simp only [↓EJ,FY,simprocAttr]
    repeat rw [Ae] at hx
    refine CallX.acc hx i2 fun b3 s3 h3 hx g3 i3=>?_
    have r3:=g3.rem
    have a3:=g3.2
    simp only [↓EJ,FY,simprocAttr]
    refine hK _ ?_;clear hK K
    refine WC.cond rfl (fun h=>?_) fun h=>?_
    ·obtain rfl:b3=true:=by simpa using h
     dsimp only at hx
     have q3:=(Bm i2 h3).rem
     unfold J1 at hx
     refine WC.rs fun K hK=>?_
     simp only [↓EJ,FY,simprocAttr]
     repeat rw [Ae] at hx
     refine Af hx (C4 ts s3 i3) (by simp only [CL,PCL,TCL,DCL,FCL,RCL,MCL,BCL,GCL,and_self]) (fun v=>by simp only [CL,PCL,TCL,DCL,FCL,RCL,MCL,BCL,GCL,and_self]) fun w s4 h4 hx=>?_
     have g4:=B9 i3 h4
     have i4:=g4.1
     have r4:=g4.rem
     have a4:=g4.2
     simp only [↓EJ,FY,simprocAttr,MS]
     refine hK _ ?_;clear hK K
     refine A2 [1] fun K hK=>?_
     simp only [↓EJ,FY,simprocAttr,EZ]
     repeat rw [Ae] at hx
     refine CallX.exp hx i4 fun u6 s6 h6 hx g6 i6=>?_
     have r6:=g6.rem
     have a6:=g6.2
     simp only [↓EJ,FY,simprocAttr,EZ]
     refine hK _ (Aa [0,2,3,4,5,18,29,38,67,106] ?_);clear hK K
     refine WC.rs fun K hK=>?_
     simp only [↓EJ,FY,simprocAttr]
     repeat rw [Ae] at hx
     refine Af hx (Fm ts s6 i6) (by simp only [CL,PCL,TCL,DCL,FCL,RCL,MCL,BCL,GCL,and_self]) (fun v=>by simp only [CL,PCL,TCL,DCL,FCL,RCL,MCL,BCL,GCL,and_self]) fun b s7 h7 hx=>?_
     have g7:=Fd i6 h7
     have i7:=g7.1
     have r7:=g7.rem
     have a7:=g7.2
     simp only [↓EJ,FY,simprocAttr,blV,MS,Bi]
     refine hK _ (Aa [0,2,3,4,5,18,29,38,67,106] ?_);clear hK K
     refine A2 [1] fun K hK=>?_
     simp only [↓EJ,FY,simprocAttr,EZ]
     repeat rw [Ae] at hx
     refine CallX.exp hx i7 fun u8 s8 h8 hx g8 i8=>?_
     have r8:=g8.rem
     have a8:=g8.2
     have i8l:=i8.le
     have i8t:=i8.lt
     simp only [↓EJ,FY,simprocAttr,EZ]
     refine hK _ ?_;clear hK K
     refine A2 [3] fun K hK=>?_
     simp only [↓EJ,FY,simprocAttr,EZ,MS]
     refine hK _ (Aa [0,2,3,4,5,18,29,38,67,106] ?_);clear hK K
     refine WC.exit ?_
     simp only [EQ,reduceIte,Nat.reduceEqDiff]
     try simp only [EQ,reduceIte,Nat.reduceEqDiff]
     try rw [Ay] at hx
     refine ⟨(m,[],[] ++ [⟨w,[],b.vars,b.body,b.result⟩],s8),[0,1,3],⟨i8,by dsimp only;omega,by first | exact Nat.zero_le _ | (dsimp only;omega),by simp only [List.length_append,List.length_cons,List.length_nil];omega,hx⟩,by dsimp only;omega,?_⟩
     dsimp only
     rw [if_pos rfl,if_neg (by simp)]
     exact Conv.all (by simp only [EC,simprocAttr,PRN,MRN,DRN,DS,MS,PGS,PGR,A3,Aw,List.map_append,List.map_cons,List.map_nil,List.length_append,List.length_cons,List.length_nil,List.nil_append,fnV,fnC,Di])
    obtain rfl:b3=false:=by simpa using h
    dsimp only at hx
    simp only [Ay] at hx
    refine WC.skip (hK4 _ ?_)
    refine WC.exit ?_
    simp only [EQ,reduceIte,Nat.reduceEqDiff]
    try simp only [EQ,reduceIte,Nat.reduceEqDiff]
    refine ⟨(([],[]),s3),[0,1],⟨i3,hx⟩,?_⟩
    dsimp only
    rw [Ip]
    exact Conv.all (by simp only [EC,simprocAttr,PRN,MRN,DRN,DS,MS,PGS,PGR,A3])
   ·skip
    subst hF
    rw [if_pos rfl,if_neg hQ]
    refine WC.b1 ?_
    refine WC.bs fun K4 hK4=>?_
    refine WC.rs fun K hK=>?_
    simp only [↓EJ,FY,simprocAttr]
    repeat rw [Ae] at hx
    refine CallX.acc hx i1 fun b2 s2 h2 hx g2 i2=>?_
    have r2:=g2.rem
    have a2:=g2.2
    simp only [↓EJ,FY,simprocAttr]
    refine hK _ ?_;clear hK K
    refine WC.cond rfl (fun h=>?_) fun h=>?_
    ·obtain rfl:b2=true:=by simpa using h
     dsimp only at hx
     have q2:=(Bm i1 h2).rem
     unfold Nw at hx
     refine WC.rs fun K hK=>?_
     simp only [↓EJ,FY,simprocAttr]
     repeat rw [Ae] at hx
     refine Af hx (C4 ts s2 i2) (by simp only [CL,PCL,TCL,DCL,FCL,RCL,MCL,BCL,GCL,and_self]) (fun v=>by simp only [CL,PCL,TCL,DCL,FCL,RCL,MCL,BCL,GCL,and_self]) fun w s3 h3 hx=>?_
     have g3:=B9 i2 h3
     have i3:=g3.1
     have r3:=g3.rem
     have a3:=g3.2
     simp only [↓EJ,FY,simprocAttr,MS]
     refine hK _ ?_;clear hK K
     refine A2 [1] fun K hK=>?_
     simp only [↓EJ,FY,simprocAttr,EZ]
     repeat rw [Ae] at hx
     refine CallX.exp hx i3 fun u4 s4 h4 hx g4 i4=>?_
     have r4:=g4.rem
     have a4:=g4.2
     simp only [↓EJ,FY,simprocAttr,EZ]
     refine hK _ (Aa [0,2,3,4,5,18,29,38,67,106] ?_);clear hK K
     refine Bt (X:=List De × PS) (fun y=>Ge ts s4 y.2∧x=bnd (Fo ts w y.1 y.2) (fun f s=>bnd (Gy ts m ([] ++ [f]) Q s) (Fr ts ps))) (fun y=>⟨[(4,.ptr (.l 3) 0 0),(3,.ptr (.l 1) 0 0),(2,.ptr (.l 0) 0 0),(0,.ptr (.o 0) 0 0)],[Bq ts y.2],[.row [.agg [.nils,.nils,.nils,.nils,.nils,.str []]] 6 32,.row [.agg [Cs ps,.nils,.ref (.l 2) 0 Q.length,.nils,.nils,.str []]] 6 32,.row (Q.map fnV) 5 70,.row [.agg [.str w,Dq y.1,.nils,.nils,.str []]] 5 70],[]⟩) ?_ ?_
     ·cases hp:isP ts s4 [41] with
      | true =>
        simp only [hp,Ay] at hx
        refine WC.rs fun K hK=>?_
        simp only [↓EJ,FY,simprocAttr]
        refine CallX.mk (CallW.one (r:=.o 0) (D3 ts s4 i4 [41]) rfl (Ag ts s4) (Ag ts s4) (by simp only [CL]) (by simp [Ba,ren,A4]) ?_)
        rw [hp]
        simp only [↓EJ,FY,simprocAttr]
        refine hK _ ?_;clear hK K
        refine WC.cond rfl (fun h=>?_) fun h=>?_
        ·simp at h
        refine WC.skip ?_
        try simp only [EQ,simprocAttr]
        refine ⟨([],s4),[0,1,2,3],⟨Ge.refl i4,hx⟩,?_⟩
        dsimp only
        rw [Di]
        exact Conv.all (by simp only [EC,simprocAttr,PRN,MRN,DRN,DS,MS,PGS,PGR,A3])
      | false =>
        simp only [hp] at hx
        refine WC.rs fun K hK=>?_
        simp only [↓EJ,FY,simprocAttr]
        refine CallX.mk (CallW.one (r:=.o 0) (D3 ts s4 i4 [41]) rfl (Ag ts s4) (Ag ts s4) (by simp only [CL]) (by simp [Ba,ren,A4]) ?_)
        rw [hp]
        simp only [↓EJ,FY,simprocAttr]
        refine hK _ ?_;clear hK K
        refine WC.cond rfl (fun h=>?_) fun h=>?_
        rotate_left
        ·simp at h
        refine WC.dg [⟨0,0,true,[]⟩,⟨1,0,true,[]⟩,⟨2,0,false,[]⟩,⟨3,1,false,[0,1]⟩,⟨4,2,false,[]⟩,⟨5,1,false,[]⟩,⟨6,0,false,[]⟩,⟨7,1,false,[]⟩] [0,1,0,4,12,31,63,127] fun K hK=>?_
        simp only [↓EJ,FY,simprocAttr,MS]
        repeat rw [Ae] at hx
        refine Af hx (Ha ts s4 i4) (by simp only [CL,PCL,TCL,DCL,FCL,RCL,MCL,BCL,GCL,and_self]) (fun v=>by simp only [CL,PCL,TCL,DCL,FCL,RCL,MCL,BCL,GCL,and_self]) fun t s5 h5 hx=>?_
        have g5:=F6 i4 h5
        have i5:=g5.1
        have r5:=g5.rem
        have a5:=g5.2
        simp only [↓EJ,FY,simprocAttr,DS,MS]
        refine hK _ (Aa [0,2,3,4,5,18,29,38,67,106] ?_);clear hK K
        refine WC.b1 ?_
        refine WC.loop (X:=Nat × List De × PS) (fun y=>⟨[(4,.ptr (.l 3) 0 0),(3,.ptr (.l 1) 0 0),(2,.ptr (.l 0) 0 0),(0,.ptr (.o 0) 0 0)],[Bq ts y.2.2],[.row [.agg [.nils,.nils,.nils,.nils,.nils,.str []]] 6 32,.row [.agg [Cs ps,.nils,.ref (.l 2) 0 Q.length,.nils,.nils,.str []]] 6 32,.row (Q.map fnV) 5 70,.row [.agg [.str w,.ref (.l 4) 0 y.2.1.length,.nils,.nils,.str []]] 5 70,.row (y.2.1.map deV) 6 75],[]⟩)
         (fun y=>Ge ts s4 y.2.2∧rem ts y.2.2 + 1≤y.1∧y.2.1≠[]∧y.2.1.length≤y.2.2.at_∧x=bnd (Gt ts y.1 y.2.1 y.2.2) (fun a s=>bnd (Fo ts w a s) (fun f s=>bnd (Gy ts m ([] ++ [f]) Q s) (Fr ts ps)))) (fun y=>y.1) (rem ts s5 + 1,[t],s5) [0,1,2,3,4] ⟨g5.ge,Nat.le_refl _,by simp,by simp only [List.length_cons,List.length_nil];omega,hx⟩ ?_ ?_
        ·exact Conv.all (by simp only [EC,simprocAttr,PRN,MRN,DRN,DS,MS,PGS,PGR,A3,Aw,List.map_append,List.map_cons,List.map_nil,List.length_append,List.length_cons,List.length_nil])
        clear hx r5 a5 h5 i5
        rintro ⟨mm,acc,s5⟩ ⟨g5,hr5,hne,hlen,hx⟩
        dsimp only at g5 hr5 hne hlen hx ⊢
        have i5:=g5.1
        have hle5:=i5.le
        have hlt5:=i5.lt
        obtain ⟨mm,rfl⟩:∃ k,mm=k + 1:=⟨mm - 1,by omega⟩
        rw [Gt] at hx
        refine Am fun K7 hK7=>?_
        refine WC.rs fun K hK=>?_
        simp only [↓EJ,FY,simprocAttr]
        repeat rw [Ae] at hx
        refine CallX.acc hx i5 fun b6 s6 h6 hx g6 i6=>?_
        have r6:=g6.rem
        have a6:=g6.2
        simp only [↓EJ,FY,simprocAttr]
        refine hK _ ?_;clear hK K
        refine WC.cond rfl (fun h=>?_) fun h=>?_
        ·obtain rfl:b6=true:=by simpa using h
         dsimp only at hx
         have q6:=(Bm i5 h6).rem
         refine WC.skip (hK7 _ ?_)
         refine WC.b1 ?_
         refine Dn [⟨0,0,true,[]⟩,⟨1,0,true,[]⟩,⟨2,0,false,[]⟩,⟨3,1,false,[0,1]⟩,⟨4,2,false,[]⟩,⟨5,1,false,[]⟩,⟨6,0,false,[]⟩,⟨7,1,false,[]⟩] [0,1,0,4,12,31,63,127] ?_
         simp only [↓EJ,FY,simprocAttr,MS]
         repeat rw [Ae] at hx
         refine Af hx (Ha ts s6 i6) (by simp only [CL,PCL,TCL,DCL,FCL,RCL,MCL,BCL,GCL,and_self]) (fun v=>by simp only [CL,PCL,TCL,DCL,FCL,RCL,MCL,BCL,GCL,and_self]) fun t s7 h7 hx=>?_
         have g7:=F6 i6 h7
         have i7:=g7.1
         have r7:=g7.rem
         have a7:=g7.2
         simp only [↓EJ,FY,simprocAttr,DS,MS]
         refine ⟨by rw [List.length_map],by omega,by omega,?_⟩
         try simp only [EQ,simprocAttr]
         refine ⟨(mm,acc ++ [t],s7),[0,1,2,3,5],⟨g5.trans (g6.trans g7.ge),by dsimp only;omega,by simp,by simp only [List.length_append,List.length_cons,List.length_nil];omega,hx⟩,by dsimp only;omega,?_⟩
         dsimp only
         exact Conv.all (by simp only [EC,simprocAttr,PRN,MRN,DRN,DS,MS,PGS,PGR,A3,Aw,List.map_append,List.map_cons,List.map_nil,List.length_append,List.length_cons,List.length_nil])
        ·obtain rfl:b6=false:=by simpa using h
         dsimp only at hx
         simp only [Ay] at hx
         refine Dy 3 4 1 rfl rfl rfl (by decide) (by simp) ?_
         simp only [List.set_cons_zero,List.set_cons_succ]
         refine WC.exit ?_
         simp only [EQ,reduceIte,Nat.reduceEqDiff]
         try simp only [EQ,reduceIte,Nat.reduceEqDiff]
         refine ⟨(acc,s6),[0,1,2,3],⟨g5.trans g6,hx⟩,?_⟩
         dsimp only
         rw [Ka hne]
         have ht:List.take acc.length (List.drop 0 (List.map deV acc))=List.map deV acc:=by rw [List.drop_zero,List.take_of_length_le (by simp)]
         rw [ht]
         exact Conv.all (by simp only [EC,simprocAttr,PRN,MRN,DRN,DS,MS,PGS,PGR,A3])
     rintro ⟨al,s5⟩ ⟨g5,hx5⟩
     dsimp only at g5 hx5 ⊢
     clear hx
     rename x=_=>hx
     unfold Fo at hx
     have i5:=g5.1
     have r5:=g5.rem
     have a5:=g5.2
     refine A2 [1] fun K hK=>?_
     simp only [↓EJ,FY,simprocAttr,EZ]
     repeat rw [Ae] at hx
     refine CallX.exp hx i5 fun u6 s6 h6 hx g6 i6=>?_
     have r6:=g6.rem
     have a6:=g6.2
     simp only [↓EJ,FY,simprocAttr,EZ]
     refine hK _ ?_;clear hK K
     refine WC.rs fun K hK=>?_
     simp only [↓EJ,FY,simprocAttr]
     repeat rw [Ae] at hx
     refine Af hx (Fm ts s6 i6) (by simp only [CL,PCL,TCL,DCL,FCL,RCL,MCL,BCL,GCL,and_self]) (fun v=>by simp only [CL,PCL,TCL,DCL,FCL,RCL,MCL,BCL,GCL,and_self]) fun b s7 h7 hx=>?_
     have g7:=Fd i6 h7
     have i7:=g7.1
     have r7:=g7.rem
     have a7:=g7.2
     simp only [↓EJ,FY,simprocAttr,blV,MS,Bi]
     refine hK _ (Aa [0,2,3,4,5,18,29,38,67,106] ?_);clear hK K
     refine A2 [1] fun K hK=>?_
     simp only [↓EJ,FY,simprocAttr,EZ]
     repeat rw [Ae] at hx
     refine CallX.exp hx i7 fun u8 s8 h8 hx g8 i8=>?_
     have r8:=g8.rem
     have a8:=g8.2
     have i8l:=i8.le
     have i8t:=i8.lt
     simp only [↓EJ,FY,simprocAttr,EZ]
     refine hK _ ?_;clear hK K
     refine A2 [3] fun K hK=>?_
     simp only [↓EJ,FY,simprocAttr,EZ,MS]
     refine hK _ (Aa [0,2,3,4,5,18,29,38,67,106] ?_);clear hK K
     refine WC.exit ?_
     simp only [EQ,reduceIte,Nat.reduceEqDiff]
     try simp only [EQ,reduceIte,Nat.reduceEqDiff]
     try rw [Ay] at hx
     refine ⟨(m,[] ++ [⟨w,al,b.vars,b.body,b.result⟩],Q,s8),[0,1,4,2],⟨i8,by dsimp only;omega,by simp only [List.length_append,List.length_cons,List.length_nil];omega,by first | exact Nat.zero_le _ | (dsimp only;omega),hx⟩,by dsimp only;omega,?_⟩
     dsimp only
     rw [if_neg (by simp),if_neg hQ]
     exact Conv.all (by simp only [EC,simprocAttr,PRN,MRN,DRN,DS,MS,PGS,PGR,A3,Aw,List.map_append,List.map_cons,List.map_nil,List.length_append,List.length_cons,List.length_nil,List.nil_append,fnV,fnC])
    obtain rfl:b2=false:=by simpa using h
    dsimp only at hx
    refine WC.rs fun K hK=>?_
    simp only [↓EJ,FY,simprocAttr]
    repeat rw [Ae] at hx
    refine CallX.acc hx i2 fun b3 s3 h3 hx g3 i3=>?_
    have r3:=g3.rem
    have a3:=g3.2
    simp only [↓EJ,FY,simprocAttr]
    refine hK _ ?_;clear hK K
    refine WC.cond rfl (fun h=>?_) fun h=>?_
    ·obtain rfl:b3=true:=by simpa using h
     dsimp only at hx
     have q3:=(Bm i2 h3).rem
     unfold J1 at hx
     refine WC.rs fun K hK=>?_
     simp only [↓EJ,FY,simprocAttr]
     repeat rw [Ae] at hx
     refine Af hx (C4 ts s3 i3) (by simp only [CL,PCL,TCL,DCL,FCL,RCL,MCL,BCL,GCL,and_self]) (fun v=>by simp only [CL,PCL,TCL,DCL,FCL,RCL,MCL,BCL,GCL,and_self]) fun w s4 h4 hx=>?_
     have g4:=B9 i3 h4
     have i4:=g4.1
     have r4:=g4.rem
     have a4:=g4.2
     simp only [↓EJ,FY,simprocAttr,MS]
     refine hK _ ?_;clear hK K
     refine A2 [1] fun K hK=>?_
     simp only [↓EJ,FY,simprocAttr,EZ]
     repeat rw [Ae] at hx
     refine CallX.exp hx i4 fun u6 s6 h6 hx g6 i6=>?_
     have r6:=g6.rem
     have a6:=g6.2
     simp only [↓EJ,FY,simprocAttr,EZ]
     refine hK _ (Aa [0,2,3,4,5,18,29,38,67,106] ?_);clear hK K
     refine WC.rs fun K hK=>?_
     simp only [↓EJ,FY,simprocAttr]
     repeat rw [Ae] at hx
     refine Af hx (Fm ts s6 i6) (by simp only [CL,PCL,TCL,DCL,FCL,RCL,MCL,BCL,GCL,and_self]) (fun v=>by simp only [CL,PCL,TCL,DCL,FCL,RCL,MCL,BCL,GCL,and_self]) fun b s7 h7 hx=>?_
     have g7:=Fd i6 h7
     have i7:=g7.1
     have r7:=g7.rem
     have a7:=g7.2
     simp only [↓EJ,FY,simprocAttr,blV,MS,Bi]
     refine hK _ (Aa [0,2,3,4,5,18,29,38,67,106] ?_);clear hK K
     refine A2 [1] fun K hK=>?_
     simp only [↓EJ,FY,simprocAttr,EZ]
     repeat rw [Ae] at hx
     refine CallX.exp hx i7 fun u8 s8 h8 hx g8 i8=>?_
     have r8:=g8.rem
     have a8:=g8.2
     have i8l:=i8.le
     have i8t:=i8.lt
     simp only [↓EJ,FY,simprocAttr,EZ]
     refine hK _ ?_;clear hK K
     refine A2 [3] fun K hK=>?_
     simp only [↓EJ,FY,simprocAttr,EZ,MS]
     refine ⟨by rw [List.length_map],by omega,by omega,?_⟩
     refine hK _ (Aa [0,2,3,4,5,18,29,38,67,106] ?_);clear hK K
     refine WC.exit ?_
     simp only [EQ,reduceIte,Nat.reduceEqDiff]
     try simp only [EQ,reduceIte,Nat.reduceEqDiff]
     try rw [Ay] at hx
     refine ⟨(m,[],Q ++ [⟨w,[],b.vars,b.body,b.result⟩],s8),[0,1,4],⟨i8,by dsimp only;omega,by first | exact Nat.zero_le _ | (dsimp only;omega),by simp only [List.length_append,List.length_cons,List.length_nil];omega,hx⟩,by dsimp only;omega,?_⟩
     dsimp only
     rw [if_pos rfl,if_neg (by simp)]
     exact Conv.all (by simp only [EC,simprocAttr,PRN,MRN,DRN,DS,MS,PGS,PGR,A3,Aw,List.map_append,List.map_cons,List.map_nil,List.length_append,List.length_cons,List.length_nil,List.nil_append,fnV,fnC,Di])
    obtain rfl:b3=false:=by simpa using h
    dsimp only at hx
    simp only [Ay] at hx
    refine WC.skip (hK4 _ ?_)
    refine Dy 1 2 2 rfl rfl rfl (by decide) (by simp) ?_
    simp only [List.set_cons_zero,List.set_cons_succ]
    refine WC.exit ?_
    simp only [EQ,reduceIte,Nat.reduceEqDiff]
    try simp only [EQ,reduceIte,Nat.reduceEqDiff]
    refine ⟨(([],Q),s3),[0,1],⟨i3,hx⟩,?_⟩
    dsimp only
    rw [Ip,L5 hQ]
    have ht2:List.take Q.length (List.drop 0 (List.map fnV Q))=List.map fnV Q:=by rw [List.drop_zero,List.take_of_length_le (by simp)]
    rw [ht2]
    exact Conv.all (by simp only [EC,simprocAttr,PRN,MRN,DRN,DS,MS,PGS,PGR,A3])
   ·skip
    subst hQ
    rw [if_neg hF,if_pos rfl]
    refine WC.b1 ?_
    refine WC.bs fun K4 hK4=>?_
    refine WC.rs fun K hK=>?_
    simp only [↓EJ,FY,simprocAttr]
    repeat rw [Ae] at hx
    refine CallX.acc hx i1 fun b2 s2 h2 hx g2 i2=>?_
    have r2:=g2.rem
    have a2:=g2.2
    simp only [↓EJ,FY,simprocAttr]
    refine hK _ ?_;clear hK K
    refine WC.cond rfl (fun h=>?_) fun h=>?_
    ·obtain rfl:b2=true:=by simpa using h
     dsimp only at hx
     have q2:=(Bm i1 h2).rem
     unfold Nw at hx
     refine WC.rs fun K hK=>?_
     simp only [↓EJ,FY,simprocAttr]
     repeat rw [Ae] at hx
     refine Af hx (C4 ts s2 i2) (by simp only [CL,PCL,TCL,DCL,FCL,RCL,MCL,BCL,GCL,and_self]) (fun v=>by simp only [CL,PCL,TCL,DCL,FCL,RCL,MCL,BCL,GCL,and_self]) fun w s3 h3 hx=>?_
     have g3:=B9 i2 h3
     have i3:=g3.1
     have r3:=g3.rem
     have a3:=g3.2
     simp only [↓EJ,FY,simprocAttr,MS]
     refine hK _ ?_;clear hK K
     refine A2 [1] fun K hK=>?_
     simp only [↓EJ,FY,simprocAttr,EZ]
     repeat rw [Ae] at hx
     refine CallX.exp hx i3 fun u4 s4 h4 hx g4 i4=>?_
     have r4:=g4.rem
     have a4:=g4.2
     simp only [↓EJ,FY,simprocAttr,EZ]
     refine hK _ (Aa [0,2,3,4,5,18,29,38,67,106] ?_);clear hK K
     refine Bt (X:=List De × PS) (fun y=>Ge ts s4 y.2∧x=bnd (Fo ts w y.1 y.2) (fun f s=>bnd (Gy ts m (F ++ [f]) [] s) (Fr ts ps))) (fun y=>⟨[(4,.ptr (.l 3) 0 0),(3,.ptr (.l 1) 0 0),(2,.ptr (.l 0) 0 0),(0,.ptr (.o 0) 0 0)],[Bq ts y.2],[.row [.agg [.nils,.nils,.nils,.nils,.nils,.str []]] 6 32,.row [.agg [Cs ps,.ref (.l 2) 0 F.length,.nils,.nils,.nils,.str []]] 6 32,.row (F.map fnV) 5 70,.row [.agg [.str w,Dq y.1,.nils,.nils,.str []]] 5 70],[]⟩) ?_ ?_
     ·cases hp:isP ts s4 [41] with
      | true =>
        simp only [hp,Ay] at hx
        refine WC.rs fun K hK=>?_
        simp only [↓EJ,FY,simprocAttr]
        refine CallX.mk (CallW.one (r:=.o 0) (D3 ts s4 i4 [41]) rfl (Ag ts s4) (Ag ts s4) (by simp only [CL]) (by simp [Ba,ren,A4]) ?_)
        rw [hp]
        simp only [↓EJ,FY,simprocAttr]
        refine hK _ ?_;clear hK K
        refine WC.cond rfl (fun h=>?_) fun h=>?_
        ·simp at h
        refine WC.skip ?_
        try simp only [EQ,simprocAttr]
        refine ⟨([],s4),[0,1,2,3],⟨Ge.refl i4,hx⟩,?_⟩
        dsimp only
        rw [Di]
        exact Conv.all (by simp only [EC,simprocAttr,PRN,MRN,DRN,DS,MS,PGS,PGR,A3])
      | false =>
        simp only [hp] at hx
        refine WC.rs fun K hK=>?_
        simp only [↓EJ,FY,simprocAttr]
        refine CallX.mk (CallW.one (r:=.o 0) (D3 ts s4 i4 [41]) rfl (Ag ts s4) (Ag ts s4) (by simp only [CL]) (by simp [Ba,ren,A4]) ?_)
        rw [hp]
        simp only [↓EJ,FY,simprocAttr]
        refine hK _ ?_;clear hK K
        refine WC.cond rfl (fun h=>?_) fun h=>?_
        rotate_left
        ·simp at h
        refine WC.dg [⟨0,0,true,[]⟩,⟨1,0,true,[]⟩,⟨2,0,false,[]⟩,⟨3,1,false,[0,1]⟩,⟨4,2,false,[]⟩,⟨5,1,false,[]⟩,⟨6,0,false,[]⟩,⟨7,1,false,[]⟩] [0,1,0,4,12,31,63,127] fun K hK=>?_
        simp only [↓EJ,FY,simprocAttr,MS]
        repeat rw [Ae] at hx
        refine Af hx (Ha ts s4 i4) (by simp only [CL,PCL,TCL,DCL,FCL,RCL,MCL,BCL,GCL,and_self]) (fun v=>by simp only [CL,PCL,TCL,DCL,FCL,RCL,MCL,BCL,GCL,and_self]) fun t s5 h5 hx=>?_
        have g5:=F6 i4 h5
        have i5:=g5.1
        have r5:=g5.rem
        have a5:=g5.2
        simp only [↓EJ,FY,simprocAttr,DS,MS]
        refine hK _ (Aa [0,2,3,4,5,18,29,38,67,106] ?_);clear hK K
        refine WC.b1 ?_
        refine WC.loop (X:=Nat × List De × PS) (fun y=>⟨[(4,.ptr (.l 3) 0 0),(3,.ptr (.l 1) 0 0),(2,.ptr (.l 0) 0 0),(0,.ptr (.o 0) 0 0)],[Bq ts y.2.2],[.row [.agg [.nils,.nils,.nils,.nils,.nils,.str []]] 6 32,.row [.agg [Cs ps,.ref (.l 2) 0 F.length,.nils,.nils,.nils,.str []]] 6 32,.row (F.map fnV) 5 70,.row [.agg [.str w,.ref (.l 4) 0 y.2.1.length,.nils,.nils,.str []]] 5 70,.row (y.2.1.map deV) 6 75],[]⟩)
         (fun y=>Ge ts s4 y.2.2∧rem ts y.2.2 + 1≤y.1∧y.2.1≠[]∧y.2.1.length≤y.2.2.at_∧x=bnd (Gt ts y.1 y.2.1 y.2.2) (fun a s=>bnd (Fo ts w a s) (fun f s=>bnd (Gy ts m (F ++ [f]) [] s) (Fr ts ps)))) (fun y=>y.1) (rem ts s5 + 1,[t],s5) [0,1,2,3,4] ⟨g5.ge,Nat.le_refl _,by simp,by simp only [List.length_cons,List.length_nil];omega,hx⟩ ?_ ?_
        ·exact Conv.all (by simp only [EC,simprocAttr,PRN,MRN,DRN,DS,MS,PGS,PGR,A3,Aw,List.map_append,List.map_cons,List.map_nil,List.length_append,List.length_cons,List.length_nil])
        clear hx r5 a5 h5 i5
        rintro ⟨mm,acc,s5⟩ ⟨g5,hr5,hne,hlen,hx⟩
        dsimp only at g5 hr5 hne hlen hx ⊢
        have i5:=g5.1
        have hle5:=i5.le
        have hlt5:=i5.lt
        obtain ⟨mm,rfl⟩:∃ k,mm=k + 1:=⟨mm - 1,by omega⟩
        rw [Gt] at hx
        refine Am fun K7 hK7=>?_
        refine WC.rs fun K hK=>?_
        simp only [↓EJ,FY,simprocAttr]
        repeat rw [Ae] at hx
        refine CallX.acc hx i5 fun b6 s6 h6 hx g6 i6=>?_
        have r6:=g6.rem
        have a6:=g6.2
        simp only [↓EJ,FY,simprocAttr]
        refine hK _ ?_;clear hK K
        refine WC.cond rfl (fun h=>?_) fun h=>?_
        ·obtain rfl:b6=true:=by simpa using h
         dsimp only at hx
         have q6:=(Bm i5 h6).rem
         refine WC.skip (hK7 _ ?_)
         refine WC.b1 ?_
         refine Dn [⟨0,0,true,[]⟩,⟨1,0,true,[]⟩,⟨2,0,false,[]⟩,⟨3,1,false,[0,1]⟩,⟨4,2,false,[]⟩,⟨5,1,false,[]⟩,⟨6,0,false,[]⟩,⟨7,1,false,[]⟩] [0,1,0,4,12,31,63,127] ?_
         simp only [↓EJ,FY,simprocAttr,MS]
         repeat rw [Ae] at hx
         refine Af hx (Ha ts s6 i6) (by simp only [CL,PCL,TCL,DCL,FCL,RCL,MCL,BCL,GCL,and_self]) (fun v=>by simp only [CL,PCL,TCL,DCL,FCL,RCL,MCL,BCL,GCL,and_self]) fun t s7 h7 hx=>?_
         have g7:=F6 i6 h7
         have i7:=g7.1
         have r7:=g7.rem
         have a7:=g7.2
         simp only [↓EJ,FY,simprocAttr,DS,MS]
         refine ⟨by rw [List.length_map],by omega,by omega,?_⟩
         try simp only [EQ,simprocAttr]
         refine ⟨(mm,acc ++ [t],s7),[0,1,2,3,5],⟨g5.trans (g6.trans g7.ge),by dsimp only;omega,by simp,by simp only [List.length_append,List.length_cons,List.length_nil];omega,hx⟩,by dsimp only;omega,?_⟩
         dsimp only
         exact Conv.all (by simp only [EC,simprocAttr,PRN,MRN,DRN,DS,MS,PGS,PGR,A3,Aw,List.map_append,List.map_cons,List.map_nil,List.length_append,List.length_cons,List.length_nil])
        ·obtain rfl:b6=false:=by simpa using h
         dsimp only at hx
         simp only [Ay] at hx
         refine Dy 3 4 1 rfl rfl rfl (by decide) (by simp) ?_
         simp only [List.set_cons_zero,List.set_cons_succ]
         refine WC.exit ?_
         simp only [EQ,reduceIte,Nat.reduceEqDiff]
         try simp only [EQ,reduceIte,Nat.reduceEqDiff]
         refine ⟨(acc,s6),[0,1,2,3],⟨g5.trans g6,hx⟩,?_⟩
         dsimp only
         rw [Ka hne]
         have ht:List.take acc.length (List.drop 0 (List.map deV acc))=List.map deV acc:=by rw [List.drop_zero,List.take_of_length_le (by simp)]
         rw [ht]
         exact Conv.all (by simp only [EC,simprocAttr,PRN,MRN,DRN,DS,MS,PGS,PGR,A3])
     rintro ⟨al,s5⟩ ⟨g5,hx5⟩
     dsimp only at g5 hx5 ⊢
     clear hx
     rename x=_=>hx
     unfold Fo at hx
     have i5:=g5.1
     have r5:=g5.rem
     have a5:=g5.2
     refine A2 [1] fun K hK=>?_
     simp only [↓EJ,FY,simprocAttr,EZ]
     repeat rw [Ae] at hx
     refine CallX.exp hx i5 fun u6 s6 h6 hx g6 i6=>?_
     have r6:=g6.rem
     have a6:=g6.2
     simp only [↓EJ,FY,simprocAttr,EZ]
     refine hK _ ?_;clear hK K
     refine WC.rs fun K hK=>?_
     simp only [↓EJ,FY,simprocAttr]
     repeat rw [Ae] at hx
     refine Af hx (Fm ts s6 i6) (by simp only [CL,PCL,TCL,DCL,FCL,RCL,MCL,BCL,GCL,and_self]) (fun v=>by simp only [CL,PCL,TCL,DCL,FCL,RCL,MCL,BCL,GCL,and_self]) fun b s7 h7 hx=>?_
     have g7:=Fd i6 h7
     have i7:=g7.1
     have r7:=g7.rem
     have a7:=g7.2
     simp only [↓EJ,FY,simprocAttr,blV,MS,Bi]
     refine hK _ (Aa [0,2,3,4,5,18,29,38,67,106] ?_);clear hK K
     refine A2 [1] fun K hK=>?_
     simp only [↓EJ,FY,simprocAttr,EZ]
     repeat rw [Ae] at hx
     refine CallX.exp hx i7 fun u8 s8 h8 hx g8 i8=>?_
     have r8:=g8.rem
     have a8:=g8.2
     have i8l:=i8.le
     have i8t:=i8.lt
     simp only [↓EJ,FY,simprocAttr,EZ]
     refine hK _ ?_;clear hK K
     refine A2 [3] fun K hK=>?_
     simp only [↓EJ,FY,simprocAttr,EZ,MS]
     refine ⟨by rw [List.length_map],by omega,by omega,?_⟩
     refine hK _ (Aa [0,2,3,4,5,18,29,38,67,106] ?_);clear hK K
     refine WC.exit ?_
     simp only [EQ,reduceIte,Nat.reduceEqDiff]
     try simp only [EQ,reduceIte,Nat.reduceEqDiff]
     try rw [Ay] at hx
     refine ⟨(m,F ++ [⟨w,al,b.vars,b.body,b.result⟩],[],s8),[0,1,4],⟨i8,by dsimp only;omega,by simp only [List.length_append,List.length_cons,List.length_nil];omega,by first | exact Nat.zero_le _ | (dsimp only;omega),hx⟩,by dsimp only;omega,?_⟩
     dsimp only
     rw [if_neg (by simp),if_pos rfl]
     exact Conv.all (by simp only [EC,simprocAttr,PRN,MRN,DRN,DS,MS,PGS,PGR,A3,Aw,List.map_append,List.map_cons,List.map_nil,List.length_append,List.length_cons,List.length_nil,List.nil_append,fnV,fnC])
    obtain rfl:b2=false:=by simpa using h
    dsimp only at hx
    refine WC.rs fun K hK=>?_
    simp only [↓EJ,FY,simprocAttr]
    repeat rw [Ae] at hx
    refine CallX.acc hx i2 fun b3 s3 h3 hx g3 i3=>?_
    have r3:=g3.rem
    have a3:=g3.2
    simp only [↓EJ,FY,simprocAttr]
    refine hK _ ?_;clear hK K
    refine WC.cond rfl (fun h=>?_) fun h=>?_
    ·obtain rfl:b3=true:=by simpa using h
     dsimp only at hx
     have q3:=(Bm i2 h3).rem
     unfold J1 at hx
     refine WC.rs fun K hK=>?_
     simp only [↓EJ,FY,simprocAttr]
     repeat rw [Ae] at hx
     refine Af hx (C4 ts s3 i3) (by simp only [CL,PCL,TCL,DCL,FCL,RCL,MCL,BCL,GCL,and_self]) (fun v=>by simp only [CL,PCL,TCL,DCL,FCL,RCL,MCL,BCL,GCL,and_self]) fun w s4 h4 hx=>?_
     have g4:=B9 i3 h4
     have i4:=g4.1
     have r4:=g4.rem
     have a4:=g4.2
     simp only [↓EJ,FY,simprocAttr,MS]
     refine hK _ ?_;clear hK K
     refine A2 [1] fun K hK=>?_
     simp only [↓EJ,FY,simprocAttr,EZ]
     repeat rw [Ae] at hx
     refine CallX.exp hx i4 fun u6 s6 h6 hx g6 i6=>?_
     have r6:=g6.rem
     have a6:=g6.2
     simp only [↓EJ,FY,simprocAttr,EZ]
     refine hK _ (Aa [0,2,3,4,5,18,29,38,67,106] ?_);clear hK K
     refine WC.rs fun K hK=>?_
     simp only [↓EJ,FY,simprocAttr]
     repeat rw [Ae] at hx
     refine Af hx (Fm ts s6 i6) (by simp only [CL,PCL,TCL,DCL,FCL,RCL,MCL,BCL,GCL,and_self]) (fun v=>by simp only [CL,PCL,TCL,DCL,FCL,RCL,MCL,BCL,GCL,and_self]) fun b s7 h7 hx=>?_
     have g7:=Fd i6 h7
     have i7:=g7.1
     have r7:=g7.rem
     have a7:=g7.2
     simp only [↓EJ,FY,simprocAttr,blV,MS,Bi]
     refine hK _ (Aa [0,2,3,4,5,18,29,38,67,106] ?_);clear hK K
     refine A2 [1] fun K hK=>?_
     simp only [↓EJ,FY,simprocAttr,EZ]
     repeat rw [Ae] at hx
     refine CallX.exp hx i7 fun u8 s8 h8 hx g8 i8=>?_
     have r8:=g8.rem
     have a8:=g8.2
     have i8l:=i8.le
     have i8t:=i8.lt
     simp only [↓EJ,FY,simprocAttr,EZ]
     refine hK _ ?_;clear hK K
     refine A2 [3] fun K hK=>?_
     simp only [↓EJ,FY,simprocAttr,EZ,MS]
     refine hK _ (Aa [0,2,3,4,5,18,29,38,67,106] ?_);clear hK K
     refine WC.exit ?_
     simp only [EQ,reduceIte,Nat.reduceEqDiff]
     try simp only [EQ,reduceIte,Nat.reduceEqDiff]
     try rw [Ay] at hx
     refine ⟨(m,F,[] ++ [⟨w,[],b.vars,b.body,b.result⟩],s8),[0,1,2,4],⟨i8,by dsimp only;omega,by first | exact Nat.zero_le _ | (dsimp only;omega),by simp only [List.length_append,List.length_cons,List.length_nil];omega,hx⟩,by dsimp only;omega,?_⟩
     dsimp only
     rw [if_neg hF,if_neg (by simp)]
     exact Conv.all (by simp only [EC,simprocAttr,PRN,MRN,DRN,DS,MS,PGS,PGR,A3,Aw,List.map_append,List.map_cons,List.map_nil,List.length_append,List.length_cons,List.length_nil,List.nil_append,fnV,fnC,Di])
    obtain rfl:b3=false:=by simpa using h
    dsimp only at hx
    simp only [Ay] at hx
    refine WC.skip (hK4 _ ?_)
    refine Dy 1 2 1 rfl rfl rfl (by decide) (by simp) ?_
    simp only [List.set_cons_zero,List.set_cons_succ]
    refine WC.exit ?_
    simp only [EQ,reduceIte,Nat.reduceEqDiff]
    try simp only [EQ,reduceIte,Nat.reduceEqDiff]
    refine ⟨((F,[]),s3),[0,1],⟨i3,hx⟩,?_⟩
    dsimp only
    rw [L5 hF,Ip]
    have ht:List.take F.length (List.drop 0 (List.map fnV F))=List.map fnV F:=by rw [List.drop_zero,List.take_of_length_le (by simp)]
    rw [ht]
    exact Conv.all (by simp only [EC,simprocAttr,PRN,MRN,DRN,DS,MS,PGS,PGR,A3])
   ·skip
    rw [if_neg hF,if_neg hQ]
    refine WC.b1 ?_
    refine WC.bs fun K4 hK4=>?_
    refine WC.rs fun K hK=>?_
    simp only [↓EJ,FY,simprocAttr]
    repeat rw [Ae] at hx
    refine CallX.acc hx i1 fun b2 s2 h2 hx g2 i2=>?_
    have r2:=g2.rem
    have a2:=g2.2
    simp only [↓EJ,FY,simprocAttr]
    refine hK _ ?_;clear hK K
    refine WC.cond rfl (fun h=>?_) fun h=>?_
    ·obtain rfl:b2=true:=by simpa using h
     dsimp only at hx
     have q2:=(Bm i1 h2).rem
     unfold Nw at hx
     refine WC.rs fun K hK=>?_
     simp only [↓EJ,FY,simprocAttr]
     repeat rw [Ae] at hx
     refine Af hx (C4 ts s2 i2) (by simp only [CL,PCL,TCL,DCL,FCL,RCL,MCL,BCL,GCL,and_self]) (fun v=>by simp only [CL,PCL,TCL,DCL,FCL,RCL,MCL,BCL,GCL,and_self]) fun w s3 h3 hx=>?_
     have g3:=B9 i2 h3
     have i3:=g3.1
     have r3:=g3.rem
     have a3:=g3.2
     simp only [↓EJ,FY,simprocAttr,MS]
     refine hK _ ?_;clear hK K
     refine A2 [1] fun K hK=>?_
     simp only [↓EJ,FY,simprocAttr,EZ]
     repeat rw [Ae] at hx
     refine CallX.exp hx i3 fun u4 s4 h4 hx g4 i4=>?_
     have r4:=g4.rem
     have a4:=g4.2
     simp only [↓EJ,FY,simprocAttr,EZ]
     refine hK _ (Aa [0,2,3,4,5,18,29,38,67,106] ?_);clear hK K
     refine Bt (X:=List De × PS) (fun y=>Ge ts s4 y.2∧x=bnd (Fo ts w y.1 y.2) (fun f s=>bnd (Gy ts m (F ++ [f]) Q s) (Fr ts ps))) (fun y=>⟨[(4,.ptr (.l 4) 0 0),(3,.ptr (.l 1) 0 0),(2,.ptr (.l 0) 0 0),(0,.ptr (.o 0) 0 0)],[Bq ts y.2],[.row [.agg [.nils,.nils,.nils,.nils,.nils,.str []]] 6 32,.row [.agg [Cs ps,.ref (.l 2) 0 F.length,.ref (.l 3) 0 Q.length,.nils,.nils,.str []]] 6 32,.row (F.map fnV) 5 70,.row (Q.map fnV) 5 70,.row [.agg [.str w,Dq y.1,.nils,.nils,.str []]] 5 70],[]⟩) ?_ ?_
     ·cases hp:isP ts s4 [41] with
      | true =>
        simp only [hp,Ay] at hx
        refine WC.rs fun K hK=>?_
        simp only [↓EJ,FY,simprocAttr]
        refine CallX.mk (CallW.one (r:=.o 0) (D3 ts s4 i4 [41]) rfl (Ag ts s4) (Ag ts s4) (by simp only [CL]) (by simp [Ba,ren,A4]) ?_)
        rw [hp]
        simp only [↓EJ,FY,simprocAttr]
        refine hK _ ?_;clear hK K
        refine WC.cond rfl (fun h=>?_) fun h=>?_
        ·simp at h
        refine WC.skip ?_
        try simp only [EQ,simprocAttr]
        refine ⟨([],s4),[0,1,2,3,4],⟨Ge.refl i4,hx⟩,?_⟩
        dsimp only
        rw [Di]
        exact Conv.all (by simp only [EC,simprocAttr,PRN,MRN,DRN,DS,MS,PGS,PGR,A3])
      | false =>
        simp only [hp] at hx
        refine WC.rs fun K hK=>?_
        simp only [↓EJ,FY,simprocAttr]
        refine CallX.mk (CallW.one (r:=.o 0) (D3 ts s4 i4 [41]) rfl (Ag ts s4) (Ag ts s4) (by simp only [CL]) (by simp [Ba,ren,A4]) ?_)
        rw [hp]
        simp only [↓EJ,FY,simprocAttr]
        refine hK _ ?_;clear hK K
        refine WC.cond rfl (fun h=>?_) fun h=>?_
        rotate_left
        ·simp at h
        refine WC.dg [⟨0,0,true,[]⟩,⟨1,0,true,[]⟩,⟨2,0,false,[]⟩,⟨3,1,false,[0,1]⟩,⟨4,2,false,[]⟩,⟨5,1,false,[]⟩,⟨6,0,false,[]⟩,⟨7,1,false,[]⟩] [0,1,0,4,12,31,63,127] fun K hK=>?_
        simp only [↓EJ,FY,simprocAttr,MS]
        repeat rw [Ae] at hx
        refine Af hx (Ha ts s4 i4) (by simp only [CL,PCL,TCL,DCL,FCL,RCL,MCL,BCL,GCL,and_self]) (fun v=>by simp only [CL,PCL,TCL,DCL,FCL,RCL,MCL,BCL,GCL,and_self]) fun t s5 h5 hx=>?_
        have g5:=F6 i4 h5
        have i5:=g5.1
        have r5:=g5.rem
        have a5:=g5.2
        simp only [↓EJ,FY,simprocAttr,DS,MS]
        refine hK _ (Aa [0,2,3,4,5,18,29,38,67,106] ?_);clear hK K
        refine WC.b1 ?_
        refine WC.loop (X:=Nat × List De × PS) (fun y=>⟨[(4,.ptr (.l 4) 0 0),(3,.ptr (.l 1) 0 0),(2,.ptr (.l 0) 0 0),(0,.ptr (.o 0) 0 0)],[Bq ts y.2.2],[.row [.agg [.nils,.nils,.nils,.nils,.nils,.str []]] 6 32,.row [.agg [Cs ps,.ref (.l 2) 0 F.length,.ref (.l 3) 0 Q.length,.nils,.nils,.str []]] 6 32,.row (F.map fnV) 5 70,.row (Q.map fnV) 5 70,.row [.agg [.str w,.ref (.l 5) 0 y.2.1.length,.nils,.nils,.str []]] 5 70,.row (y.2.1.map deV) 6 75],[]⟩)
         (fun y=>Ge ts s4 y.2.2∧rem ts y.2.2 + 1≤y.1∧y.2.1≠[]∧y.2.1.length≤y.2.2.at_∧x=bnd (Gt ts y.1 y.2.1 y.2.2) (fun a s=>bnd (Fo ts w a s) (fun f s=>bnd (Gy ts m (F ++ [f]) Q s) (Fr ts ps)))) (fun y=>y.1) (rem ts s5 + 1,[t],s5) [0,1,2,3,4,5] ⟨g5.ge,Nat.le_refl _,by simp,by simp only [List.length_cons,List.length_nil];omega,hx⟩ ?_ ?_
        ·exact Conv.all (by simp only [EC,simprocAttr,PRN,MRN,DRN,DS,MS,PGS,PGR,A3,Aw,List.map_append,List.map_cons,List.map_nil,List.length_append,List.length_cons,List.length_nil])
        clear hx r5 a5 h5 i5
        rintro ⟨mm,acc,s5⟩ ⟨g5,hr5,hne,hlen,hx⟩
        dsimp only at g5 hr5 hne hlen hx ⊢
        have i5:=g5.1
        have hle5:=i5.le
        have hlt5:=i5.lt
        obtain ⟨mm,rfl⟩:∃ k,mm=k + 1:=⟨mm - 1,by omega⟩
        rw [Gt] at hx
        refine Am fun K7 hK7=>?_
        refine WC.rs fun K hK=>?_
        simp only [↓EJ,FY,simprocAttr]
        repeat rw [Ae] at hx
        refine CallX.acc hx i5 fun b6 s6 h6 hx g6 i6=>?_
        have r6:=g6.rem
        have a6:=g6.2
        simp only [↓EJ,FY,simprocAttr]
        refine hK _ ?_;clear hK K
        refine WC.cond rfl (fun h=>?_) fun h=>?_
        ·obtain rfl:b6=true:=by simpa using h
         dsimp only at hx
         have q6:=(Bm i5 h6).rem
         refine WC.skip (hK7 _ ?_)
         refine WC.b1 ?_
         refine Dn [⟨0,0,true,[]⟩,⟨1,0,true,[]⟩,⟨2,0,false,[]⟩,⟨3,1,false,[0,1]⟩,⟨4,2,false,[]⟩,⟨5,1,false,[]⟩,⟨6,0,false,[]⟩,⟨7,1,false,[]⟩] [0,1,0,4,12,31,63,127] ?_
         simp only [↓EJ,FY,simprocAttr,MS]
         repeat rw [Ae] at hx
         refine Af hx (Ha ts s6 i6) (by simp only [CL,PCL,TCL,DCL,FCL,RCL,MCL,BCL,GCL,and_self]) (fun v=>by simp only [CL,PCL,TCL,DCL,FCL,RCL,MCL,BCL,GCL,and_self]) fun t s7 h7 hx=>?_
         have g7:=F6 i6 h7
         have i7:=g7.1
         have r7:=g7.rem
         have a7:=g7.2
         simp only [↓EJ,FY,simprocAttr,DS,MS]
         refine ⟨by rw [List.length_map],by omega,by omega,?_⟩
         try simp only [EQ,simprocAttr]
         refine ⟨(mm,acc ++ [t],s7),[0,1,2,3,4,6],⟨g5.trans (g6.trans g7.ge),by dsimp only;omega,by simp,by simp only [List.length_append,List.length_cons,List.length_nil];omega,hx⟩,by dsimp only;omega,?_⟩
         dsimp only
         exact Conv.all (by simp only [EC,simprocAttr,PRN,MRN,DRN,DS,MS,PGS,PGR,A3,Aw,List.map_append,List.map_cons,List.map_nil,List.length_append,List.length_cons,List.length_nil])
        ·obtain rfl:b6=false:=by simpa using h
         dsimp only at hx
         simp only [Ay] at hx
         refine Dy 4 5 1 rfl rfl rfl (by decide) (by simp) ?_
         simp only [List.set_cons_zero,List.set_cons_succ]
         refine WC.exit ?_
         simp only [EQ,reduceIte,Nat.reduceEqDiff]
         try simp only [EQ,reduceIte,Nat.reduceEqDiff]
         refine ⟨(acc,s6),[0,1,2,3,4],⟨g5.trans g6,hx⟩,?_⟩
         dsimp only
         rw [Ka hne]
         have ht:List.take acc.length (List.drop 0 (List.map deV acc))=List.map deV acc:=by rw [List.drop_zero,List.take_of_length_le (by simp)]
         rw [ht]
         exact Conv.all (by simp only [EC,simprocAttr,PRN,MRN,DRN,DS,MS,PGS,PGR,A3])
     rintro ⟨al,s5⟩ ⟨g5,hx5⟩
     dsimp only at g5 hx5 ⊢
     clear hx
     rename x=_=>hx
     unfold Fo at hx
     have i5:=g5.1
     have r5:=g5.rem
     have a5:=g5.2
     refine A2 [1] fun K hK=>?_
     simp only [↓EJ,FY,simprocAttr,EZ]
     repeat rw [Ae] at hx
     refine CallX.exp hx i5 fun u6 s6 h6 hx g6 i6=>?_
     have r6:=g6.rem
     have a6:=g6.2
     simp only [↓EJ,FY,simprocAttr,EZ]
     refine hK _ ?_;clear hK K
     refine WC.rs fun K hK=>?_
     simp only [↓EJ,FY,simprocAttr]
     repeat rw [Ae] at hx
     refine Af hx (Fm ts s6 i6) (by simp only [CL,PCL,TCL,DCL,FCL,RCL,MCL,BCL,GCL,and_self]) (fun v=>by simp only [CL,PCL,TCL,DCL,FCL,RCL,MCL,BCL,GCL,and_self]) fun b s7 h7 hx=>?_
     have g7:=Fd i6 h7
     have i7:=g7.1
     have r7:=g7.rem
     have a7:=g7.2
     simp only [↓EJ,FY,simprocAttr,blV,MS,Bi]
     refine hK _ (Aa [0,2,3,4,5,18,29,38,67,106] ?_);clear hK K
     refine A2 [1] fun K hK=>?_
     simp only [↓EJ,FY,simprocAttr,EZ]
     repeat rw [Ae] at hx
     refine CallX.exp hx i7 fun u8 s8 h8 hx g8 i8=>?_
     have r8:=g8.rem
     have a8:=g8.2
     have i8l:=i8.le
     have i8t:=i8.lt
     simp only [↓EJ,FY,simprocAttr,EZ]
     refine hK _ ?_;clear hK K
     refine A2 [3] fun K hK=>?_
     simp only [↓EJ,FY,simprocAttr,EZ,MS]
     refine ⟨by rw [List.length_map],by omega,by omega,?_⟩
     refine hK _ (Aa [0,2,3,4,5,18,29,38,67,106] ?_);clear hK K
     refine WC.exit ?_
     simp only [EQ,reduceIte,Nat.reduceEqDiff]
     try simp only [EQ,reduceIte,Nat.reduceEqDiff]
     try rw [Ay] at hx
     refine ⟨(m,F ++ [⟨w,al,b.vars,b.body,b.result⟩],Q,s8),[0,1,5,3],⟨i8,by dsimp only;omega,by simp only [List.length_append,List.length_cons,List.length_nil];omega,by first | exact Nat.zero_le _ | (dsimp only;omega),hx⟩,by dsimp only;omega,?_⟩
     dsimp only
     rw [if_neg (by simp),if_neg hQ]
     exact Conv.all (by simp only [EC,simprocAttr,PRN,MRN,DRN,DS,MS,PGS,PGR,A3,Aw,List.map_append,List.map_cons,List.map_nil,List.length_append,List.length_cons,List.length_nil,List.nil_append,fnV,fnC])
    obtain rfl:b2=false:=by simpa using h
    dsimp only at hx
    refine WC.rs fun K hK=>?_
    simp only [↓EJ,FY,simprocAttr]
    repeat rw [Ae] at hx
    refine CallX.acc hx i2 fun b3 s3 h3 hx g3 i3=>?_
    have r3:=g3.rem
    have a3:=g3.2
    simp only [↓EJ,FY,simprocAttr]
    refine hK _ ?_;clear hK K
    refine WC.cond rfl (fun h=>?_) fun h=>?_
    ·obtain rfl:b3=true:=by simpa using h
     dsimp only at hx
     have q3:=(Bm i2 h3).rem
     unfold J1 at hx
     refine WC.rs fun K hK=>?_
     simp only [↓EJ,FY,simprocAttr]
     repeat rw [Ae] at hx
     refine Af hx (C4 ts s3 i3) (by simp only [CL,PCL,TCL,DCL,FCL,RCL,MCL,BCL,GCL,and_self]) (fun v=>by simp only [CL,PCL,TCL,DCL,FCL,RCL,MCL,BCL,GCL,and_self]) fun w s4 h4 hx=>?_
     have g4:=B9 i3 h4
     have i4:=g4.1
     have r4:=g4.rem
     have a4:=g4.2
     simp only [↓EJ,FY,simprocAttr,MS]
     refine hK _ ?_;clear hK K
     refine A2 [1] fun K hK=>?_
     simp only [↓EJ,FY,simprocAttr,EZ]
     repeat rw [Ae] at hx
     refine CallX.exp hx i4 fun u6 s6 h6 hx g6 i6=>?_
     have r6:=g6.rem
     have a6:=g6.2
     simp only [↓EJ,FY,simprocAttr,EZ]
     refine hK _ (Aa [0,2,3,4,5,18,29,38,67,106] ?_);clear hK K
     refine WC.rs fun K hK=>?_
     simp only [↓EJ,FY,simprocAttr]
     repeat rw [Ae] at hx
     refine Af hx (Fm ts s6 i6) (by simp only [CL,PCL,TCL,DCL,FCL,RCL,MCL,BCL,GCL,and_self]) (fun v=>by simp only [CL,PCL,TCL,DCL,FCL,RCL,MCL,BCL,GCL,and_self]) fun b s7 h7 hx=>?_
     have g7:=Fd i6 h7
     have i7:=g7.1
     have r7:=g7.rem
     have a7:=g7.2
     simp only [↓EJ,FY,simprocAttr,blV,MS,Bi]
     refine hK _ (Aa [0,2,3,4,5,18,29,38,67,106] ?_);clear hK K
     refine A2 [1] fun K hK=>?_
     simp only [↓EJ,FY,simprocAttr,EZ]
     repeat rw [Ae] at hx
     refine CallX.exp hx i7 fun u8 s8 h8 hx g8 i8=>?_
     have r8:=g8.rem
     have a8:=g8.2
     have i8l:=i8.le
     have i8t:=i8.lt
     simp only [↓EJ,FY,simprocAttr,EZ]
     refine hK _ ?_;clear hK K
     refine A2 [3] fun K hK=>?_
     simp only [↓EJ,FY,simprocAttr,EZ,MS]
     refine ⟨by rw [List.length_map],by omega,by omega,?_⟩
     refine hK _ (Aa [0,2,3,4,5,18,29,38,67,106] ?_);clear hK K
     refine WC.exit ?_
     simp only [EQ,reduceIte,Nat.reduceEqDiff]
     try simp only [EQ,reduceIte,Nat.reduceEqDiff]
     try rw [Ay] at hx
     refine ⟨(m,F,Q ++ [⟨w,[],b.vars,b.body,b.result⟩],s8),[0,1,2,5],⟨i8,by dsimp only;omega,by first | exact Nat.zero_le _ | (dsimp only;omega),by simp only [List.length_append,List.length_cons,List.length_nil];omega,hx⟩,by dsimp only;omega,?_⟩
     dsimp only
     rw [if_neg hF,if_neg (by simp)]
     exact Conv.all (by simp only [EC,simprocAttr,PRN,MRN,DRN,DS,MS,PGS,PGR,A3,Aw,List.map_append,List.map_cons,List.map_nil,List.length_append,List.length_cons,List.length_nil,List.nil_append,fnV,fnC,Di])
    obtain rfl:b3=false:=by simpa using h
    dsimp only at hx
    simp only [Ay] at hx
    refine WC.skip (hK4 _ ?_)
    refine Dy 1 2 1 rfl rfl rfl (by decide) (by simp) ?_
    simp only [List.set_cons_zero,List.set_cons_succ]
    refine Dy 1 3 2 rfl rfl rfl (by decide) (by simp) ?_
    simp only [List.set_cons_zero,List.set_cons_succ]
    refine WC.exit ?_
    simp only [EQ,reduceIte,Nat.reduceEqDiff]
    try simp only [EQ,reduceIte,Nat.reduceEqDiff]
    refine ⟨((F,Q),s3),[0,1],⟨i3,hx⟩,?_⟩
    dsimp only
    rw [L5 hF,L5 hQ]
    have ht:List.take F.length (List.drop 0 (List.map fnV F))=List.map fnV F:=by rw [List.drop_zero,List.take_of_length_le (by simp)]
    rw [ht]
    have ht2:List.take Q.length (List.drop 0 (List.map fnV Q))=List.map fnV Q:=by rw [List.drop_zero,List.take_of_length_le (by simp)]
    rw [ht2]
    exact Conv.all (by simp only [EC,simprocAttr,PRN,MRN,DRN,DS,MS,PGS,PGR,A3])
  ·rintro ⟨⟨F,Q⟩,s2⟩ ⟨i2,hx2⟩
   dsimp only at i2 hx2 ⊢
   clear hx i1
   rename x=_=>hx
   unfold Fr at hx
   refine WC.rs fun K hK=>?_
   simp only [↓EJ,FY,simprocAttr]
   repeat rw [Ae] at hx
   refine Af hx (Fm ts s2 i2) (by simp only [CL,PCL,TCL,DCL,FCL,RCL,MCL,BCL,GCL,and_self]) (fun v=>by simp only [CL,PCL,TCL,DCL,FCL,RCL,MCL,BCL,GCL,and_self]) fun b s3 h3 hx=>?_
   have g3:=Fd i2 h3
   have i3:=g3.1
   simp only [↓EJ,FY,simprocAttr,blV,MS,Bi]
   refine hK _ (Aa [0,2,3,4,106] ?_);clear hK K
   refine Am fun K8 hK8=>?_
   refine WC.rs fun K hK=>?_
   simp only [↓EJ,FY,simprocAttr]
   refine CallX.mk (CallW.one (r:=.o 0) (F1 ts s3 i3) rfl (Ag ts s3) (Ag ts s3) (Cd _) (by simp [Ba,ren,A4]) ?_)
   simp only [↓EJ,FY,simprocAttr,Bn,tkv,tk]
   refine hK _ ?_;clear hK K
   refine WC.cond rfl (fun h=>?_) fun h=>?_
   ·have hk:(cur ts s3).1≠5:=by simp at h;omega
    rw [if_pos hk] at hx
    refine WC.r1 ?_
    simp only [↓EJ,FY,simprocAttr]
    refine CallX.mk (B1 (α:=Unit) (enc:=fun _=>.tuple []) (Gq ts s3 i3 4) rfl rfl (by simp only [CL,and_self]) (fun _=>by simp only [CL]) (fun v s' hv=>nomatch hv) (fun e s' he=>?_))
    cases he
    exact PSem.fails (fn:=Tryz.f39) (s:=s') hx rfl rfl
   ·have hk:(cur ts s3).1=5:=by simp at h;omega
    rw [if_neg (by omega)] at hx
    refine WC.skip (hK8 _ ?_)
    refine WC.rs fun K hK=>?_
    simp only [↓EJ,FY,simprocAttr,MS]
    refine hK _ ?_;clear hK K
    refine WC.ret ?_
    simp only [↓EJ,FY,simprocAttr,EQ,EF,Tryz.results39,MS]
    exact PSem.done (fn:=Tryz.f39) (s:=s3) (v:=⟨ps,F,Q,b.vars,b.body,b.result⟩) hx rfl (of_eq_true (by simp only [CL,PCL,TCL,DCL,FCL,RCL,MCL,BCL,GCL,and_self])) rfl
end Go.LexSem
-- CLOSERS: PCL,TCL,DCL,FCL,RCL,MCL,BCL,GCL
set_option maxHeartbeats 4000000
set_option maxRecDepth 8000
namespace Go.LexSem
open Go Go.V Go.Proofs Go.Num

/-! ### What the lexer hands over -/
def okT (t:Tok):Prop:=t.1=2→t.2.1≠[]∧t.2.1.length≤60∧∀ c∈t.2.1,A9 (c.toNat:Int)=true
theorem S4 (p:Int→Bool) (s:List UInt8):∀ f t j,t≤j→j < Bs p s f t→p (gb s j)=true
 | 0,t,j,h1,h2=>by simp only [Bs] at h2;omega
 | f + 1,t,j,h1,h2=>by
   unfold Bs at h2
   split at h2
   ·rename_i hc
    rcases Nat.lt_or_ge t j with h | h
    ·exact S4 p s f (t + 1) j h h2
    ·rw [show j=t by omega];exact hc.2
   ·omega
theorem runAt_all {p:Int→Bool} {s:List UInt8} {a:Nat} (ha:a≤s.length):∀ c∈Ci p s a,p (c.toNat:Int)=true:=fun c hc=>by
 obtain ⟨j,hj,rfl⟩:=List.getElem_of_mem hc
 have hl:=Fi (p:=p) ha
 have hle:=Gd p s (s.length - a) a ha
 have h:=S4 p s (s.length - a) a (a + j) (Nat.le_add_right _ _) (by omega)
 have hlt:a + j < s.length:=by omega
 rw [gb_at hlt] at h
 have e:some ((Ci p s a)[j])=some (s[a + j]):=by
  rw [←List.getElem?_eq_getElem hj,← List.getElem?_eq_getElem hlt]
  unfold Ci
  rw [List.getElem?_take,if_pos (by omega),List.getElem?_drop]
 rw [Option.some.inj e];exact h
theorem Aa7 {s:List UInt8} {a l c:Nat} (ha:a < s.length) (h0:(Bd s a).2.2=0):okT ((Bd s a).1,(Bd s a).2.1,l,c):=fun hk=>by
 have hlen:=Mo s a ha h0
 unfold Bd at hk h0 hlen ⊢
 dsimp only at hk ⊢
 split at hk
 ·split at hk
  ·cases hk
  ·split at hk <;> cases hk
 ·rename_i h1
  simp only [h1,if_false,Bool.false_eq_true] at hk h0 hlen ⊢
  split at hk
  ·rename_i h2
   simp only [h2,if_true] at h0 hlen ⊢
   split at hk
   ·cases hk
   ·rename_i h3
    rw [if_neg h3] at h0 hlen
    simp only [if_neg h3]
    exact ⟨fun e=>by rw [e] at hlen;simp at hlen,by omega,runAt_all (Nat.le_of_lt ha)⟩
  ·split at hk <;> cases hk
structure LOk (s:List UInt8) (ts:List Tok):Prop where
 ne:0 < ts.length
 le:ts.length≤s.length + 1
 fin:(ts.getD (ts.length - 1) (5,[],1,1)).1=5
 num:∀ t∈ts,okT t
theorem Qg (s:List UInt8):∀ k a l c acc,s.length - a < k→acc.length≤a→acc.length≤s.length→(∀ t∈acc,okT t)→(Mx k s a l c acc).2.2=0→LOk s (Mx k s a l c acc).1
 | 0,_,_,_,_,h,_,_,_,_=>by omega
 | k + 1,a,l,c,acc,hk,hl,hl2,hacc,h0=>by
   unfold Mx at h0 ⊢
   by_cases ha:a < s.length
   ·simp only [if_pos ha] at h0 ⊢
    by_cases hb:Ee (gb s a)=true
    ·simp only [if_pos hb] at h0 ⊢
     exact Qg s k _ _ _ _ (by omega) (by omega) hl2 hacc h0
    ·simp only [if_neg hb] at h0 ⊢
     by_cases h35:gb s a=35
     ·simp only [if_pos h35] at h0 ⊢
      exact Qg s k _ _ _ _ (by omega) (by omega) hl2 hacc h0
     ·simp only [if_neg h35] at h0 ⊢
      by_cases ht:(Bd s a).2.2=0
      ·simp only [if_pos ht] at h0 ⊢
       refine Qg s k _ _ _ _ (by omega) (by simp only [List.length_append,List.length_cons,List.length_nil];omega) (by simp only [List.length_append,List.length_cons,List.length_nil];omega) (fun t hm=>?_) h0
       rcases List.mem_append.1 hm with hm | hm
       ·exact hacc t hm
       ·simp only [List.mem_singleton] at hm
        subst hm
        exact Aa7 ha ht
      ·simp only [if_neg ht] at h0 ⊢
       exact absurd h0 ht
   ·simp only [if_neg ha] at h0 ⊢
    refine ⟨by simp,by simp;omega,by simp,fun t hm=>?_⟩
    rcases List.mem_append.1 hm with hm | hm
    ·exact hacc t hm
    ·simp only [List.mem_singleton] at hm
     subst hm
     exact fun h=>by cases h
theorem Ue {s:List UInt8} (h0:(Bx s).2.2=0):PInv (Bx s).1 ⟨0,0⟩∧(Bx s).1≠[]:=by
 unfold Bx at h0 ⊢
 split at h0
 ·cases h0
 ·rename_i hs
  rw [if_neg hs]
  rw [U3 s (s.length + 1) 0 1 1 [] (by omega)] at h0 ⊢
  obtain ⟨h1,h2,h3,h4⟩:=Qg s (s.length + 1) 0 1 1 [] (by omega) (Nat.le_refl _) (Nat.zero_le _) (fun t ht=>by cases ht) h0
  refine ⟨⟨h1,by omega,by simp,by simp,h3,h4⟩,fun e=>?_⟩
  rw [e] at h1;simp at h1
/-! ### Parse -/
def zpg:Pg:=⟨[],[],[],[],[],[]⟩
def Ew (s:List UInt8):Except Er Pg :=
 if (Bx s).2.2≠0 then .error ((Bx s).2.1,(Bx s).2.2) else match Hp (Bx s).1 ⟨0,0⟩ with
  | .error e=>.error e
  | .ok (p,_)=>.ok p
def Mu (l c:Nat):PVal:=.agg [.int .i64 l,.int .i64 c]
def Ws:Except Er Pg→PVal
 | .ok p=>.tuple [pgV p,Mu 0 0,.int .i64 0]
 | .error e=>.tuple [pgV zpg,Mu e.1.1 e.1.2,.int .i64 (e.2:Nat)]
theorem resV_closed (x:Except Er Pg):Closed (Ws x):=by
 cases x
 ·exact of_eq_true (by simp only [Ws,Mu,CL,GCL,and_self])
 ·exact of_eq_true (by simp only [Ws,Mu,CL,GCL,and_self])
theorem EAs:(∀ (C:Ctx) x xt t σ K KP u,Do C (.typeAssert x xt t true) σ K KP u=Ei C t (val σ.e x) true fun q=>K q σ):=fun _ _ _ _ _ _ _ _=>rfl
def pgB (p:PVal):Blk:=.row [p] 6 32
def psB (p:PVal):Blk:=.row [p] 2 38
def enB (n:Nat):Blk:=.row [.int .i64 n] 1 39
theorem Qd {p:PVal} (h:Closed p) (f:Ref→Ref):Cu f (pgB p)=pgB p:=by simp only [pgB,Cu,Ba,h f]
theorem Qc {p:PVal} (h:Closed p) (f:Ref→Ref):Cu f (psB p)=psB p:=by simp only [psB,Cu,Ba,h f]
theorem Qi (k:Nat) (f:Ref→Ref):Cu f (enB k)=enB k:=by simp only [enB,Cu,Ba,ren]
theorem Ww (p q:PVal) (k:Nat) (hp:Closed p) (hq:Closed q):DSem C 38 [.ptr (.o 0) 0 0,.ptr (.o 1) 0 0,.ptr (.o 2) 0 0] [pgB p,psB q,enB k] none (fun st=>st=[pgB p,psB q,enB k]):=by
 refine Ps (C:=C) (n:=17) Tryz.func38 rfl rfl (by kernel_rfl) (by simp) (by decide) ?_
 simp only [Aj,Option.getD_none,Option.getD_some,Py]
 refine WC.b1 ?_
 refine WC.rs fun K hK=>?_
 simp only [↓EJ,FY,simprocAttr]
 refine ⟨rfl,?_⟩
 refine hK _ ?_;clear hK K
 refine WC.cond rfl (fun h=>?_) fun h=>?_
 rotate_left
 ·simp at h
 refine WC.r1 ?_
 simp only [↓EJ,FY,simprocAttr]
 simp only [EQ,FnQ,reduceIte,Nat.reduceEqDiff,Tryz.results38,E3,tup,List.reverse_cons,List.reverse_nil,true_and]
 refine EndsIn.plain (by simp only [CL]) (fun b hb=>?_) ⟨⟨_,rfl⟩,rfl⟩
 simp only [List.mem_cons,List.mem_singleton,List.not_mem_nil,or_false] at hb
 rcases hb with rfl | rfl | rfl <;> intro f <;> simp only [pgB,psB,enB,Cu,Ba,ren,hp f,hq f]
theorem Wv (a b:Int) (k:Nat) (e:Er):DSem C 38 [.ptr (.o 0) 0 0,.ptr (.o 1) 0 0,.ptr (.o 2) 0 0] [pgB (.agg [.nils,.nils,.nils,.nils,.nils,.str []]),psB (.agg [.int .i64 a,.int .i64 b]),enB k] (some (Py e))
  (fun st=>st=[pgB (pgV zpg),psB (Mu e.1.1 e.1.2),enB e.2]):=by
 refine Ps (C:=C) (n:=17) Tryz.func38 rfl rfl (by kernel_rfl) (by simp) (by decide) ?_
 simp only [Aj,Option.getD_none,Option.getD_some,Py]
 refine WC.b1 ?_
 refine WC.go ?_
 refine WC.cond rfl (fun h=>?_) fun h=>?_
 ·simp at h
 have hcc:ccq C.P 90=true:=by kernel_rfl
 refine WC.rs fun K hK=>?_
 simp only [↓EJ,FY,simprocAttr,EAs,assert_eq hcc]
 refine hK _ ?_;clear hK K
 refine WC.cond rfl (fun h=>?_) fun h=>?_
 rotate_left
 ·simp at h
 refine WC.go ?_
 refine Dn [⟨0,0,false,[]⟩,⟨1,0,true,[]⟩,⟨2,0,true,[]⟩,⟨3,0,true,[]⟩,⟨4,0,true,[]⟩,⟨5,1,false,[1,2,3,4]⟩,⟨6,1,false,[3,4]⟩,⟨7,1,false,[]⟩] [0,0,2,0,8,1,39,127] ?_
 simp only [↓EJ,FY,simprocAttr,pgB,psB,enB]
 try simp only [EQ,simprocAttr,FnQ,Tryz.results38,E3,tup,List.reverse_cons,List.reverse_nil,true_and]
 refine EndsIn.plain (by simp only [CL]) (fun b hb=>?_) ⟨⟨_,rfl⟩,rfl⟩
 simp only [List.mem_cons,List.mem_singleton,List.not_mem_nil,or_false] at hb
 rcases hb with rfl | rfl | rfl <;> intro f <;> simp only [Cu,Ba,ren]
theorem Oo (s:List UInt8):FSem C 18 [.str s] [] fun r st=>r=.ret (Ws (Ew s))∧st=[]:=by
 obtain ⟨x,hx⟩:∃ x,x=Ew s:=⟨_,rfl⟩
 rw [←hx]
 unfold Ew at hx
 have ht:=toks_sem s
 have hok:=Ue (s:=s)
 obtain ⟨⟨ts,⟨l,c⟩,cd⟩,hts⟩:∃ r,Bx s=r:=⟨_,rfl⟩
 rw [hts] at hx ht hok
 dsimp only at hx ht hok
 refine Xq (C:=C) (n:=25) Tryz.func18 rfl rfl (by kernel_rfl) (by simp) ?_
 simp only [Aj]
 refine WC.go ?_
 refine WC.rs fun K hK=>?_
 simp only [↓EJ,FY,simprocAttr]
 refine CallX.mk (CallW.pure ht (by simp only [CL,and_self]) (by cases ts <;> simp only [V5,pl,CL,eq_true (Cb _),and_self]) ?_)
 simp only [↓EJ,FY,simprocAttr,pl]
 refine hK _ (Aa [2,3,4,5,6,14] ?_);clear hK K
 refine Am fun K1 hK1=>?_
 refine WC.go ?_
 refine WC.cond rfl (fun h=>?_) fun h=>?_
 ·have hc:cd≠0:=by simp at h;omega
  rw [if_pos hc] at hx
  refine WC.dg [⟨0,0,false,[]⟩,⟨1,0,true,[]⟩,⟨2,0,true,[]⟩,⟨3,1,false,[1,2]⟩,⟨4,1,false,[2]⟩,⟨5,1,false,[]⟩] [0,0,0,1,11,31] fun K hK=>?_
  simp only [↓EJ,FY,simprocAttr]
  refine hK _ ?_;clear hK K
  refine WC.ret ?_
  simp only [↓EJ,FY,simprocAttr,EQ,FnQD,Tryz.results18,E3,tup,List.reverse_cons,List.reverse_nil,true_and]
  refine EndsIn.plain (by simp only [CL,and_self]) (fun b hb=>by simp at hb) ⟨?_,rfl⟩
  rw [hx];rfl
 ·have hc:cd=0:=by simp at h;omega
  subst hc
  rw [if_neg (by simp)] at hx
  obtain ⟨hI,hne⟩:=hok rfl
  have htk:V5 ts=.slc (ts.map tkv):=by
   cases ts with
   | nil=>exact absurd rfl hne
   | cons a b=>rfl
  refine WC.skip (hK1 _ ?_)
  refine WC.dfr (by decide) ?_
  simp only [↓EJ,FY,simprocAttr,List.map_cons,List.map_nil]
  rw [htk]
  refine WC.go (Aa [2,3,4,6] ?_)
  rw [show Blk.row [.agg [.slc (ts.map tkv),.int .i64 0,.int .i64 0]] 3 93=Bq ts ⟨0,0⟩ from rfl]
  refine WC.rs fun K hK=>?_
  simp only [↓EJ,FY,simprocAttr]
  refine CallX.mk (B1 (enc:=pgV) (r:=.l 3) (prog_sem ts ⟨0,0⟩ hI) rfl rfl (by simp only [CL,and_self]) (fun v=>by simp only [CL,GCL,and_self]) (fun p s1 hp=>?_) (fun e s' he=>?_))
  ·rw [hp] at hx
   simp only [↓EJ,FY,simprocAttr,pgV,pgC]
   refine hK _ ?_;clear hK K
   refine WC.ret ?_
   simp only [↓EJ,FY,simprocAttr,EQ,FnQD,Tryz.results18,E3,tup,List.reverse_cons,List.reverse_nil,true_and]
   have c1:Closed (pgV p):=of_eq_true (GCL.2.2 p)
   have c2:Closed (Mu 0 0):=of_eq_true (by simp only [Mu,CL,and_self])
   refine DW.of (Ww (pgV p) (Mu 0 0) 0 c1 c2) [.l 0,.l 1,.l 2] (by simp) (fun p h=>by cases h) (by simp [Ba,ren,A4]) rfl (fun j r k hr hk=>?_) (fun st' hst=>?_)
   ·rcases j with _ | _ | _ | j <;> simp at hr hk <;> subst hr hk <;> simp only [Qd c1,Qc c2,Qi] <;> rfl
   ·subst hst
    simp only [List.map_cons,List.map_nil,Qd c1,Qc c2,Qi,By]
    simp only [↓EJ,FY,simprocAttr,pgB,psB,enB,pgV,pgC,Mu]
    refine EndsIn.plain ?_ (fun b hb=>by simp at hb) ⟨?_,rfl⟩
    ·simp only [CL,GCL,BCL,MCL,and_self]
    ·rw [hx];rfl
  ·rw [he] at hx
   have c2:Closed (PVal.agg [.int .i64 l,.int .i64 c]):=of_eq_true (by simp only [CL,and_self])
   have c1:Closed (PVal.agg [.nils,.nils,.nils,.nils,.nils,.str []]):=of_eq_true (by simp only [CL,and_self])
   have c3:Closed (pgV zpg):=of_eq_true (GCL.2.2 zpg)
   have c4:Closed (Mu e.1.1 e.1.2):=of_eq_true (by simp only [Mu,CL,and_self])
   refine DW.of (Wv (l:Int) (c:Int) 0 e) [.l 0,.l 1,.l 2] (by simp) (fun p h=>by cases h;exact Ln e) (by simp [Ba,ren,A4]) rfl (fun j r k hr hk=>?_) (fun st' hst=>?_)
   ·rcases j with _ | _ | _ | j <;> simp at hr hk <;> subst hr hk <;> simp only [Qd c1,Qc c2,Qi] <;> rfl
   ·subst hst
    simp only [List.map_cons,List.map_nil,Qd c3,Qc c4,Qi,By]
    simp only [↓EJ,FY,simprocAttr,pgB,psB,enB,pgV,pgC,Mu,Tryz.results18,E3,tup,List.reverse_cons,List.reverse_nil,true_and]
    refine EndsIn.plain ?_ (fun b hb=>by simp at hb) ⟨?_,rfl⟩
    ·simp only [CL,GCL,BCL,MCL,and_self]
    ·rw [hx];rfl
theorem Dt {e:Env} {l:List Blk} {d:List PDef} {p q:PVal} (hq:Closed q=True) (h:p=q):EndsIn ⟨e,[],l,d⟩ p fun p st=>PRes.ret p=PRes.ret q∧st=[]:=An (of_eq_true hq) h
end Go.LexSem
