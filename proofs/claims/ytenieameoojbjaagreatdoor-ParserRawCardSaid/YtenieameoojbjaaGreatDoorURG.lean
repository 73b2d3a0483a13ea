/-
 Texts joined: ReL ReM ReN ReO.
-/
import Derived.Test.YtenieameoojbjaaGreatDoorURF
import Derived.Test.YtenieameoojbjaaGreatDoorUML
import Derived.Test.YtenieameoojbjaaGreatDoorUMO
import Derived.Test.YtenieameoojbjaaGreatDoorUMF
set_option linter.unusedVariables false
set_option linter.unusedSimpArgs false
set_option linter.loopingSimpArgs false
-- TIGHT
-- CLOSERS: PCL,TCL,DCL,FCL,RCL,MCL,BCL,GCL
set_option maxHeartbeats 16000000
set_option maxRecDepth 8000
namespace Go.LexSem
open Go Go.V Go.Proofs Go.Num

theorem zty5:(tyC (.mk 0 0 0 0 []))=[.int .i64 0,.int .i64 0,.int .i64 0,.int .i64 0,.nils]:=ztyC.symm
theorem L0 (ts:List Tok) (r1:RS) (i1:PInv ts r1.s):RSem 109 [] ts r1 (N8 ts r1.s) deV:=by
 have hx:=cy0 (ts:=ts) (r:=r1) (x:=N8 ts r1.s)
 replace hx:=hx.to fun _=>(by rw [N8])
 unfold RSem
 refine FSem.en 13 Tryz.func109 ?_
 simp only [Aj]
 refine WC.go ?_
 refine WC.rs fun K hK=>?_
 simp only [↓EJ,FY,simprocAttr]
 refine Ad hx (Fj ts r1 i1) (by simp only [CL,PCL,TCL,DCL,FCL,RCL,MCL,BCL,GCL,and_self]) (fun _ _=>rfl) rfl rfl fun w r2 i2 q2 h2 hx=>?_
 simp only [↓EJ,FY,simprocAttr]
 refine hK _ ?_;clear hK K
 refine WC.rs fun K hK=>?_
 simp only [↓EJ,FY,simprocAttr]
 refine Ad hx (A0 ts r2 i2 [58]) (by simp only [CL,PCL,TCL,DCL,FCL,RCL,MCL,BCL,GCL,and_self]) (fun _ _=>rfl) rfl rfl fun u r3 i3 q3 h3 hx=>?_
 simp only [↓EJ,FY,simprocAttr]
 refine hK _ ?_;clear hK K
 refine WC.rs fun K hK=>?_
 simp only [↓EJ,FY,simprocAttr]
 refine Ad hx (rnext_sem ts r3 i3) (by simp only [CL,PCL,TCL,DCL,FCL,RCL,MCL,BCL,GCL,and_self]) B2 rfl rfl fun t r4 i4 q4 h4 hx=>?_
 simp only [↓EJ,FY,simprocAttr,TS]
 refine hK _ (Aa [2,3] ?_);clear hK K
 refine WC.rs fun K hK=>?_
 simp only [↓EJ,FY,simprocAttr,TS]
 refine hK _ ?_;clear hK K
 refine WC.ret ?_
 simp only [↓EJ,FY,simprocAttr,EQ,EF,Tryz.results109,TS]
 exact RSem.done (hx ⟨w,t⟩ r4 (RelV.ok i4)) rfl (of_eq_true (by simp only [CL,PCL,TCL,DCL,FCL,RCL,MCL,BCL,GCL,and_self])) rfl
/-! ### A list that grows in a struct's cell, behind a block of its own -/
def deP (k:Nat):List De→PVal
 | []=>.nils
 | a::l=>.ref (.l k) 0 (a::l).length
def deB:List De→List Blk
 | []=>[]
 | a::l=>[.row ((a::l).map deV) 6 75]
theorem Zf {k:Nat} {l:List De} (h:l≠[]):deP k l=.ref (.l k) 0 l.length:=by
 cases l
 ·exact absurd rfl h
 ·rfl
theorem Zg {l:List De} (h:l≠[]):deB l=[.row (l.map deV) 6 75]:=by
 cases l
 ·exact absurd rfl h
 ·rfl
theorem slc_de {l:List De} (h:l≠[]):PVal.slc (List.take l.length (List.map deV l))=Dq l:=by rw [Ka h,List.take_of_length_le (by simp)]
theorem Aa8 {ts:List Tok} {β:Type} (g:List Sm→Unit→PS→PR β) (s:PS) (i:PInv ts s):bnd (Ek ts [114,101,116,117,114,110] (O9 ts s) [] s) (fun l s=>bnd (Ah ts [[114,101,116,117,114,110]] s) (g l))=bnd (Fq ts (O9 ts s) [] s) (fun l s=>bnd (Ah ts [[114,101,116,117,114,110]] s) (g l)) :=
 Q6 (by decide) g _ [] s i (by unfold O9;omega)
theorem Yh {ts:List Tok} (W:RTk ts) (r:RS) (i:PInv ts r.s):RSem 110 [] ts r (Fq ts (O9 ts r.s) [] r.s) C3:=(rmAll W _).stmts r i fun _=>by unfold O9;omega
/-- A block, as the reference hands it back. -/
def bfV (b:Bl):PVal:=fnV ⟨[],[],b.vars,b.body,b.result⟩
theorem M5 (b:Bl):Closed (bfV b):=Dh _
theorem Re {ts:List Tok} (W:RTk ts) (r1:RS) (i1:PInv ts r1.s):RSem 83 [] ts r1 (Fs ts r1.s) bfV:=by
 have hx:=cy0 (ts:=ts) (r:=r1) (x:=Fs ts r1.s)
 replace hx:=hx.to fun _=>(by rw [Fs])
 unfold RSem
 refine FSem.en 26 Tryz.func83 ?_
 simp only [Aj]
 refine WC.go ?_
 refine WC.go ?_
 refine Bt (X:=List De × RS) (fun y=>PInv ts y.2.s∧Cy ts (I8 ts y.1 y.2.s) y.2 (RelV ts (Fs ts r1.s) r1)) (fun y=>⟨[(3,.ptr (.l 1) 0 0),(2,.ptr (.l 0) 0 0),(0,.ptr (.o 0) 0 0)],[Bj ts y.2],[.row [.agg [.str [],.nils,.nils,.nils,.str []]] 5 70,.row [.agg [.str [],.nils,Dq y.1,.nils,.str []]] 5 70],[]⟩) ?_ ?_
 ·refine WC.b1 ?_
  refine WC.loop (X:=Nat × List De × RS) (fun y=>⟨[(3,.ptr (.l 1) 0 0),(2,.ptr (.l 0) 0 0),(0,.ptr (.o 0) 0 0)],[Bj ts y.2.2],.row [.agg [.str [],.nils,.nils,.nils,.str []]] 5 70::.row [.agg [.str [],.nils,deP 2 y.2.1,.nils,.str []]] 5 70::deB y.2.1,[]⟩)
   (fun y=>PInv ts y.2.2.s∧rem ts y.2.2.s + 1≤y.1∧y.2.1.length + rem ts y.2.2.s≤10001∧Cy ts (bnd (Kf ts y.1 y.2.1 y.2.2.s) (I8 ts)) y.2.2 (RelV ts (Fs ts r1.s) r1)) (fun y=>y.1) (rem ts r1.s + 1,[],r1) [0,1] ⟨i1,Nat.le_refl _,by have:=J0 i1;simp only [List.length_nil];omega,hx⟩ ?_ ?_
  ·exact Conv.all (by simp only [EC,simprocAttr,Ap,deP,deB])
  clear hx
  rintro ⟨m,acc,r1⟩ ⟨i1,hm,hlen,hx⟩
  dsimp only at i1 hm hlen hx ⊢
  have hp:=Ez i1
  obtain ⟨m,rfl⟩:∃ k,m=k + 1:=⟨m - 1,by omega⟩
  replace hx:=hx.to fun _=>(by rw [Kf,Ae])
  refine Am fun K3 hK3=>?_
  refine WC.rs fun K hK=>?_
  simp only [↓EJ,FY,simprocAttr]
  refine CallX.tk hx i1 rfl rfl fun b2 r2 i2 q2 hx t2=>?_
  simp only [↓EJ,FY,simprocAttr]
  refine hK _ ?_;clear hK K
  refine WC.cond rfl (fun h=>?_) fun h=>?_
  ·cases h
   have y2:=(t2 rfl).2.2
   dsimp only at hx
   simp only [Ae] at hx
   refine WC.skip (hK3 _ ?_)
   refine WC.b1 ?_
   cases acc with
   | nil =>
     simp only [deP,deB]
     refine WC.dg [⟨0,0,true,[]⟩,⟨1,0,true,[]⟩,⟨2,0,false,[]⟩,⟨3,1,false,[0,1]⟩,⟨4,2,false,[]⟩,⟨5,1,false,[]⟩,⟨6,0,false,[]⟩,⟨7,1,false,[]⟩] [0,1,0,4,12,31,63,127] fun K hK=>?_
     simp only [↓EJ,FY,simprocAttr,DS]
     refine Ad hx (L0 ts r2 i2) (by simp only [CL,PCL,TCL,DCL,FCL,RCL,MCL,BCL,GCL,and_self]) F5 rfl rfl fun d r3 i3 q3 h3 hx=>?_
     simp only [↓EJ,FY,simprocAttr,DS]
     refine hK _ (Aa [0,2,3,5] ?_);clear hK K
     refine WC.r1 ?_
     simp only [↓EJ,FY,simprocAttr]
     refine Ad hx (A0 ts r3 i3 [59]) (by simp only [CL,PCL,TCL,DCL,FCL,RCL,MCL,BCL,GCL,and_self]) (fun _ _=>rfl) rfl rfl fun u r4 i4 q4 h4 hx=>?_
     simp only [↓EJ,FY,simprocAttr]
     try simp only [EQ,simprocAttr]
     refine ⟨(m,[d],r4),[0,1,2],⟨i4,by dsimp only;omega,by simp only [List.length_cons,List.length_nil] at hlen ⊢;omega,hx⟩,by dsimp only;omega,?_⟩
     exact Conv.all (by simp only [EC,simprocAttr,PRN,DRN,DS,Ap,deP,deB,List.map_cons,List.map_nil,List.length_cons,List.length_nil])
   | cons a0 acc0 =>
     generalize ha:a0::acc0=acc at *
     have hne:acc≠[]:=by rw [←ha];simp
     rw [Zf hne,Zg hne]
     refine WC.dg [⟨0,0,true,[]⟩,⟨1,0,true,[]⟩,⟨2,0,false,[]⟩,⟨3,1,false,[0,1]⟩,⟨4,2,false,[]⟩,⟨5,1,false,[]⟩,⟨6,0,false,[]⟩,⟨7,1,false,[]⟩] [0,1,0,4,12,31,63,127] fun K hK=>?_
     simp only [↓EJ,FY,simprocAttr,DS]
     refine Ad hx (L0 ts r2 i2) (by simp only [CL,PCL,TCL,DCL,FCL,RCL,MCL,BCL,GCL,and_self]) F5 rfl rfl fun d r3 i3 q3 h3 hx=>?_
     simp only [↓EJ,FY,simprocAttr,DS]
     refine ⟨by rw [List.length_map],by omega,by omega,?_⟩
     refine hK _ (Aa [0,2,3,5] ?_);clear hK K
     refine WC.r1 ?_
     simp only [↓EJ,FY,simprocAttr]
     refine Ad hx (A0 ts r3 i3 [59]) (by simp only [CL,PCL,TCL,DCL,FCL,RCL,MCL,BCL,GCL,and_self]) (fun _ _=>rfl) rfl rfl fun u r4 i4 q4 h4 hx=>?_
     simp only [↓EJ,FY,simprocAttr]
     try simp only [EQ,simprocAttr]
     refine ⟨(m,acc ++ [d],r4),[0,1,3],⟨i4,by dsimp only;omega,by simp only [List.length_append,List.length_cons,List.length_nil] at hlen ⊢;omega,hx⟩,by dsimp only;omega,?_⟩
     dsimp only
     rw [Zf (by simp),Zg (by simp)]
     exact Conv.all (by simp only [EC,simprocAttr,PRN,DRN,DS,Ap,Aw,List.map_append,List.map_cons,List.map_nil,List.length_append,List.length_cons,List.length_nil])
  ·cases h
   dsimp only at hx
   rw [Ay] at hx
   cases acc with
   | nil =>
     refine WC.exit ?_
     simp only [EQ,reduceIte,Nat.reduceEqDiff]
     try simp only [EQ,simprocAttr]
     refine ⟨([],r2),[0,1],⟨i2,hx⟩,?_⟩
     exact Conv.all (by simp only [EC,simprocAttr,Ap,deP,deB,Di])
   | cons a0 acc0 =>
     generalize ha:a0::acc0=acc at *
     have hne:acc≠[]:=by rw [←ha];simp
     rw [Zf hne,Zg hne]
     refine Dy 1 2 2 rfl rfl rfl (by decide) (by simp) ?_
     have hd:=slc_de hne
     simp only [EX,simprocAttr,hd]
     refine WC.exit ?_
     simp only [EQ,reduceIte,Nat.reduceEqDiff]
     try simp only [EQ,simprocAttr]
     refine ⟨(acc,r2),[0,1],⟨i2,hx⟩,?_⟩
     exact Conv.all (by simp only [EC,simprocAttr,Ap,A3])
 rintro ⟨vs,r2⟩ ⟨i2,hx⟩
 dsimp only at i2 hx ⊢
 replace hx:=hx.to fun _=>Aa8 (β:=Bl) (fun l _ s=>bnd (C2 ts s) fun w s=>bnd (Ah ts [[59]] s) fun _ s=>.ok ((⟨vs,l,w⟩:Bl),s)) r2.s i2
 refine WC.rs fun K hK=>?_
 simp only [↓EJ,FY,simprocAttr]
 refine Ad hx (Yh W r2 i2) (by simp only [CL,PCL,TCL,DCL,FCL,RCL,MCL,BCL,GCL,and_self]) Ct rfl rfl fun l r3 i3 q3 h3 hx=>?_
 simp only [↓EJ,FY,simprocAttr,MS]
 refine hK _ ?_;clear hK K
 refine WC.rs fun K hK=>?_
 simp only [↓EJ,FY,simprocAttr]
 refine Ad hx (A0 ts r3 i3 [114,101,116,117,114,110]) (by simp only [CL,PCL,TCL,DCL,FCL,RCL,MCL,BCL,GCL,and_self]) (fun _ _=>rfl) rfl rfl fun u r4 i4 q4 h4 hx=>?_
 simp only [↓EJ,FY,simprocAttr]
 refine hK _ ?_;clear hK K
 refine WC.rs fun K hK=>?_
 simp only [↓EJ,FY,simprocAttr]
 refine Ad hx (Fj ts r4 i4) (by simp only [CL,PCL,TCL,DCL,FCL,RCL,MCL,BCL,GCL,and_self]) (fun _ _=>rfl) rfl rfl fun w r5 i5 q5 h5 hx=>?_
 simp only [↓EJ,FY,simprocAttr]
 refine hK _ (Aa [0,2,3] ?_);clear hK K
 refine WC.rs fun K hK=>?_
 simp only [↓EJ,FY,simprocAttr]
 refine Ad hx (A0 ts r5 i5 [59]) (by simp only [CL,PCL,TCL,DCL,FCL,RCL,MCL,BCL,GCL,and_self]) (fun _ _=>rfl) rfl rfl fun u r6 i6 q6 h6 hx=>?_
 simp only [↓EJ,FY,simprocAttr]
 refine hK _ ?_;clear hK K
 refine WC.rs fun K hK=>?_
 simp only [↓EJ,FY,simprocAttr,Bi,MS]
 refine hK _ ?_;clear hK K
 refine WC.ret ?_
 simp only [↓EJ,FY,simprocAttr,EQ,EF,Tryz.results83,Bi,MS]
 exact RSem.done (hx ⟨vs,l,w⟩ r6 (RelV.ok i6)) rfl (M5 _) rfl
end Go.LexSem
-- TIGHT
-- CLOSERS: PCL,TCL,DCL,FCL,RCL,MCL,BCL,GCL
set_option maxHeartbeats 16000000
set_option maxRecDepth 8000
namespace Go.LexSem
open Go Go.V Go.Proofs Go.Num

theorem exp_two (ts:List Tok) (a b:List UInt8) (s:PS):Ah ts [a,b] s=bnd (Ah ts [a] s) fun _ s=>Ah ts [b] s:=by
 rw [N0,Ae,Ah]
 rcases Ak ts a s with e | ⟨b,s⟩
 ·rfl
 ·cases b <;> rfl
def S8 (ts:List Tok) (w:List UInt8) (al:List De) (s:PS):PR Fn:=bnd (Ah ts [[123]] s) fun _ s=>bnd (Fs ts s) fun b s=>bnd (Ah ts [[125]] s) fun _ s=>.ok (⟨w,al,b.vars,b.body,b.result⟩,s)
theorem funcK_eq (ts:List Tok) (w:List UInt8) (al:List De) (s:PS):Fo ts w al s=bnd (Ah ts [[41]] s) fun _ s=>S8 ts w al s:=by
 unfold Fo S8
 rw [exp_two,Ae]
def funcR (ts:List Tok) (w:List UInt8) (s:PS):PR Fn:=bnd (Ah ts [[40]] s) fun _ s=>match isP ts s [41] with
 | true=>Fo ts w [] s
 | false=>bnd (N8 ts s) fun d s=>bnd (Gt ts (rem ts s + 1) [d] s) (Fo ts w)
def fnQ (ts:List Tok) (q:Bool) (s:PS):PR Fn:=match q with
 | true=>J1 ts s
 | false=>Nw ts s
theorem fnQ_eq (ts:List Tok) (q:Bool) (s:PS):fnQ ts q s=bnd (C2 ts s) fun w s=>match q with
  | true=>S8 ts w [] s
  | false=>funcR ts w s:=by
 cases q
 ·unfold fnQ Nw funcR
  simp only [Ae]
  rfl
 ·unfold fnQ J1 S8
  rfl
theorem C9 {ts:List Tok} (W:RTk ts) (q:Bool) (r1:RS) (i1:PInv ts r1.s):RSem 82 [.bool q] ts r1 (fnQ ts q r1.s) fnV:=by
 have hx:=cy0 (ts:=ts) (r:=r1) (x:=fnQ ts q r1.s)
 replace hx:=hx.to fun _=>(by rw [fnQ_eq])
 unfold RSem
 refine FSem.en 42 Tryz.func82 ?_
 simp only [Aj]
 refine WC.go ?_
 refine WC.rs fun K hK=>?_
 simp only [↓EJ,FY,simprocAttr]
 refine Ad hx (Fj ts r1 i1) (by simp only [CL,PCL,TCL,DCL,FCL,RCL,MCL,BCL,GCL,and_self]) (fun _ _=>rfl) rfl rfl fun w r2 i2 q2 h2 hx=>?_
 simp only [↓EJ,FY,simprocAttr]
 refine hK _ ?_;clear hK K
 refine WC.go ?_
 refine Bt (X:=List De × RS) (fun y=>PInv ts y.2.s∧Cy ts (S8 ts w y.1 y.2.s) y.2 (RelV ts (fnQ ts q r1.s) r1)) (fun y=>⟨[(6,Dq y.1),(5,.str w),(4,.ptr (.l 0) 0 0),(0,.ptr (.o 0) 0 0)],[Bj ts y.2],[.row [.agg [.str [],.nils,.nils,.nils,.str []]] 5 70],[]⟩) ?_ ?_
 ·refine WC.go ?_
  cases q with
  | true =>
    refine WC.cond rfl (fun h=>?_) fun h=>?_
    ·cases h
    refine WC.skip ?_
    try simp only [EQ,simprocAttr]
    refine ⟨([],r2),[0],⟨i2,hx⟩,?_⟩
    exact Conv.all (by simp only [EC,simprocAttr,Ap,Di])
  | false =>
  refine WC.cond rfl (fun h=>?_) fun h=>?_
  rotate_left
  ·cases h
  dsimp only at hx
  replace hx:=hx.to fun _=>(by rw [funcR])
  refine WC.rs fun K hK=>?_
  simp only [↓EJ,FY,simprocAttr]
  refine Ad hx (A0 ts r2 i2 [40]) (by simp only [CL,PCL,TCL,DCL,FCL,RCL,MCL,BCL,GCL,and_self]) (fun _ _=>rfl) rfl rfl fun u r3 i3 q3 h3 hx=>?_
  simp only [↓EJ,FY,simprocAttr]
  refine hK _ (Aa [0,4,5,6,7,16,23] ?_);clear hK K
  refine Bt (X:=List De × RS) (fun y=>PInv ts y.2.s∧Cy ts (Fo ts w y.1 y.2.s) y.2 (RelV ts (fnQ ts false r1.s) r1)) (fun y=>⟨[(6,Dq y.1),(5,.str w),(4,.ptr (.l 0) 0 0),(0,.ptr (.o 0) 0 0)],[Bj ts y.2],[.row [.agg [.str [],.nils,.nils,.nils,.str []]] 5 70],[]⟩) ?_ ?_
  ·refine WC.rs fun K hK=>?_
   simp only [↓EJ,FY,simprocAttr]
   refine Fz i3 [41] rfl rfl fun b hb=>?_
   simp only [↓EJ,FY,simprocAttr]
   refine hK _ ?_;clear hK K
   refine WC.cond rfl (fun h=>?_) fun h=>?_
   ·obtain rfl:b=false:=by simpa using h
    replace hx:=hx.to fun he=>(by simp only [hb.2 rfl he];exact rfl)
    refine A2 [3] fun K hK=>?_
    simp only [↓EJ,FY,simprocAttr,EZ]
    refine Ad hx (L0 ts r3 i3) (by simp only [CL,PCL,TCL,DCL,FCL,RCL,MCL,BCL,GCL,and_self]) F5 rfl rfl fun d r4 i4 q4 h4 hx=>?_
    simp only [↓EJ,FY,simprocAttr,EZ,DS]
    refine hK _ (Aa [0,4,5,6,7,23] ?_);clear hK K
    refine WC.b1 ?_
    refine WC.loop (X:=Nat × List De × RS) (fun y=>⟨[(6,.ref (.l 1) 0 y.2.1.length),(5,.str w),(4,.ptr (.l 0) 0 0),(0,.ptr (.o 0) 0 0)],[Bj ts y.2.2],[.row [.agg [.str [],.nils,.nils,.nils,.str []]] 5 70,.row (y.2.1.map deV) 6 75],[]⟩)
     (fun y=>PInv ts y.2.2.s∧rem ts y.2.2.s + 1≤y.1∧y.2.1≠[]∧y.2.1.length + rem ts y.2.2.s≤10001∧Cy ts (bnd (Gt ts y.1 y.2.1 y.2.2.s) (Fo ts w)) y.2.2 (RelV ts (fnQ ts false r1.s) r1)) (fun y=>y.1) (rem ts r4.s + 1,[d],r4) [0,1] ⟨i4,Nat.le_refl _,by simp,by have:=J0 i4;simp only [List.length_cons,List.length_nil];omega,hx⟩ ?_ ?_
    ·exact Conv.all (by simp only [EC,simprocAttr,Ap,DRN,DS,List.map_cons,List.map_nil,List.length_cons,List.length_nil])
    rintro ⟨m,acc,r1⟩ ⟨i1,hm,hne,hlen,hx⟩
    dsimp only at i1 hm hne hlen hx ⊢
    have hp:=Ez i1
    obtain ⟨m,rfl⟩:∃ k,m=k + 1:=⟨m - 1,by omega⟩
    replace hx:=hx.to fun _=>(by rw [Gt,Ae])
    refine Am fun K3 hK3=>?_
    refine WC.rs fun K hK=>?_
    simp only [↓EJ,FY,simprocAttr]
    refine CallX.tk hx i1 rfl rfl fun b2 r2 i2 q2 hx t2=>?_
    simp only [↓EJ,FY,simprocAttr]
    refine hK _ ?_;clear hK K
    refine WC.cond rfl (fun h=>?_) fun h=>?_
    ·cases h
     have y2:=(t2 rfl).2.2
     dsimp only at hx
     rw [Ae] at hx
     refine WC.skip (hK3 _ ?_)
     refine WC.b1 ?_
     refine F9 [3] ?_
     simp only [↓EJ,FY,simprocAttr,EZ]
     refine Ad hx (L0 ts r2 i2) (by simp only [CL,PCL,TCL,DCL,FCL,RCL,MCL,BCL,GCL,and_self]) F5 rfl rfl fun d2 r3 i3 q3 h3 hx=>?_
     simp only [↓EJ,FY,simprocAttr,EZ,DS]
     refine ⟨by rw [List.length_map],by omega,by omega,?_⟩
     try simp only [EQ,simprocAttr]
     refine ⟨(m,acc ++ [d2],r3),[0,2],⟨i3,by dsimp only;omega,by simp,by simp only [List.length_append,List.length_cons,List.length_nil] at hlen ⊢;omega,hx⟩,by dsimp only;omega,?_⟩
     exact Conv.all (by simp only [EC,simprocAttr,PRN,DRN,DS,Ap,Aw,List.map_append,List.map_cons,List.map_nil,List.length_append,List.length_cons,List.length_nil])
    ·cases h
     dsimp only at hx
     rw [Ay] at hx
     refine WC.frz 6 1 rfl rfl (by simp) ?_
     refine WC.exit ?_
     simp only [EQ,reduceIte,Nat.reduceEqDiff]
     try simp only [EQ,simprocAttr]
     have hd:=slc_de hne
     refine ⟨(acc,r2),[0],⟨i2,hx⟩,?_⟩
     rw [List.drop_zero,hd]
     exact Conv.all (by simp only [EC,simprocAttr,Ap,A3])
   ·obtain rfl:b=true:=by simpa using h
    replace hx:=hx.to fun he=>(by simp only [(hb.1 rfl).2];exact rfl)
    refine WC.skip ?_
    try simp only [EQ,simprocAttr]
    refine ⟨([],r3),[0],⟨i3,hx⟩,?_⟩
    exact Conv.all (by simp only [EC,simprocAttr,Ap,Di])
  rintro ⟨al,r4⟩ ⟨i4,hx⟩
  dsimp only at i4 hx ⊢
  replace hx:=hx.to fun _=>funcK_eq ts w al r4.s
  refine WC.r1 ?_
  simp only [↓EJ,FY,simprocAttr]
  refine Ad hx (A0 ts r4 i4 [41]) (by simp only [CL,PCL,TCL,DCL,FCL,RCL,MCL,BCL,GCL,and_self]) (fun _ _=>rfl) rfl rfl fun u r5 i5 q5 h5 hx=>?_
  simp only [↓EJ,FY,simprocAttr]
  try simp only [EQ,simprocAttr]
  refine ⟨(al,r5),[0],⟨i5,hx⟩,?_⟩
  exact Conv.all (by simp only [EC,simprocAttr,Ap,A3])
 rintro ⟨al,r3⟩ ⟨i3,hx⟩
 dsimp only at i3 hx ⊢
 replace hx:=hx.to fun _=>(by rw [S8])
 refine WC.rs fun K hK=>?_
 simp only [↓EJ,FY,simprocAttr]
 refine Ad hx (A0 ts r3 i3 [123]) (by simp only [CL,PCL,TCL,DCL,FCL,RCL,MCL,BCL,GCL,and_self]) (fun _ _=>rfl) rfl rfl fun u r4 i4 q4 h4 hx=>?_
 simp only [↓EJ,FY,simprocAttr]
 refine hK _ ?_;clear hK K
 refine WC.rs fun K hK=>?_
 simp only [↓EJ,FY,simprocAttr]
 refine Ad hx (Re W r4 i4) (by simp only [CL,PCL,TCL,DCL,FCL,RCL,MCL,BCL,GCL,and_self]) M5 rfl rfl fun b r5 i5 q5 h5 hx=>?_
 simp only [↓EJ,FY,simprocAttr,bfV,fnV,fnC]
 refine hK _ (Aa [0,4,5,6,7] ?_);clear hK K
 refine WC.rs fun K hK=>?_
 simp only [↓EJ,FY,simprocAttr]
 refine Ad hx (A0 ts r5 i5 [125]) (by simp only [CL,PCL,TCL,DCL,FCL,RCL,MCL,BCL,GCL,and_self]) (fun _ _=>rfl) rfl rfl fun u r6 i6 q6 h6 hx=>?_
 simp only [↓EJ,FY,simprocAttr]
 refine hK _ ?_;clear hK K
 refine WC.rs fun K hK=>?_
 simp only [↓EJ,FY,simprocAttr,Bi,MS]
 refine hK _ (Aa [0,4,5,6,7] ?_);clear hK K
 refine WC.rs fun K hK=>?_
 simp only [↓EJ,FY,simprocAttr,Bi,MS]
 refine hK _ ?_;clear hK K
 refine WC.ret ?_
 simp only [↓EJ,FY,simprocAttr,EQ,EF,Tryz.results82,Bi,MS]
 exact RSem.done (hx ⟨w,al,b.vars,b.body,b.result⟩ r6 (RelV.ok i6)) rfl (Dh _) rfl
end Go.LexSem
-- TIGHT
-- CLOSERS: PCL,TCL,DCL,FCL,RCL,MCL,BCL,GCL
set_option maxHeartbeats 32000000
set_option maxRecDepth 8000
namespace Go.LexSem
open Go Go.V Go.Proofs Go.Num

theorem Xs {β:Type} {f:Bool→PS→PR β} {T:β→RS→Prop} {args':List PVal} {σ:St} {K KP:PVal→St→Prop} {u:TagK K KP} {p:Ref} {ts:List Tok} {r:RS} {t:List UInt8} (hx:Cy ts (bnd (Ak ts t r.s) f) r T) (i:PInv ts r.s) (he:r.e=0) (hp:isP ts r.s t=true) (ho:Cz t=false) (hb:Ao σ.o σ.l p=some (Bj ts r)) (ha:args'=[.ptr p 0 0,.str t])
  (hok:∀ r1,PInv ts r1.s→rem ts r1.s + 1≤rem ts r.s→Cy ts (f true r1.s) r1 T→K (.bool true) (A1 σ p (Bj ts r1))):CallX C 78 args' σ K KP u:=by
 have e:He ts t r=(true,⟨⟨r.s.at_ + 1,Et t r.s.opn⟩,0⟩):=by simp [He,isB,he,hp,ho]
 have h:=V8 ts t r i
 have hs:=Q4 ts r i t
 rw [e] at h hs
 exact CallX.mk (CallW.one (r:=p) hs hb (Bb ts r) (Bb ts _) (fun _=>rfl) (by rw [ha];simp [Ba,ren,A4]) (hok _ h.1.inv (h.2 rfl).2.2 (hx.step h.1)))
theorem CallX.tf {args':List PVal} {σ:St} {K KP:PVal→St→Prop} {u:TagK K KP} {p:Ref} {ts:List Tok} {r:RS} {t:List UInt8} (i:PInv ts r.s) (hp:isP ts r.s t=false) (hb:Ao σ.o σ.l p=some (Bj ts r)) (ha:args'=[.ptr p 0 0,.str t])
  (hok:K (.bool false) (A1 σ p (Bj ts r))):CallX C 78 args' σ K KP u:=by
 have e:He ts t r=(false,r):=by simp [He,isB,hp]
 have hs:=Q4 ts r i t
 rw [e] at hs
 exact CallX.mk (CallW.one (r:=p) hs hb (Bb ts r) (Bb ts _) (fun _=>rfl) (by rw [ha];simp [Ba,ren,A4]) hok)
def nmP (k:Nat):List (List UInt8)→PVal
 | []=>.nils
 | a::l=>.ref (.l k) 0 (a::l).length
def nmB:List (List UInt8)→List Blk
 | []=>[]
 | a::l=>[.row ((a::l).map .str) 1 9]
theorem Yz {k:Nat} {l:List (List UInt8)} (h:l≠[]):nmP k l=.ref (.l k) 0 l.length:=by
 cases l
 ·exact absurd rfl h
 ·rfl
theorem Y0 {l:List (List UInt8)} (h:l≠[]):nmB l=[.row (l.map .str) 1 9]:=by
 cases l
 ·exact absurd rfl h
 ·rfl
theorem slc_nm {l:List (List UInt8)} (h:l≠[]):PVal.slc (List.take l.length (List.map .str l))=Cs l:=by rw [Q5 h,List.take_of_length_le (by simp)]
def fnP (k:Nat):List Fn→PVal
 | []=>.nils
 | a::l=>.ref (.l k) 0 (a::l).length
def fnB:List Fn→List Blk
 | []=>[]
 | a::l=>[.row ((a::l).map fnV) 5 70]
theorem En {k:Nat} {l:List Fn} (h:l≠[]):fnP k l=.ref (.l k) 0 l.length:=by
 cases l
 ·exact absurd rfl h
 ·rfl
theorem Eo {l:List Fn} (h:l≠[]):fnB l=[.row (l.map fnV) 5 70]:=by
 cases l
 ·exact absurd rfl h
 ·rfl
theorem Gn (k:Nat):fnP k []=.nils:=rfl
theorem Pn (k:Nat) (f:Fn):fnP k [f]=.ref (.l k) 0 1:=rfl
theorem Gp:fnB []=[]:=rfl
theorem Po (f:Fn):fnB [f]=[.row [fnV f] 5 70]:=rfl
theorem PGL:(∀ l,(D4 l).solid=true)∧(∀ l,(D4 l).cells=[D4 l])∧(∀ l,(Cs l).solid=true)∧(∀ l,(Cs l).cells=[Cs l]):=by
 refine ⟨fun l=>?_,fun l=>?_,fun l=>?_,fun l=>?_⟩ <;> (try unfold D4) <;> (try unfold Cs) <;> split <;> rfl
theorem Ya {l:List Fn} (h:l≠[]):PVal.slc (List.take l.length (List.map fnV l))=D4 l:=by rw [L5 h,List.take_of_length_le (by simp)]
theorem Uo {ts:List Tok} (W:RTk ts) (r1:RS) (i1:PInv ts r1.s):RSem 43 [] ts r1 (Hp ts r1.s) pgV:=by
 have hx:=cy0 (ts:=ts) (r:=r1) (x:=Hp ts r1.s)
 replace hx:=hx.to fun _=>(by rw [Hp])
 unfold RSem
 refine FSem.en 57 Tryz.func43 ?_
 simp only [Aj]
 refine WC.go ?_
 refine WC.go ?_
 refine Bt (X:=List (List UInt8) × RS) (fun y=>PInv ts y.2.s∧Cy ts (Lf ts y.1 y.2.s) y.2 (RelV ts (Hp ts r1.s) r1)) (fun y=>⟨[(3,.ptr (.l 1) 0 0),(2,.ptr (.l 0) 0 0),(0,.ptr (.o 0) 0 0)],[Bj ts y.2],[.row [.agg [.nils,.nils,.nils,.nils,.nils,.str []]] 6 32,.row [.agg [Cs y.1,.nils,.nils,.nils,.nils,.str []]] 6 32],[]⟩) ?_ ?_
 ·refine WC.b1 ?_
  refine WC.loop (X:=Nat × List (List UInt8) × RS) (fun y=>⟨[(3,.ptr (.l 1) 0 0),(2,.ptr (.l 0) 0 0),(0,.ptr (.o 0) 0 0)],[Bj ts y.2.2],.row [.agg [.nils,.nils,.nils,.nils,.nils,.str []]] 6 32::.row [.agg [nmP 2 y.2.1,.nils,.nils,.nils,.nils,.str []]] 6 32::nmB y.2.1,[]⟩)
   (fun y=>PInv ts y.2.2.s∧rem ts y.2.2.s + 1≤y.1∧y.2.1.length + rem ts y.2.2.s≤10001∧Cy ts (bnd (Hw ts y.1 y.2.1 y.2.2.s) (Lf ts)) y.2.2 (RelV ts (Hp ts r1.s) r1)) (fun y=>y.1) (rem ts r1.s + 1,[],r1) [0,1] ⟨i1,Nat.le_refl _,by have:=J0 i1;simp only [List.length_nil];omega,hx⟩ ?_ ?_
  ·exact Conv.all (by simp only [EC,simprocAttr,Ap,nmP,nmB])
  clear hx
  rintro ⟨m,acc,r1⟩ ⟨i1,hm,hlen,hx⟩
  dsimp only at i1 hm hlen hx ⊢
  have hp:=Ez i1
  obtain ⟨m,rfl⟩:∃ k,m=k + 1:=⟨m - 1,by omega⟩
  replace hx:=hx.to fun _=>(by rw [Hw,Ae])
  refine Am fun K3 hK3=>?_
  refine WC.rs fun K hK=>?_
  simp only [↓EJ,FY,simprocAttr]
  refine CallX.tk hx i1 rfl rfl fun b2 r2 i2 q2 hx t2=>?_
  simp only [↓EJ,FY,simprocAttr]
  refine hK _ ?_;clear hK K
  refine WC.cond rfl (fun h=>?_) fun h=>?_
  ·cases h
   have y2:=(t2 rfl).2.2
   dsimp only at hx
   simp only [Ae] at hx
   refine WC.skip (hK3 _ ?_)
   refine WC.b1 ?_
   cases acc with
   | nil =>
     simp only [nmP,nmB]
     refine WC.dg [⟨0,0,true,[]⟩,⟨1,0,true,[]⟩,⟨2,0,false,[]⟩,⟨3,1,false,[0,1]⟩,⟨4,2,false,[]⟩,⟨5,1,false,[]⟩,⟨6,0,false,[]⟩,⟨7,1,false,[]⟩] [0,1,0,4,12,31,63,127] fun K hK=>?_
     simp only [↓EJ,FY,simprocAttr]
     refine Ad hx (Fj ts r2 i2) (by simp only [CL,PCL,TCL,DCL,FCL,RCL,MCL,BCL,GCL,and_self]) (fun _ _=>rfl) rfl rfl fun d r3 i3 q3 h3 hx=>?_
     simp only [↓EJ,FY,simprocAttr]
     refine hK _ (Aa [0,2,3,4,6,21,23,32,44] ?_);clear hK K
     refine WC.r1 ?_
     simp only [↓EJ,FY,simprocAttr]
     refine Ad hx (A0 ts r3 i3 [59]) (by simp only [CL,PCL,TCL,DCL,FCL,RCL,MCL,BCL,GCL,and_self]) (fun _ _=>rfl) rfl rfl fun u r4 i4 q4 h4 hx=>?_
     simp only [↓EJ,FY,simprocAttr]
     try simp only [EQ,simprocAttr]
     refine ⟨(m,[d],r4),[0,1,2],⟨i4,by dsimp only;omega,by simp only [List.length_cons,List.length_nil] at hlen ⊢;omega,hx⟩,by dsimp only;omega,?_⟩
     exact Conv.all (by simp only [EC,simprocAttr,Ap,nmP,nmB,List.map_cons,List.map_nil,List.length_cons,List.length_nil])
   | cons a0 acc0 =>
     generalize ha:a0::acc0=acc at *
     have hne:acc≠[]:=by rw [←ha];simp
     rw [Yz hne,Y0 hne]
     refine WC.dg [⟨0,0,true,[]⟩,⟨1,0,true,[]⟩,⟨2,0,false,[]⟩,⟨3,1,false,[0,1]⟩,⟨4,2,false,[]⟩,⟨5,1,false,[]⟩,⟨6,0,false,[]⟩,⟨7,1,false,[]⟩] [0,1,0,4,12,31,63,127] fun K hK=>?_
     simp only [↓EJ,FY,simprocAttr]
     refine Ad hx (Fj ts r2 i2) (by simp only [CL,PCL,TCL,DCL,FCL,RCL,MCL,BCL,GCL,and_self]) (fun _ _=>rfl) rfl rfl fun d r3 i3 q3 h3 hx=>?_
     simp only [↓EJ,FY,simprocAttr]
     refine ⟨by rw [List.length_map],by omega,by omega,?_⟩
     refine hK _ (Aa [0,2,3,4,6,21,23,32,44] ?_);clear hK K
     refine WC.r1 ?_
     simp only [↓EJ,FY,simprocAttr]
     refine Ad hx (A0 ts r3 i3 [59]) (by simp only [CL,PCL,TCL,DCL,FCL,RCL,MCL,BCL,GCL,and_self]) (fun _ _=>rfl) rfl rfl fun u r4 i4 q4 h4 hx=>?_
     simp only [↓EJ,FY,simprocAttr]
     try simp only [EQ,simprocAttr]
     refine ⟨(m,acc ++ [d],r4),[0,1,3],⟨i4,by dsimp only;omega,by simp only [List.length_append,List.length_cons,List.length_nil] at hlen ⊢;omega,hx⟩,by dsimp only;omega,?_⟩
     dsimp only
     rw [Yz (by simp),Y0 (by simp)]
     exact Conv.all (by simp only [EC,simprocAttr,Gb,Ap,Aw,List.map_append,List.map_cons,List.map_nil,List.length_append,List.length_cons,List.length_nil])
  ·cases h
   dsimp only at hx
   rw [Ay] at hx
   cases acc with
   | nil =>
     refine WC.exit ?_
     simp only [EQ,reduceIte,Nat.reduceEqDiff]
     try simp only [EQ,simprocAttr]
     refine ⟨([],r2),[0,1],⟨i2,hx⟩,?_⟩
     exact Conv.all (by simp only [EC,simprocAttr,Ap,nmP,nmB,Om])
   | cons a0 acc0 =>
     generalize ha:a0::acc0=acc at *
     have hne:acc≠[]:=by rw [←ha];simp
     rw [Yz hne,Y0 hne]
     refine Dy 1 2 0 rfl rfl rfl (by decide) (by simp) ?_
     have hd:=slc_nm hne
     simp only [EX,simprocAttr,hd]
     refine WC.exit ?_
     simp only [EQ,reduceIte,Nat.reduceEqDiff]
     try simp only [EQ,simprocAttr]
     refine ⟨(acc,r2),[0,1],⟨i2,hx⟩,?_⟩
     exact Conv.all (by simp only [EC,simprocAttr,Ap,PGR])
 rintro ⟨ps,r2⟩ ⟨i2,hx⟩
 dsimp only at i2 hx ⊢
 replace hx:=hx.to fun _=>(by rw [Lf])
 refine Bt (X:=(List Fn × List Fn) × RS) (fun y=>PInv ts y.2.s∧Cy ts (Fr ts ps y.1 y.2.s) y.2 (RelV ts (Hp ts r1.s) r1)) (fun y=>⟨[(3,.ptr (.l 1) 0 0),(2,.ptr (.l 0) 0 0),(0,.ptr (.o 0) 0 0)],[Bj ts y.2],[.row [.agg [.nils,.nils,.nils,.nils,.nils,.str []]] 6 32,.row [.agg [Cs ps,D4 y.1.1,D4 y.1.2,.nils,.nils,.str []]] 6 32],[]⟩) ?_ ?_
 ·refine WC.b1 ?_
  refine WC.loop (X:=Nat × (List Fn × List Fn) × RS) (fun y=>⟨[(3,.ptr (.l 1) 0 0),(2,.ptr (.l 0) 0 0),(0,.ptr (.o 0) 0 0)],[Bj ts y.2.2],.row [.agg [.nils,.nils,.nils,.nils,.nils,.str []]] 6 32::.row [.agg [Cs ps,fnP 2 y.2.1.1,fnP (2 + (fnB y.2.1.1).length) y.2.1.2,.nils,.nils,.str []]] 6 32::(fnB y.2.1.1 ++ fnB y.2.1.2),[]⟩)
   (fun y=>PInv ts y.2.2.s∧rem ts y.2.2.s + 1≤y.1∧y.2.1.1.length + y.2.1.2.length + rem ts y.2.2.s≤10001∧Cy ts (bnd (Gy ts y.1 y.2.1.1 y.2.1.2 y.2.2.s) (Fr ts ps)) y.2.2 (RelV ts (Hp ts r1.s) r1)) (fun y=>y.1) (rem ts r2.s + 1,([],[]),r2) [0,1] ⟨i2,Nat.le_refl _,by have:=J0 i2;simp only [List.length_nil];omega,hx⟩ ?_ ?_
  ·exact Conv.all (by simp only [EC,simprocAttr,Ap,fnP,fnB,PGR])
  clear hx
  rintro ⟨m,⟨F,Q⟩,r1⟩ ⟨i1,hm,hlen,hx⟩
  dsimp only at i1 hm hlen hx ⊢
  have hp:=Ez i1
  obtain ⟨m,rfl⟩:∃ k,m=k + 1:=⟨m - 1,by omega⟩
  replace hx:=hx.to fun _=>(by rw [Gy,Ae])
  refine Am fun K3 hK3=>?_
  refine WC.rs fun K hK=>?_
  have hk:∀ b e',((b=true→r1.e=0∧(isP ts r1.s [102,117,110,99]=true∨(isP ts r1.s [102,117,110,99]=false∧isP ts r1.s [113,117,101,114,121]=true)))∧(b=false→r1.e=0→isP ts r1.s [102,117,110,99]=false∧isP ts r1.s [113,117,101,114,121]=false))→Ix [0,2,3,21] e'=[(21,.bool b),(3,.ptr (.l 1) 0 0),(2,.ptr (.l 0) 0 0),(0,.ptr (.o 0) 0 0)]→K ⟨e',[Bj ts r1],.row [.agg [.nils,.nils,.nils,.nils,.nils,.str []]] 6 32::.row [.agg [Cs ps,fnP 2 F,fnP (2 + (fnB F).length) Q,.nils,.nils,.str []]] 6 32::(fnB F ++ fnB Q),[]⟩:=fun b e' hb he=>by
   refine hK _ (Aa [0,2,3,21] ?_)
   rw [he]
   clear hK K he e'
   refine WC.cond rfl (fun h=>?_) fun h=>?_
   ·subst h
    obtain ⟨he,hw⟩:=hb.1 rfl
    refine WC.skip (hK3 _ ?_)
    refine WC.b1 ?_
    rcases hw with hw | ⟨hw1,hw⟩
    ·refine WC.rs fun K hK=>?_
     simp only [↓EJ,FY,simprocAttr]
     refine Xs hx i1 he hw rfl rfl rfl fun r2 i2 y2 hx=>?_
     simp only [↓EJ,FY,simprocAttr]
     refine hK _ ?_;clear hK K
     refine WC.cond rfl (fun h=>?_) fun h=>?_
     rotate_left
     ·cases h
     dsimp only at hx
     simp only [Ae] at hx
     cases F with
     | nil =>
       cases Q with
       | nil =>
         simp only [Gn,Gp,List.cons_append,List.nil_append,List.length_cons,List.length_nil,Nat.add_zero,Nat.reduceAdd]
         refine Dn [⟨0,0,true,[]⟩,⟨1,0,true,[]⟩,⟨2,0,false,[]⟩,⟨3,1,false,[0,1]⟩,⟨4,2,false,[]⟩,⟨5,1,false,[]⟩,⟨6,0,false,[]⟩,⟨7,1,false,[]⟩] [0,1,0,4,12,31,63,127] ?_
         simp only [↓EJ,FY,simprocAttr,PGS]
         refine Ad hx (C9 W false r2 i2) (by simp only [CL,PCL,TCL,DCL,FCL,RCL,MCL,BCL,GCL,and_self]) Dh rfl rfl fun f r3 i3 q3 h3 hx=>?_
         simp only [↓EJ,FY,simprocAttr,PGS]
         try simp only [EQ,simprocAttr]
         refine ⟨(m,([f],[]),r3),[0,1,2],⟨i3,by dsimp only;omega,by simp only [List.length_append,List.length_cons,List.length_nil] at hlen ⊢;omega,hx⟩,by dsimp only;omega,?_⟩
         dsimp only
         exact Conv.all (by simp only [EC,simprocAttr,PRN,PGR,PGS,A3,MRN,Ap,Gn,Pn,Gp,Po,Aw,List.map_append,List.map_cons,List.map_nil,List.length_append,List.length_cons,List.length_nil,List.cons_append,List.nil_append,Nat.add_zero,Nat.reduceAdd])
       | cons q0 Q0 =>
         generalize hQ:q0::Q0=Q at *
         have hQ0:Q≠[]:=by rw [←hQ];simp
         rw [En hQ0,Eo hQ0]
         simp only [Gn,Gp,List.cons_append,List.nil_append,List.length_cons,List.length_nil,Nat.add_zero,Nat.reduceAdd]
         refine Dn [⟨0,0,true,[]⟩,⟨1,0,true,[]⟩,⟨2,0,false,[]⟩,⟨3,1,false,[0,1]⟩,⟨4,2,false,[]⟩,⟨5,1,false,[]⟩,⟨6,0,false,[]⟩,⟨7,1,false,[]⟩] [0,1,0,4,12,31,63,127] ?_
         simp only [↓EJ,FY,simprocAttr,PGS]
         refine Ad hx (C9 W false r2 i2) (by simp only [CL,PCL,TCL,DCL,FCL,RCL,MCL,BCL,GCL,and_self]) Dh rfl rfl fun f r3 i3 q3 h3 hx=>?_
         simp only [↓EJ,FY,simprocAttr,PGS]
         try simp only [EQ,simprocAttr]
         refine ⟨(m,([f],Q),r3),[0,1,3,2],⟨i3,by dsimp only;omega,by simp only [List.length_append,List.length_cons,List.length_nil] at hlen ⊢;omega,hx⟩,by dsimp only;omega,?_⟩
         dsimp only
         rw [En hQ0,Eo hQ0]
         exact Conv.all (by simp only [EC,simprocAttr,PRN,PGR,PGS,A3,MRN,Ap,Gn,Pn,Gp,Po,Aw,List.map_append,List.map_cons,List.map_nil,List.length_append,List.length_cons,List.length_nil,List.cons_append,List.nil_append,Nat.add_zero,Nat.reduceAdd])
     | cons f0 F0 =>
       cases Q with
       | nil =>
         generalize hF:f0::F0=F at *
         have hF0:F≠[]:=by rw [←hF];simp
         rw [En hF0,Eo hF0]
         simp only [Gn,Gp,List.cons_append,List.nil_append,List.length_cons,List.length_nil,Nat.add_zero,Nat.reduceAdd]
         refine Dn [⟨0,0,true,[]⟩,⟨1,0,true,[]⟩,⟨2,0,false,[]⟩,⟨3,1,false,[0,1]⟩,⟨4,2,false,[]⟩,⟨5,1,false,[]⟩,⟨6,0,false,[]⟩,⟨7,1,false,[]⟩] [0,1,0,4,12,31,63,127] ?_
         simp only [↓EJ,FY,simprocAttr,PGS]
         refine Ad hx (C9 W false r2 i2) (by simp only [CL,PCL,TCL,DCL,FCL,RCL,MCL,BCL,GCL,and_self]) Dh rfl rfl fun f r3 i3 q3 h3 hx=>?_
         simp only [↓EJ,FY,simprocAttr,PGS]
         refine ⟨by rw [List.length_map],by omega,by omega,?_⟩
         try simp only [EQ,simprocAttr]
         refine ⟨(m,(F ++ [f],[]),r3),[0,1,3],⟨i3,by dsimp only;omega,by simp only [List.length_append,List.length_cons,List.length_nil] at hlen ⊢;omega,hx⟩,by dsimp only;omega,?_⟩
         dsimp only
         rw [En (l:=F ++ [f]) (by simp),Eo (l:=F ++ [f]) (by simp)]
         exact Conv.all (by simp only [EC,simprocAttr,PRN,PGR,PGS,A3,MRN,Ap,Gn,Pn,Gp,Po,Aw,List.map_append,List.map_cons,List.map_nil,List.length_append,List.length_cons,List.length_nil,List.cons_append,List.nil_append,Nat.add_zero,Nat.reduceAdd])
       | cons q0 Q0 =>
         generalize hF:f0::F0=F at *
         have hF0:F≠[]:=by rw [←hF];simp
         rw [En hF0,Eo hF0]
         generalize hQ:q0::Q0=Q at *
         have hQ0:Q≠[]:=by rw [←hQ];simp
         rw [En hQ0,Eo hQ0]
         simp only [Gn,Gp,List.cons_append,List.nil_append,List.length_cons,List.length_nil,Nat.add_zero,Nat.reduceAdd]
         refine Dn [⟨0,0,true,[]⟩,⟨1,0,true,[]⟩,⟨2,0,false,[]⟩,⟨3,1,false,[0,1]⟩,⟨4,2,false,[]⟩,⟨5,1,false,[]⟩,⟨6,0,false,[]⟩,⟨7,1,false,[]⟩] [0,1,0,4,12,31,63,127] ?_
         simp only [↓EJ,FY,simprocAttr,PGS]
         refine Ad hx (C9 W false r2 i2) (by simp only [CL,PCL,TCL,DCL,FCL,RCL,MCL,BCL,GCL,and_self]) Dh rfl rfl fun f r3 i3 q3 h3 hx=>?_
         simp only [↓EJ,FY,simprocAttr,PGS]
         refine ⟨by rw [List.length_map],by omega,by omega,?_⟩
         try simp only [EQ,simprocAttr]
         refine ⟨(m,(F ++ [f],Q),r3),[0,1,4,3],⟨i3,by dsimp only;omega,by simp only [List.length_append,List.length_cons,List.length_nil] at hlen ⊢;omega,hx⟩,by dsimp only;omega,?_⟩
         dsimp only
         rw [En (l:=F ++ [f]) (by simp),Eo (l:=F ++ [f]) (by simp),En hQ0,Eo hQ0]
         exact Conv.all (by simp only [EC,simprocAttr,PRN,PGR,PGS,A3,MRN,Ap,Gn,Pn,Gp,Po,Aw,List.map_append,List.map_cons,List.map_nil,List.length_append,List.length_cons,List.length_nil,List.cons_append,List.nil_append,Nat.add_zero,Nat.reduceAdd])
    ·replace hx:=hx.to fun _=>(by rw [Bk hw1,Ay])
     dsimp only at hx
     rw [Ae] at hx
     refine WC.rs fun K hK=>?_
     simp only [↓EJ,FY,simprocAttr]
     refine CallX.tf i1 hw1 rfl rfl ?_
     simp only [↓EJ,FY,simprocAttr]
     refine hK _ ?_;clear hK K
     refine WC.cond rfl (fun h=>?_) fun h=>?_
     ·cases h
     refine WC.rs fun K hK=>?_
     simp only [↓EJ,FY,simprocAttr]
     refine Xs hx i1 he hw rfl rfl rfl fun r2 i2 y2 hx=>?_
     simp only [↓EJ,FY,simprocAttr]
     refine hK _ ?_;clear hK K
     refine WC.cond rfl (fun h=>?_) fun h=>?_
     rotate_left
     ·cases h
     dsimp only at hx
     simp only [Ae] at hx
     cases F with
     | nil =>
       cases Q with
       | nil =>
         simp only [Gn,Gp,List.cons_append,List.nil_append,List.length_cons,List.length_nil,Nat.add_zero,Nat.reduceAdd]
         refine Dn [⟨0,0,true,[]⟩,⟨1,0,true,[]⟩,⟨2,0,false,[]⟩,⟨3,1,false,[0,1]⟩,⟨4,2,false,[]⟩,⟨5,1,false,[]⟩,⟨6,0,false,[]⟩,⟨7,1,false,[]⟩] [0,1,0,4,12,31,63,127] ?_
         simp only [↓EJ,FY,simprocAttr,PGS]
         refine Ad hx (C9 W true r2 i2) (by simp only [CL,PCL,TCL,DCL,FCL,RCL,MCL,BCL,GCL,and_self]) Dh rfl rfl fun f r3 i3 q3 h3 hx=>?_
         simp only [↓EJ,FY,simprocAttr,PGS]
         try simp only [EQ,simprocAttr]
         refine ⟨(m,([],[f]),r3),[0,1,2],⟨i3,by dsimp only;omega,by simp only [List.length_append,List.length_cons,List.length_nil] at hlen ⊢;omega,hx⟩,by dsimp only;omega,?_⟩
         dsimp only
         exact Conv.all (by simp only [EC,simprocAttr,PRN,PGR,PGS,A3,MRN,Ap,Gn,Pn,Gp,Po,Aw,List.map_append,List.map_cons,List.map_nil,List.length_append,List.length_cons,List.length_nil,List.cons_append,List.nil_append,Nat.add_zero,Nat.reduceAdd])
       | cons q0 Q0 =>
         generalize hQ:q0::Q0=Q at *
         have hQ0:Q≠[]:=by rw [←hQ];simp
         rw [En hQ0,Eo hQ0]
         simp only [Gn,Gp,List.cons_append,List.nil_append,List.length_cons,List.length_nil,Nat.add_zero,Nat.reduceAdd]
         refine Dn [⟨0,0,true,[]⟩,⟨1,0,true,[]⟩,⟨2,0,false,[]⟩,⟨3,1,false,[0,1]⟩,⟨4,2,false,[]⟩,⟨5,1,false,[]⟩,⟨6,0,false,[]⟩,⟨7,1,false,[]⟩] [0,1,0,4,12,31,63,127] ?_
         simp only [↓EJ,FY,simprocAttr,PGS]
         refine Ad hx (C9 W true r2 i2) (by simp only [CL,PCL,TCL,DCL,FCL,RCL,MCL,BCL,GCL,and_self]) Dh rfl rfl fun f r3 i3 q3 h3 hx=>?_
         simp only [↓EJ,FY,simprocAttr,PGS]
         refine ⟨by rw [List.length_map],by omega,by omega,?_⟩
         try simp only [EQ,simprocAttr]
         refine ⟨(m,([],Q ++ [f]),r3),[0,1,3],⟨i3,by dsimp only;omega,by simp only [List.length_append,List.length_cons,List.length_nil] at hlen ⊢;omega,hx⟩,by dsimp only;omega,?_⟩
         dsimp only
         rw [En (l:=Q ++ [f]) (by simp),Eo (l:=Q ++ [f]) (by simp)]
         exact Conv.all (by simp only [EC,simprocAttr,PRN,PGR,PGS,A3,MRN,Ap,Gn,Pn,Gp,Po,Aw,List.map_append,List.map_cons,List.map_nil,List.length_append,List.length_cons,List.length_nil,List.cons_append,List.nil_append,Nat.add_zero,Nat.reduceAdd])
     | cons f0 F0 =>
       cases Q with
       | nil =>
         generalize hF:f0::F0=F at *
         have hF0:F≠[]:=by rw [←hF];simp
         rw [En hF0,Eo hF0]
         simp only [Gn,Gp,List.cons_append,List.nil_append,List.length_cons,List.length_nil,Nat.add_zero,Nat.reduceAdd]
         refine Dn [⟨0,0,true,[]⟩,⟨1,0,true,[]⟩,⟨2,0,false,[]⟩,⟨3,1,false,[0,1]⟩,⟨4,2,false,[]⟩,⟨5,1,false,[]⟩,⟨6,0,false,[]⟩,⟨7,1,false,[]⟩] [0,1,0,4,12,31,63,127] ?_
         simp only [↓EJ,FY,simprocAttr,PGS]
         refine Ad hx (C9 W true r2 i2) (by simp only [CL,PCL,TCL,DCL,FCL,RCL,MCL,BCL,GCL,and_self]) Dh rfl rfl fun f r3 i3 q3 h3 hx=>?_
         simp only [↓EJ,FY,simprocAttr,PGS]
         try simp only [EQ,simprocAttr]
         refine ⟨(m,(F,[f]),r3),[0,1,2,3],⟨i3,by dsimp only;omega,by simp only [List.length_append,List.length_cons,List.length_nil] at hlen ⊢;omega,hx⟩,by dsimp only;omega,?_⟩
         dsimp only
         rw [En hF0,Eo hF0]
         exact Conv.all (by simp only [EC,simprocAttr,PRN,PGR,PGS,A3,MRN,Ap,Gn,Pn,Gp,Po,Aw,List.map_append,List.map_cons,List.map_nil,List.length_append,List.length_cons,List.length_nil,List.cons_append,List.nil_append,Nat.add_zero,Nat.reduceAdd])
       | cons q0 Q0 =>
         generalize hF:f0::F0=F at *
         have hF0:F≠[]:=by rw [←hF];simp
         rw [En hF0,Eo hF0]
         generalize hQ:q0::Q0=Q at *
         have hQ0:Q≠[]:=by rw [←hQ];simp
         rw [En hQ0,Eo hQ0]
         simp only [Gn,Gp,List.cons_append,List.nil_append,List.length_cons,List.length_nil,Nat.add_zero,Nat.reduceAdd]
         refine Dn [⟨0,0,true,[]⟩,⟨1,0,true,[]⟩,⟨2,0,false,[]⟩,⟨3,1,false,[0,1]⟩,⟨4,2,false,[]⟩,⟨5,1,false,[]⟩,⟨6,0,false,[]⟩,⟨7,1,false,[]⟩] [0,1,0,4,12,31,63,127] ?_
         simp only [↓EJ,FY,simprocAttr,PGS]
         refine Ad hx (C9 W true r2 i2) (by simp only [CL,PCL,TCL,DCL,FCL,RCL,MCL,BCL,GCL,and_self]) Dh rfl rfl fun f r3 i3 q3 h3 hx=>?_
         simp only [↓EJ,FY,simprocAttr,PGS]
         refine ⟨by rw [List.length_map],by omega,by omega,?_⟩
         try simp only [EQ,simprocAttr]
         refine ⟨(m,(F,Q ++ [f]),r3),[0,1,2,4],⟨i3,by dsimp only;omega,by simp only [List.length_append,List.length_cons,List.length_nil] at hlen ⊢;omega,hx⟩,by dsimp only;omega,?_⟩
         dsimp only
         rw [En hF0,Eo hF0,En (l:=Q ++ [f]) (by simp),Eo (l:=Q ++ [f]) (by simp)]
         exact Conv.all (by simp only [EC,simprocAttr,PRN,PGR,PGS,A3,MRN,Ap,Gn,Pn,Gp,Po,Aw,List.map_append,List.map_cons,List.map_nil,List.length_append,List.length_cons,List.length_nil,List.cons_append,List.nil_append,Nat.add_zero,Nat.reduceAdd])
   ·subst h
    have hw:=hb.2 rfl
    replace hx:=hx.to fun e=>(by rw [Bk (hw e).1,Ay])
    dsimp only at hx
    rw [Ae] at hx
    replace hx:=hx.to fun e=>(by rw [Bk (hw e).2,Ay])
    dsimp only at hx
    rw [Ay] at hx
    cases F with
    | nil =>
      cases Q with
      | nil =>
        refine WC.exit ?_
        simp only [EQ,reduceIte,Nat.reduceEqDiff]
        try simp only [EQ,simprocAttr]
        refine ⟨(([],[]),r1),[0,1],⟨i1,hx⟩,?_⟩
        exact Conv.all (by simp only [EC,simprocAttr,Ap,Gn,Gp,Ip,PGR,List.append_nil])
      | cons q0 Q0 =>
        generalize hQ:q0::Q0=Q at *
        have hQ0:Q≠[]:=by rw [←hQ];simp
        have hd:=Ya hQ0
        rw [En hQ0,Eo hQ0]
        simp only [Gn,Gp,List.nil_append,List.length_nil,Nat.add_zero]
        refine Dy 1 2 2 rfl rfl rfl (by decide) (by simp) ?_
        simp only [EX,simprocAttr,hd]
        refine WC.exit ?_
        simp only [EQ,reduceIte,Nat.reduceEqDiff]
        try simp only [EQ,simprocAttr]
        refine ⟨(([],Q),r1),[0,1],⟨i1,hx⟩,?_⟩
        exact Conv.all (by simp only [EC,simprocAttr,Ap,Ip,PGR])
    | cons f0 F0 =>
      generalize hF:f0::F0=F at *
      have hF0:F≠[]:=by rw [←hF];simp
      have hd:=Ya hF0
      rw [En hF0,Eo hF0]
      cases Q with
      | nil =>
        simp only [Gn,Gp,List.cons_append,List.nil_append,List.length_cons,List.length_nil,Nat.add_zero,Nat.reduceAdd]
        refine Dy 1 2 1 rfl rfl rfl (by decide) (by simp) ?_
        simp only [EX,simprocAttr,hd]
        refine WC.exit ?_
        simp only [EQ,reduceIte,Nat.reduceEqDiff]
        try simp only [EQ,simprocAttr]
        refine ⟨((F,[]),r1),[0,1],⟨i1,hx⟩,?_⟩
        exact Conv.all (by simp only [EC,simprocAttr,Ap,Ip,PGR])
      | cons q0 Q0 =>
        generalize hQ:q0::Q0=Q at *
        have hQ0:Q≠[]:=by rw [←hQ];simp
        have hd2:=Ya hQ0
        rw [En hQ0,Eo hQ0]
        simp only [List.cons_append,List.nil_append,List.length_cons,List.length_nil,Nat.reduceAdd]
        refine Dy 1 2 1 rfl rfl rfl (by decide) (by simp) ?_
        simp only [EX,simprocAttr,hd]
        refine Dy 1 3 2 rfl rfl rfl (by decide) (by simp) ?_
        simp only [EX,simprocAttr,hd2]
        refine WC.exit ?_
        simp only [EQ,reduceIte,Nat.reduceEqDiff]
        try simp only [EQ,simprocAttr]
        refine ⟨((F,Q),r1),[0,1],⟨i1,hx⟩,?_⟩
        exact Conv.all (by simp only [EC,simprocAttr,Ap,PGR])
  simp only [↓EJ,FY,simprocAttr]
  refine Fz i1 [102,117,110,99] rfl rfl fun b hb=>?_
  cases b with
  | true =>
    simp only [↓EJ,FY,simprocAttr,Bool.not_true,Bool.not_false]
    exact hk true _ ⟨fun _=>⟨(hb.1 rfl).1,.inl (hb.1 rfl).2⟩,fun h=>(by cases h)⟩ (by simp only [ET,simprocAttr])
  | false =>
  simp only [↓EJ,FY,simprocAttr,Bool.not_true,Bool.not_false]
  refine Fz i1 [113,117,101,114,121] rfl rfl fun b2 hb2=>?_
  cases b2 with
  | true =>
    simp only [↓EJ,FY,simprocAttr,Bool.not_true,Bool.not_false]
    exact hk true _ ⟨fun _=>⟨(hb2.1 rfl).1,.inr ⟨hb.2 rfl (hb2.1 rfl).1,(hb2.1 rfl).2⟩⟩,fun h=>(by cases h)⟩ (by simp only [ET,simprocAttr])
  | false =>
  simp only [↓EJ,FY,simprocAttr,Bool.not_true,Bool.not_false]
  exact hk false _ ⟨fun h=>(by cases h),fun _ e=>⟨hb.2 rfl e,hb2.2 rfl e⟩⟩ (by simp only [ET,simprocAttr])
 rintro ⟨⟨F,Q⟩,r3⟩ ⟨i3,hx⟩
 dsimp only at i3 hx ⊢
 replace hx:=hx.to fun _=>(by rw [Fr])
 refine WC.rs fun K hK=>?_
 simp only [↓EJ,FY,simprocAttr]
 refine Ad hx (Re W r3 i3) (by simp only [CL,PCL,TCL,DCL,FCL,RCL,MCL,BCL,GCL,and_self]) M5 rfl rfl fun b r4 i4 q4 h4 hx=>?_
 simp only [↓EJ,FY,simprocAttr,bfV,fnV,fnC]
 refine hK _ (Aa [0,2,3,4,21,44] ?_);clear hK K
 refine Bt (X:=RS) (fun r=>PInv ts r.s∧RelV ts (Hp ts r1.s) r1 ⟨ps,F,Q,b.vars,b.body,b.result⟩ r) (fun r=>⟨[(4,.ptr (.l 2) 0 0),(3,.ptr (.l 1) 0 0),(2,.ptr (.l 0) 0 0)],[Bj ts r],[.row [.agg [.nils,.nils,.nils,.nils,.nils,.str []]] 6 32,.row [.agg [Cs ps,D4 F,D4 Q,.nils,.nils,.str []]] 6 32,.row [.agg [.str [],.nils,Dq b.vars,C3 b.body,.str b.result]] 5 70],[]⟩) ?_ ?_
 ·refine WC.rs fun K hK=>?_
  simp only [↓EJ,FY,simprocAttr]
  refine CallX.kd i4 5 rfl rfl fun c hc=>?_
  simp only [↓EJ,FY,simprocAttr]
  refine hK _ ?_;clear hK K
  refine WC.cond rfl (fun h=>?_) fun h=>?_
  ·obtain rfl:c=false:=by simpa using h
   replace hx:=hx.to fun he=>(by rw [if_pos (hc.2 rfl he)])
   refine WC.r1 ?_
   simp only [↓EJ,FY,simprocAttr]
   refine CallX.fl i4 4 (by decide) rfl rfl fun r5 i5 q5 n5 h5=>?_
   simp only [↓EJ,FY,simprocAttr]
   try simp only [EQ,simprocAttr]
   refine ⟨r5,[0,1,2],⟨i5,hx _ r5 (h5 _ _)⟩,?_⟩
   exact Conv.all (by simp only [EC,simprocAttr,Ap,PGR,A3,MRN,Di])
  ·obtain rfl:c=true:=by simpa using h
   replace hx:=hx.to fun he=>(by rw [if_neg (by have:=(hc.1 rfl).2;omega)])
   refine WC.skip ?_
   try simp only [EQ,simprocAttr]
   refine ⟨r4,[0,1,2],⟨i4,hx _ r4 (RelV.ok i4)⟩,?_⟩
   exact Conv.all (by simp only [EC,simprocAttr,Ap,PGR,A3,MRN,Di])
 rintro r5 ⟨i5,hT⟩
 refine WC.dg [⟨0,0,false,[]⟩,⟨1,0,false,[]⟩,⟨2,0,true,[]⟩,⟨3,0,true,[]⟩,⟨4,0,true,[]⟩,⟨5,0,true,[]⟩,⟨6,0,false,[]⟩,⟨7,1,false,[2,3,4,5]⟩,⟨8,0,false,[]⟩,⟨9,1,false,[4,5]⟩,⟨10,0,false,[]⟩,⟨11,1,false,[]⟩] [0,1,0,4,0,16,3,67,207,463,1023,2047] fun K hK=>?_
 simp only [↓EJ,FY,simprocAttr,Bi,MS]
 refine hK _ (Aa [0,2,3,4,21] ?_);clear hK K
 refine WC.rs fun K hK=>?_
 simp only [↓EJ,FY,simprocAttr,Bi,MS,PGL]
 refine hK _ ?_;clear hK K
 refine WC.ret ?_
 simp only [↓EJ,FY,simprocAttr,EQ,EF,Tryz.results43,Bi,MS,PGL]
 exact RSem.done hT rfl (of_eq_true (GCL.2.2 _)) rfl
end Go.LexSem
-- TIGHT
-- CLOSERS: PCL,TCL,DCL,FCL,RCL,MCL,BCL,GCL
set_option maxHeartbeats 32000000
set_option maxRecDepth 8000
namespace Go.LexSem
open Go Go.V Go.Proofs Go.Num

def wOk (t:Tok):Prop:=t.1=3→lowB (t.2.1.headD 0)=true
theorem kws_low:∀ w∈kws,lowB (w.headD 0)=true:=by decide
theorem tokenF_w (s:List UInt8) (a l c:Nat):wOk ((Bd s a).1,(Bd s a).2.1,l,c):=fun h=>by
 unfold Bd at h ⊢
 dsimp only at h ⊢
 split at h
 ·rename_i h1
  rw [if_pos h1]
  split at h
  ·rename_i h2
   rw [if_pos h2]
   exact kws_low _ h2
  ·split at h <;> cases h
 ·split at h
  ·split at h <;> cases h
  ·split at h <;> cases h
theorem U0 (s:List UInt8):∀ k a l c acc,(∀ t∈acc,wOk t)→∀ t∈(Mx k s a l c acc).1,wOk t
 | 0,_,_,_,_,_,t,ht=>by simp only [Mx] at ht;cases ht
 | k + 1,a,l,c,acc,h,t,ht=>by
   unfold Mx at ht
   split at ht
   ·split at ht
    ·exact U0 s k _ _ _ _ h t ht
    ·split at ht
     ·exact U0 s k _ _ _ _ h t ht
     ·split at ht
      ·refine U0 s k _ _ _ _ (fun t hm=>?_) t ht
       rcases List.mem_append.1 hm with hm | hm
       ·exact h t hm
       ·simp only [List.mem_singleton] at hm
        subst hm
        exact tokenF_w s a l c
      ·cases ht
   ·rcases List.mem_append.1 ht with hm | hm
    ·exact h t hm
    ·simp only [List.mem_singleton] at hm
     subst hm
     exact fun h=>by cases h
theorem tokW_of (s:List UInt8):Sr (Bx s).1:=by
 unfold Bx
 split
 ·exact fun t ht=>by cases ht
 ·rw [U3 s (s.length + 1) 0 1 1 [] (by omega)]
  exact U0 s _ _ _ _ _ (fun t ht=>by cases ht)
theorem Yk (HF:∀ ts,Aap ts) (s:List UInt8):FSem C 22 [.str s] [] fun r st=>r=.ret (Ws (Ew s))∧st=[]:=by
 obtain ⟨x,hx⟩:∃ x,x=Ew s:=⟨_,rfl⟩
 rw [←hx]
 unfold Ew at hx
 have ht:=Sk s
 rw [Wf] at ht
 have hok:=Ue (s:=s)
 have hw:=tokW_of s
 obtain ⟨⟨ts,⟨l,c⟩,cd⟩,hts⟩:∃ r,Bx s=r:=⟨_,rfl⟩
 rw [hts] at hx ht hok hw
 dsimp only at hx ht hok hw
 refine FSem.en 55 Tryz.func22 ?_
 simp only [Aj]
 refine WC.go ?_
 refine WC.rs fun K hK=>?_
 simp only [↓EJ,FY,simprocAttr]
 refine CallX.mk (CallW.pure ht (by simp only [CL,and_self]) (by cases ts <;> simp only [V5,pl,CL,eq_true (Cb _),and_self]) ?_)
 simp only [↓EJ,FY,simprocAttr,pl]
 refine hK _ (Aa [2,3,4,5,6,7,8,9,17,30] ?_);clear hK K
 refine Am fun K1 hK1=>?_
 refine WC.go ?_
 refine WC.cond rfl (fun h=>?_) fun h=>?_
 ·have hc:cd≠0:=by simp at h;omega
  rw [if_pos hc] at hx
  refine WC.dg [⟨0,0,false,[]⟩,⟨1,0,true,[]⟩,⟨2,0,true,[]⟩,⟨3,1,false,[1,2]⟩,⟨4,1,false,[2]⟩,⟨5,0,false,[]⟩] [0,0,0,1,11,31] fun K hK=>?_
  simp only [↓EJ,FY,simprocAttr]
  refine hK _ ?_;clear hK K
  refine WC.ret ?_
  simp only [↓EJ,FY,simprocAttr,EQ,EF,Tryz.results22]
  refine EndsIn.plain (by simp only [CL,and_self]) (fun b hb=>by simp at hb) ⟨?_,rfl⟩
  rw [hx];rfl
 have hc:cd=0:=by simp at h;omega
 subst hc
 rw [if_neg (by simp)] at hx
 obtain ⟨hI,hne⟩:=hok rfl
 have htk:V5 ts=.slc (ts.map tkv):=by
  cases ts with
  | nil=>exact absurd rfl hne
  | cons a b=>rfl
 refine WC.skip (hK1 _ ?_)
 rw [htk]
 refine WC.go (Aa [2,3,4,5,8,9,30] ?_)
 rw [show Blk.row [.agg [.slc (ts.map tkv),.int .i64 0,.int .i64 0,.int .i64 0]] 4 98=Bj ts ⟨⟨0,0⟩,0⟩ from rfl]
 refine WC.rs fun K hK=>?_
 simp only [↓EJ,FY,simprocAttr]
 refine CallX.mk (M8 (r:=⟨⟨0,0⟩,0⟩) (Uo ⟨hw,HF ts⟩ ⟨⟨0,0⟩,0⟩ hI) rfl rfl (by simp only [CL]) (fun v=>of_eq_true (GCL.2.2 v)) fun p r2 h2=>?_)
 have i2:=h2.inv
 have ho:=h2.out rfl
 simp only [↓EJ,FY,simprocAttr,pgV,pgC,PGL,Bi,MS]
 refine hK _ ?_;clear hK K
 refine Am fun K1 hK1=>?_
 refine WC.rs fun K hK=>?_
 simp only [↓EJ,FY,simprocAttr,Bj]
 refine hK _ (Aa [2,3,4,5,8,9,30] ?_);clear hK K
 cases hp:Hp ts ⟨0,0⟩ with
 | error q =>
   rw [hp] at hx ho
   obtain ⟨hq,hn⟩:=ho
   refine WC.cond rfl (fun h=>?_) fun h=>?_
   rotate_left
   ·simp at h;exact absurd h hn
   have hg:=If i2.lt
   have hcur:ts.getD r2.s.at_ (5,[],1,1)=cur ts r2.s:=rfl
   rw [hcur] at hg
   have hlt:=i2.lt
   have hle:=i2.le
   refine WC.dg [⟨0,0,false,[]⟩,⟨1,0,true,[]⟩,⟨2,0,true,[]⟩,⟨3,0,true,[]⟩,⟨4,0,true,[]⟩,⟨5,0,true,[]⟩,⟨6,0,true,[]⟩,⟨7,0,true,[]⟩,⟨8,0,true,[]⟩,⟨9,0,true,[]⟩,⟨10,0,true,[]⟩,⟨11,0,true,[]⟩,⟨12,0,true,[]⟩,⟨13,0,true,[]⟩,⟨14,0,true,[]⟩,⟨15,0,true,[]⟩,⟨16,0,true,[]⟩,⟨17,0,true,[]⟩,⟨18,0,true,[]⟩,⟨19,0,true,[]⟩,⟨20,0,true,[]⟩,⟨21,0,true,[]⟩,⟨22,1,false,[1,2,3,4,5,6,7,8,9,10,11,12,13,14,15,16,17,18,19,20,21]⟩,⟨23,1,false,[18,19,20,21]⟩,⟨24,0,false,[]⟩] [0,0,0,4,12,28,62,126,254,0,0,1024,3072,7168,15872,32256,65024,131070,0,262144,786432,1835008,1,4456447,16777215] fun K hK=>?_
   simp only [↓EJ,FY,simprocAttr,Bj,tks,List.length_map,Int.toNat_natCast,hg,Bn]
   refine ⟨by omega,by omega,by omega,by omega,⟨by omega,by omega⟩,?_⟩
   refine hK _ (Aa [2,3,4,9] ?_);clear hK K
   refine WC.ret ?_
   simp only [↓EJ,FY,simprocAttr,EQ,EF,Tryz.results22]
   refine EndsIn.plain (by simp only [CL,and_self]) (fun b hb=>by simp at hb) ⟨?_,rfl⟩
   rw [hx,hq];rfl
 | ok v =>
   obtain ⟨p',s'⟩:=v
   rw [hp] at hx ho
   obtain ⟨rfl,rfl⟩:=ho
   refine WC.cond rfl (fun h=>?_) fun h=>?_
   ·simp at h
   refine WC.skip (hK1 _ ?_)
   refine WC.rs fun K hK=>?_
   simp only [↓EJ,FY,simprocAttr,PGL,Bi,MS]
   refine hK _ ?_;clear hK K
   refine WC.ret ?_
   simp only [↓EJ,FY,simprocAttr,EQ,EF,Tryz.results22,PGL,Bi,MS]
   refine EndsIn.plain (by simp only [CL,GCL,BCL,MCL,and_self]) (fun b hb=>by simp at hb) ⟨?_,rfl⟩
   rw [hx];rfl
end Go.LexSem
