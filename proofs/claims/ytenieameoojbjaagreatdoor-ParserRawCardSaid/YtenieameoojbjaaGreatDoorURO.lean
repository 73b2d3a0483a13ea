/-
 Texts joined: RnE RnF RnG.
-/
import Derived.Test.YtenieameoojbjaaGreatDoorURN
import Derived.Test.YtenieameoojbjaaGreatDoorUMI
import Derived.Test.YtenieameoojbjaaGreatDoorURE
set_option linter.unusedVariables false
set_option linter.unusedSimpArgs false
set_option linter.loopingSimpArgs false
-- TIGHT
set_option maxHeartbeats 16000000
set_option maxRecDepth 8000
namespace Go.LexSem
open Go Go.V Go.Proofs Go.Num

theorem wB_max (D:Ctx) (ts:Array TypeId) (k k':IntKind) (a b:Int) (σ:St) (K KP:PVal→St→Prop):Cp D .max ts [.int k a,.int k' b] σ K KP=K (.int k (mx a b)) σ:=rfl
theorem radd_sem (l m:List Nat) (hl:lim l) (hm:lim m) (hnl:l.length≤100000) (hnm:m.length≤100000):FSem C 105 [lbs l,lbs m] [] fun r st=>r=.ret (A8 (Ai l + Ai m))∧st=[]:=by
 obtain ⟨N,hN⟩:∃ N,N=max l.length m.length + 1:=⟨_,rfl⟩
 have e0:mx (l.length:Int) (m.length:Int)=((max l.length m.length:Nat):Int):=by unfold mx;split <;> omega
 have e1:(((max l.length m.length:Nat):Int) + 1)=(N:Int):=by omega
 have wN:=w64 (x:=(N:Int)) (by omega) (by omega)
 have eN:((N:Nat):Int).toNat=N:=Int.toNat_natCast N
 refine FSem.en 52 Tryz.func105 ?_
 simp only [Aj]
 refine WC.go ?_
 refine WC.rs fun K hK=>?_
 simp (disch:=omega) only [↓EJ,FY,simprocAttr,w64,Bh,lbs,List.length_map,wB_max,e0,e1,wN,eN]
 repeat refine And.intro (by omega) ?_
 refine hK _ (Aa [0,1,4,5,6,7,18,24,35] ?_);clear hK K
 rw [Hm]
 refine WC.go ?_
 refine Am fun K1 hK1=>?_
 refine WC.go ?_
 refine WC.b1 ?_
 refine WC.loop (X:=Nat × List Nat × Nat) (fun x=>⟨[(7,.int .i64 x.1),(6,.int .u64 x.2.2),(5,.ref (.l 0) 0 N),(1,.slc (m.map lb)),(0,.slc (l.map lb))],[],[.row (x.2.1.map lb) 1 151],[]⟩)
  (fun x=>x.1≤N∧x.2.1.length=N∧lim x.2.1∧Ai (x.2.1.take x.1) + x.2.2 * B ^ x.1=Ai (l.take x.1) + Ai (m.take x.1)∧x.2.2≤1) (fun x=>N - x.1) (0,List.replicate N 0,0) [0]
  ⟨Nat.zero_le _,by simp,F2 _,by simp [Ai],Nat.zero_le _⟩ ?_ ?_
 ·exact Conv.all (by simp only [EC,simprocAttr,Ab l _,Ab m _,Ab _ _,Int.cast_ofNat_Int])
 rintro ⟨i,o,c⟩ ⟨h1,h2,h3,h4,h5⟩
 dsimp only at h1 h2 h3 h4 h5 ⊢
 refine Am fun K3 hK3=>?_
 refine WC.go ?_
 refine WC.cond rfl (fun h=>?_) fun h=>?_
 ·have hlt:i < N:=by simpa using h
  have g0:∀ (q:List Nat),¬ i < q.length→q.getD i 0=0:=fun q hi=>by rw [List.getD_eq_getElem?_getD,List.getElem?_eq_none (by omega)];rfl
  have hd:=Be hl i
  have hts:=Aq l i
  have hgv:i < l.length→gi (l.map lb) i=lb (l.getD i 0):=fun h=>Df h
  have hv0:=g0 l
  have hd2:=Be hm i
  have hts2:=Aq m i
  have hgv2:i < m.length→gi (m.map lb) i=lb (m.getD i 0):=fun h=>Df h
  have hv02:=g0 m
  generalize l.getD i 0=d at *
  generalize m.getD i 0=d2 at *
  have wd:=At (Nat.lt_trans hd (by decide))
  have wd2:=At (Nat.lt_trans hd2 (by decide))
  have wa:IntKind.wrap .u64 ((c:Int) + (d:Int))=((c + d:Nat):Int):=by
   rw [←Int.natCast_add];exact At (by rw [Bv] at *;omega)
  have wb:IntKind.wrap .u64 (((c + d:Nat):Int) + (d2:Int))=((c + d + d2:Nat):Int):=by
   rw [←Int.natCast_add];exact At (by rw [Bv] at *;omega)
  refine WC.skip (hK3 _ ?_)
  refine WC.bs fun K4 hK4=>?_
  refine Bt (X:=Unit) (fun _=>True) (fun _=>⟨[(7,.int .i64 i),(6,.int .u64 (c + d:Nat)),(5,.ref (.l 0) 0 N),(1,.slc (m.map lb)),(0,.slc (l.map lb))],[],[.row (o.map lb) 1 151],[]⟩) ?_ ?_
  ·refine WC.go (Aa [0,1,4,5,6,7,18,24,35] ?_)
   refine WC.cond rfl (fun h=>?_) fun h=>?_
   ·have hin:i < l.length:=by simpa using h
    refine WC.r1 ?_
    simp only [↓EJ,FY,simprocAttr,hgv hin,lb,wd,wa,Int.toNat_natCast,List.length_map]
    repeat refine And.intro (by omega) ?_
    try simp only [EQ,simprocAttr]
    first | refine ⟨(),[0],trivial,?_⟩ | refine ⟨(),[0],?_⟩
    exact Conv.all (by simp only [EC,simprocAttr,Ab _ _])
   ·have hin:¬ i < l.length:=by simpa using h
    refine WC.skip ?_
    try simp only [EQ,simprocAttr]
    first | refine ⟨(),[0],trivial,?_⟩ | refine ⟨(),[0],?_⟩
    rw [hv0 hin,Nat.add_zero]
    exact Conv.all (by simp only [EC,simprocAttr,Ab _ _])
  rintro ⟨⟩ _
  refine Bt (X:=Unit) (fun _=>True) (fun _=>⟨[(7,.int .i64 i),(6,.int .u64 (c + d + d2:Nat)),(5,.ref (.l 0) 0 N),(1,.slc (m.map lb)),(0,.slc (l.map lb))],[],[.row (o.map lb) 1 151],[]⟩) ?_ ?_
  ·refine WC.go ?_
   refine WC.cond rfl (fun h=>?_) fun h=>?_
   ·have hin:i < m.length:=by simpa using h
    refine WC.r1 ?_
    simp only [↓EJ,FY,simprocAttr,hgv2 hin,lb,wd2,wb,Int.toNat_natCast,List.length_map]
    repeat refine And.intro (by omega) ?_
    try simp only [EQ,simprocAttr]
    first | refine ⟨(),[0],trivial,?_⟩ | refine ⟨(),[0],?_⟩
    exact Conv.all (by simp only [EC,simprocAttr,Ab _ _])
   ·have hin:¬ i < m.length:=by simpa using h
    refine WC.skip ?_
    try simp only [EQ,simprocAttr]
    first | refine ⟨(),[0],trivial,?_⟩ | refine ⟨(),[0],?_⟩
    rw [hv02 hin,Nat.add_zero]
    exact Conv.all (by simp only [EC,simprocAttr,Ab _ _])
  rintro ⟨⟩ _
  have hpB:c + d + d2 < 2 * B:=by omega
  have hback:=M6 (W:=Ai (o.take i)) (G:=Ai (m.take i)) (U:=Ai (l.take i)) (d:=d2) (ui:=d) (x:=(c + d + d2) % B) (carry:=c) (c':=(c + d + d2) / B) (P:=B ^ i) h4 (by have:=Nat.mod_add_div (c + d + d2) B;omega)
  generalize c + d + d2=p at *
  have e31:(p:Int) % 4294967296=((p % B:Nat):Int):=by rw [Bv];omega
  have e32:(p:Int) / 4294967296=((p / B:Nat):Int):=by rw [Bv];omega
  have wp:=At (n:=p / B) (by rw [Bv] at hpB ⊢;omega)
  have ho:(o.map lb)[i]? = some (lb (o.getD i 0)):=Cc (by omega)
  refine WC.rs fun K hK=>?_
  simp only [↓EJ,FY,simprocAttr,List.length_map,Int.toNat_natCast,ho,lb,Iv,e31]
  repeat refine And.intro (by omega) ?_
  refine hK _ (Aa [0,1,4,5,6,7,18,24,35] ?_);clear hK K
  rw [Cn]
  refine WC.r1 ?_
  simp only [↓EJ,FY,simprocAttr,Dd,e32,wp]
  refine hK4 _ ?_
  refine WC.r1 ?_
  simp (disch:=omega) only [↓EJ,FY,simprocAttr,w64,Bh]
  try simp only [EQ,simprocAttr]
  refine ⟨(i + 1,o.set i (p % B),p / B),[0],⟨by dsimp only;omega,by dsimp only;simp [h2],Cr h3 _ (Nat.mod_lt _ Bz),?_,?_⟩,by dsimp only;omega,?_⟩
  ·dsimp only
   rw [Aq (o.set i (p % B)) i,Cl (Nat.le_refl i),Num.getD_set_eq (by omega),hts,hts2,Nat.pow_succ]
   exact hback
  ·dsimp only;rw [Bv] at hpB ⊢;omega
  ·exact Conv.all (by simp only [EC,simprocAttr,Int.natCast_add,Ab l _,Ab m _,Ab _ _])
 ·have he:i=N:=by simp at h;omega
  subst he
  refine WC.exit (hK1 _ ?_)
  rw [A5 (by omega),A5 (by omega),A5 (by omega)] at h4
  have hc0:c=0:=by
   rcases Nat.le_one_iff_eq_zero_or_eq_one.1 h5 with h | h
   ·exact h
   ·exfalso
    have a1:=Ck hl
    have a2:=Ck hm
    have a3:B ^ l.length≤B ^ (i - 1):=Nat.pow_le_pow_right Bz (by omega)
    have a4:B ^ m.length≤B ^ (i - 1):=Nat.pow_le_pow_right Bz (by omega)
    have a5:B ^ i=B ^ (i - 1) * B:=by rw [←Nat.pow_succ];congr 1;omega
    have a6:B ^ (i - 1) * 2≤B ^ (i - 1) * B:=Nat.mul_le_mul_left _ (by decide)
    rw [h] at h4
    omega
  rw [hc0,Nat.zero_mul,Nat.add_zero] at h4
  have htr:=G3 o h3 (by omega)
  rw [h4] at htr
  refine WC.frz 5 0 rfl rfl (by simp [h2]) ?_
  have e5:((o.map lb).drop 0).take i=o.map lb:=by rw [List.drop_zero,List.take_of_length_le (by simp [h2])]
  rw [e5]
  refine WC.rs fun K hK=>?_
  simp only [↓EJ,FY,simprocAttr]
  refine Cm htr ?_
  simp only [↓EJ,FY,simprocAttr]
  refine hK _ ?_;clear hK K
  refine WC.ret ?_
  simp only [↓EJ,FY,simprocAttr,EQ,EF,Tryz.results105]
  exact An (of_eq_true (Av _)) rfl
theorem Wx (x:Nat):Ai [x]=x:=by simp [Ai]
theorem rmul1_sem (l:List Nat) (d:Nat) (hl:lim l) (hd:d < B) (hnl:l.length≤100000):FSem C 111 [lbs l,lbs [d]] [] fun r st=>r=.ret (A8 (Ai l * d))∧st=[]:=by
 have e1:(((l.length:Int) + 1 + 1)).toNat=l.length + 2:=by omega
 have wd:=At (Nat.lt_trans hd (by decide))
 refine FSem.en 85 Tryz.func111 ?_
 simp only [Aj]
 refine WC.go ?_
 refine WC.rs fun K hK=>?_
 simp (disch:=omega) only [↓EJ,FY,simprocAttr,w64,Bh,lbs,List.length_map,List.length_cons,List.length_nil,e1]
 repeat refine And.intro (by omega) ?_
 refine hK _ (Aa [0,1,4,5,6,7,8,9,10,11,22,28,66] ?_);clear hK K
 rw [Hm]
 refine Am fun K1 hK1=>?_
 refine WC.go ?_
 refine WC.b1 ?_
 refine WC.loop (X:=Nat × List Nat) (fun x=>⟨[(6,.int .i64 x.1),(5,.ref (.l 0) 0 (l.length + 2)),(1,.slc [lb d]),(0,.slc (l.map lb))],[],[.row (x.2.map lb) 1 151],[]⟩)
  (fun x=>x.1≤l.length∧x.2.length=l.length + 2∧lim x.2∧Ai (x.2.take (x.1 + 1))=Ai (l.take x.1) * d∧∀ j,x.1 < j→x.2.getD j 0=0) (fun x=>l.length - x.1) (0,List.replicate (l.length + 2) 0) [0]
  ⟨Nat.zero_le _,by simp,F2 _,by simp [Ai,G7],fun j _=>Nv _ _⟩ ?_ ?_
 ·exact Conv.all (by simp only [EC,simprocAttr,Ab l _,Ab _ _,lb,Int.cast_ofNat_Int])
 rintro ⟨i,o⟩ ⟨h1,h2,h3,h4,h5⟩
 dsimp only at h1 h2 h3 h4 h5 ⊢
 refine Am fun K3 hK3=>?_
 refine WC.go ?_
 refine WC.cond rfl (fun h=>?_) fun h=>?_
 ·have hlt:i < l.length:=by simpa using h
  have hg:=Df hlt
  have ha:=Be hl i
  have hts:=Aq l i
  have hto:=Aq o i
  have hoi:=Be h3 i
  have ho:(o.map lb)[i]? = some (lb (o.getD i 0)):=Cc (by omega)
  have h5':=h5 (i + 1) (by omega)
  generalize l.getD i 0=a at *
  generalize hoi':o.getD i 0=oi at *
  have hx:a * d + oi < B * B:=by
   have:(a + 1) * d≤B * d:=Nat.mul_le_mul_right _ ha
   have h2:B * d≤B * (B - 1):=Nat.mul_le_mul_left _ (by omega)
   rw [Nat.add_mul,Nat.one_mul] at this
   have:a * d≤(B - 1) * (B - 1):=Nat.mul_le_mul (by omega) (by omega)
   rw [Bv] at *;omega
  have wa:=At (Nat.lt_trans ha (by decide))
  have wo:=At (Nat.lt_trans hoi (by decide))
  have wad:IntKind.wrap .u64 ((a:Int) * (d:Int))=((a * d:Nat):Int):=by
   rw [←Int.natCast_mul];exact At (by rw [Bv] at hx;omega)
  have wx:IntKind.wrap .u64 (((a * d:Nat):Int) + (oi:Int))=((a * d + oi:Nat):Int):=by
   rw [←Int.natCast_add];exact At (by rw [Bv] at hx;omega)
  have hsum:Ai (o.take i) + B ^ i * (a * d + oi)=Ai (l.take (i + 1)) * d:=by
   rw [hts,Nat.add_mul,← h4,hto,Nat.mul_add,Nat.mul_assoc (B ^ i) a d];omega
  generalize a * d + oi=x at *
  have wx0:IntKind.wrap .u64 (x:Int)=(x:Int):=At (by rw [Bv] at hx;omega)
  have e31:(x:Int) % 4294967296=((x % B:Nat):Int):=by rw [Bv];omega
  have e32:(x:Int) / 4294967296=((x / B:Nat):Int):=by rw [Bv];omega
  have hxB:x / B < B:=by rw [Nat.div_lt_iff_lt_mul Bz];exact hx
  have wp:=At (Nat.lt_trans hxB (by decide))
  refine WC.skip (hK3 _ ?_)
  refine WC.bs fun K4 hK4=>?_
  refine WC.go ?_
  refine Bt (X:=Unit) (fun _=>True) (fun _=>⟨[(7,.int .u64 (x / B:Nat)),(6,.int .i64 i),(5,.ref (.l 0) 0 (l.length + 2)),(1,.slc [lb d]),(0,.slc (l.map lb))],[],[.row ((o.set i (x % B)).map lb) 1 151],[]⟩) ?_ ?_
  ·refine WC.go ?_
   refine WC.b1 ?_
   refine WC.loop (X:=Nat × Nat × List Nat) (fun z=>⟨[(8,.int .i64 z.1),(7,.int .u64 z.2.1),(6,.int .i64 i),(5,.ref (.l 0) 0 (l.length + 2)),(1,.slc [lb d]),(0,.slc (l.map lb))],[],[.row (z.2.2.map lb) 1 151],[]⟩) (fun z=>z=(0,0,o)∨z=(1,x / B,o.set i (x % B))) (fun z=>1 - z.1) (0,0,o) [0] (.inl rfl) ?_ ?_
   ·exact Conv.all (by simp only [EC,simprocAttr,Ab l _,Ab _ _,lb,Int.cast_ofNat_Int])
   rintro z (rfl | rfl)
   ·dsimp only
    refine Am fun K5 hK5=>?_
    refine WC.rs fun K hK=>?_
    simp only [↓EJ,FY,simprocAttr,List.length_cons,List.length_nil]
    refine hK _ (Aa [0,1,4,5,6,7,8,9,10,11,22,28,66] ?_);clear hK K
    refine WC.cond rfl (fun h=>?_) fun h=>?_
    rotate_left
    ·simp at h
    refine WC.skip (hK5 _ ?_)
    refine WC.bs fun K6 hK6=>?_
    have ei:IntKind.wrap .i64 (i:Int)=(i:Int):=w64 (by omega) (by omega)
    have g0:gi [PVal.int .u32 (d:Int)] 0=.int .u32 d:=rfl
    refine WC.dg [⟨0,0,false,[]⟩,⟨1,0,false,[]⟩,⟨2,0,false,[]⟩,⟨3,0,false,[]⟩,⟨4,0,false,[]⟩,⟨5,0,false,[]⟩,⟨6,0,false,[]⟩,⟨7,0,false,[]⟩,⟨8,0,false,[]⟩,⟨9,0,false,[]⟩,⟨10,0,false,[]⟩,⟨11,0,false,[]⟩,⟨12,0,false,[]⟩,⟨13,0,false,[]⟩,⟨14,0,false,[]⟩,⟨15,0,false,[]⟩,⟨16,0,false,[]⟩,⟨17,0,false,[]⟩,⟨18,0,false,[]⟩,⟨19,0,false,[]⟩,⟨20,0,false,[]⟩,⟨21,0,false,[]⟩] [0,0,3,7,15,0,0,96,224,480,1023,0,0,0,12288,30720,63488,129024,262143,0,1048575,2097151] fun K hK=>?_
    simp only [↓EJ,FY,simprocAttr,List.length_map,List.length_cons,List.length_nil,Int.toNat_natCast,hg,g0,lb,wa,wd,wad,ei,ho,wo,wx,wx0,Int.add_zero,Int.toNat_zero]
    repeat refine And.intro (by omega) ?_
    refine hK _ (Aa [0,1,4,5,6,7,8,9,10,11,22,28,66] ?_);clear hK K
    refine WC.rs fun K hK=>?_
    simp only [↓EJ,FY,simprocAttr,List.length_map,Int.toNat_natCast,ei,Int.add_zero,ho,lb,Iv,e31]
    repeat refine And.intro (by omega) ?_
    refine hK _ (Aa [0,1,4,5,6,7,8,9,10,11,22,28,66] ?_);clear hK K
    rw [Cn]
    refine WC.r1 ?_
    simp only [↓EJ,FY,simprocAttr,Dd,e32,wp]
    refine hK6 _ ?_
    have w1d:IntKind.wrap .i64 1=1:=by decide
    refine WC.r1 ?_
    simp only [↓EJ,FY,simprocAttr,w1d]
    try simp only [EQ,simprocAttr]
    refine ⟨(1,x / B,o.set i (x % B)),[0],.inr rfl,by dsimp only;omega,?_⟩
    exact Conv.all (by simp only [EC,simprocAttr,Ab l _,Ab _ _,lb,Int.cast_ofNat_Int])
   ·dsimp only
    refine Am fun K5 hK5=>?_
    refine WC.rs fun K hK=>?_
    simp only [↓EJ,FY,simprocAttr,List.length_cons,List.length_nil]
    refine hK _ ?_;clear hK K
    refine WC.cond rfl (fun h=>?_) fun h=>?_
    ·simp at h
    refine WC.exit ?_
    simp only [EQ,reduceIte,Nat.reduceEqDiff]
    try simp only [EQ,simprocAttr]
    first | refine ⟨(),[0],trivial,?_⟩ | refine ⟨(),[0],?_⟩
    exact Conv.all (by simp only [EC,simprocAttr,Ab l _,Ab _ _,lb])
  rintro ⟨⟩ _
  have w12:=w64 (x:=(i:Int) + 1) (by omega) (by omega)
  refine WC.rs fun K hK=>?_
  simp only [↓EJ,FY,simprocAttr,List.length_cons,List.length_nil,w12]
  refine hK _ (Aa [0,1,4,5,6,7,8,9,10,11,22,28,66] ?_);clear hK K
  have k1:(o.set i (x % B)).length=l.length + 2:=by simp [h2]
  have k2:lim (o.set i (x % B)):=Cr h3 _ (Nat.mod_lt _ Bz)
  have k3:Ai ((o.set i (x % B)).take (i + 1)) + B ^ (i + 1) * (x / B)=Ai (l.take (i + 1)) * d:=by
   rw [Aq (o.set i (x % B)) i,Cl (Nat.le_refl i),Num.getD_set_eq (by omega),← hsum,Nat.pow_succ,Nat.mul_assoc (B ^ i) B,Nat.add_assoc,← Nat.mul_add,Nat.mod_add_div]
  have k4:∀ j,i < j→(o.set i (x % B)).getD j 0=0:=fun j hj=>by rw [Num.getD_set_ne (by omega)];exact h5 j hj
  generalize o.set i (x % B)=o2 at *
  have k6:Ai ((o2.set (i + 1) (x / B)).take (i + 1 + 1))=Ai (l.take (i + 1)) * d:=by
   rw [Aq (o2.set (i + 1) (x / B)) (i + 1),Cl (Nat.le_refl _),Num.getD_set_eq (by omega)];exact k3
  have ho2:(o2.map lb)[i + 1]? = some (lb 0):=by rw [Cc (by omega),k4 (i + 1) (by omega)]
  have k7:o2.set (i + 1) 0=o2:=by
   refine List.ext_getElem (by simp) fun j hj1 hj2=>?_
   rw [List.getElem_set]
   split
   ·rename_i e;subst e
    have:=k4 (i + 1) (by omega)
    rw [I4 (by omega)] at this
    exact this.symm
   ·rfl
  refine WC.b1 ?_
  refine WC.loop (X:=Nat × Nat × List Nat) (fun z=>⟨[(10,.int .i64 z.1),(7,.int .u64 z.2.1),(6,.int .i64 i),(5,.ref (.l 0) 0 (l.length + 2)),(1,.slc [lb d]),(0,.slc (l.map lb))],[],[.row (z.2.2.map lb) 1 151],[]⟩) (fun z=>z=(i + 1,x / B,o2)∨z=(i + 2,0,o2.set (i + 1) (x / B))) (fun z=>z.2.1) (i + 1,x / B,o2) [0] (.inl rfl) ?_ ?_
  ·exact Conv.all (by simp only [EC,simprocAttr,Ab l _,Ab _ _,lb,Int.natCast_add,Int.cast_ofNat_Int])
  rintro z hz
  by_cases hc:z.2.1=0
  ·have hz2:z.2.2=o2.set (i + 1) (x / B):=by
    rcases hz with rfl | rfl
    ·dsimp only at hc ⊢;rw [hc,k7]
    ·rfl
   obtain ⟨z1,z2,z3⟩:=z
   dsimp only at hc hz2 ⊢
   subst hc hz2
   refine Am fun K5 hK5=>?_
   refine WC.go ?_
   refine WC.cond rfl (fun h=>?_) fun h=>?_
   ·simp at h
   refine WC.exit (hK4 _ ?_)
   refine WC.r1 ?_
   simp (disch:=omega) only [↓EJ,FY,simprocAttr,w64,Bh]
   try simp only [EQ,simprocAttr]
   refine ⟨(i + 1,o2.set (i + 1) (x / B)),[0],⟨by dsimp only;omega,by dsimp only;simp [k1],Cr k2 _ hxB,k6,fun j hj=>?_⟩,by dsimp only;omega,?_⟩
   ·dsimp only at hj ⊢
    rw [Num.getD_set_ne (by omega)]
    exact k4 j (by omega)
   ·exact Conv.all (by simp only [EC,simprocAttr,Int.natCast_add,Ab l _,Ab _ _,lb])
  ·obtain rfl:z=(i + 1,x / B,o2):=by
    rcases hz with rfl | rfl
    ·rfl
    ·exact absurd rfl hc
   dsimp only at hc ⊢
   have hc0:((0:Int) < ((x / B:Nat):Int))=True:=eq_true (by omega)
   have w0:IntKind.wrap .u64 0=0:=by decide
   have w32:=Ff hxB
   have e33:((x / B:Nat):Int) / 4294967296=0:=by rw [Bv] at *;omega
   have ti:(((i + 1:Nat):Int)).toNat=i + 1:=Int.toNat_natCast _
   refine Am fun K5 hK5=>?_
   refine WC.rs fun K hK=>?_
   simp only [↓EJ,FY,simprocAttr,hc0]
   refine hK _ ?_;clear hK K
   refine WC.cond rfl (fun h=>?_) fun h=>?_
   rotate_left
   ·simp at h
   refine WC.skip (hK5 _ ?_)
   refine WC.bs fun K6 hK6=>?_
   refine WC.rs fun K hK=>?_
   simp only [↓EJ,FY,simprocAttr,List.length_map,ti,ho2,lb,Int.cast_ofNat_Int,w0,Int.zero_add,wp]
   repeat refine And.intro (by omega) ?_
   refine hK _ (Aa [0,1,4,5,6,7,8,9,10,11,22,28,66] ?_);clear hK K
   refine WC.rs fun K hK=>?_
   simp only [↓EJ,FY,simprocAttr,List.length_map,ti,ho2,lb,w32]
   repeat refine And.intro (by omega) ?_
   refine hK _ ?_;clear hK K
   rw [Cn]
   refine WC.r1 ?_
   simp only [↓EJ,FY,simprocAttr,Dd,e33]
   refine hK6 _ ?_
   refine WC.r1 ?_
   simp (disch:=omega) only [↓EJ,FY,simprocAttr,w64,Bh]
   try simp only [EQ,simprocAttr]
   refine ⟨(i + 2,0,o2.set (i + 1) (x / B)),[0],.inr rfl,by dsimp only;omega,?_⟩
   have ei2:((i + 1:Nat):Int) + 1=((i + 2:Nat):Int):=by omega
   exact Conv.all (by simp only [EC,simprocAttr,Ab l _,Ab _ _,lb,ei2,Int.cast_ofNat_Int])
 ·have he:i=l.length:=by simp at h;omega
  subst he
  refine WC.exit (hK1 _ ?_)
  have hz:o.drop (l.length + 1)=[o.getD (l.length + 1) 0]:=by
   rw [List.drop_eq_getElem_cons (by omega),List.drop_of_length_le (by omega),I4 (by omega)]
  have hv:=Dc (l:=o) (i:=l.length + 1) (by omega)
  rw [hz,h5 (l.length + 1) (by omega),h4,A5 (Nat.le_refl _)] at hv
  rw [Wx,Nat.mul_zero,Nat.add_zero] at hv
  have htr:=G3 o h3 (by omega)
  rw [hv] at htr
  refine WC.frz 5 0 rfl rfl (by simp [h2]) ?_
  have e5:((o.map lb).drop 0).take (l.length + 2)=o.map lb:=by rw [List.drop_zero,List.take_of_length_le (by simp [h2])]
  rw [e5]
  refine WC.rs fun K hK=>?_
  simp only [↓EJ,FY,simprocAttr]
  refine Cm htr ?_
  simp only [↓EJ,FY,simprocAttr]
  refine hK _ (Aa [0,1,4,5,6,7,8,10] ?_);clear hK K
  refine WC.ret ?_
  simp only [↓EJ,FY,simprocAttr,EQ,EF,Tryz.results111]
  exact An (of_eq_true (Av _)) rfl
end Go.LexSem
-- TIGHT
set_option maxHeartbeats 16000000
set_option maxRecDepth 8000
namespace Go.LexSem
open Go Go.V Go.Proofs Go.Num

theorem Pa (s:List UInt8) (h0:s≠[]) (h60:s.length≤60) (hd:∀ c∈s,A9 (c.toNat:Int)=true):FSem C 214 [.str s] [] fun r st=>r=.ret (.tuple [A8 (dec s),.int .i64 0])∧st=[]:=by
 have hat:∀ i,i < s.length→A9 (gb s i)=true:=fun i hi=>by
  have hgb:gb s i=((s[i].toNat:Nat):Int):=by simp [gb,List.getD_eq_getElem?_getD,hi]
  rw [hgb];exact hd _ (List.getElem_mem hi)
 refine FSem.en 45 Tryz.func214 ?_
 simp only [Aj]
 refine WC.go ?_
 refine Am fun K1 hK1=>?_
 refine WC.go ?_
 refine WC.cond rfl (fun h=>?_) fun h=>?_
 ·simp at h;exact absurd h h0
 refine WC.skip (hK1 _ ?_)
 refine Bt (X:=Unit) (fun _=>True) (fun _=>⟨[(0,.str s)],[],[],[]⟩) ?_ ?_
 ·refine WC.go ?_
  refine WC.b1 ?_
  refine WC.loop (X:=Nat) (fun i=>⟨[(4,.int .i64 i),(0,.str s)],[],[],[]⟩) (fun i=>i≤s.length) (fun i=>s.length - i) 0 [] (Nat.zero_le _) ?_ ?_
  ·exact Conv.all (by simp only [EC,simprocAttr,Int.cast_ofNat_Int])
  rintro i hi
  refine Am fun K3 hK3=>?_
  refine WC.go ?_
  refine WC.cond rfl (fun h=>?_) fun h=>?_
  ·have hlt:i < s.length:=by simpa using h
   have hdi:=hat i hlt
   simp only [A9,Bool.and_eq_true,decide_eq_true_eq] at hdi
   have d1:(gb s i < 48)=False:=eq_false (by omega)
   have d2:((57:Int) < gb s i)=False:=eq_false (by omega)
   refine WC.skip (hK3 _ ?_)
   refine WC.bs fun K4 hK4=>?_
   refine WC.rs fun K hK=>?_
   simp only [↓EJ,FY,simprocAttr,d1,d2,Int.toNat_natCast,Bool.not_true,Bool.not_false]
   repeat refine And.intro (by omega) ?_
   refine hK _ (Aa [0,2,3,4,5,6,12,24,27,31] ?_);clear hK K
   refine WC.cond rfl (fun h=>?_) fun h=>?_
   ·simp at h
   refine WC.skip (hK4 _ ?_)
   refine WC.r1 ?_
   simp (disch:=omega) only [↓EJ,FY,simprocAttr,w64,Bh]
   try simp only [EQ,simprocAttr]
   refine ⟨i + 1,[],by omega,by omega,?_⟩
   exact Conv.all (by simp only [EC,simprocAttr,Int.natCast_add])
  ·refine WC.exit ?_
   simp only [EQ,reduceIte,Nat.reduceEqDiff]
   try simp only [EQ,simprocAttr]
   first | refine ⟨(),[],trivial,?_⟩ | refine ⟨(),[],?_⟩
   exact Conv.all (by simp only [EC,simprocAttr,Int.natCast_add])
 rintro ⟨⟩ _
 refine Am fun K1 hK1=>?_
 refine WC.go ?_
 refine WC.cond rfl (fun h=>?_) fun h=>?_
 ·simp at h;omega
 refine WC.skip (hK1 _ ?_)
 refine WC.go ?_
 refine Am fun K1 hK1=>?_
 refine WC.go ?_
 refine WC.b1 ?_
 refine WC.loop (X:=Nat) (fun i=>⟨[(6,.int .i64 i),(5,A8 (dec (s.take i))),(0,.str s)],[],[],[]⟩) (fun i=>i≤s.length) (fun i=>s.length - i) 0 [] (Nat.zero_le _) ?_ ?_
 ·have e0:A8 (dec [])=.nils:=rfl
  exact Conv.all (by simp only [EC,simprocAttr,List.take_zero,e0,Int.cast_ofNat_Int])
 rintro i hi
 refine Am fun K3 hK3=>?_
 refine WC.go (Aa [0,2,3,4,5,6,31] ?_)
 refine WC.cond rfl (fun h=>?_) fun h=>?_
 ·have hlt:i < s.length:=by simpa using h
  have hdi:=hat i hlt
  simp only [A9,Bool.and_eq_true,decide_eq_true_eq] at hdi
  have hgb:gb s i=((s[i].toNat:Nat):Int):=by simp [gb,List.getD_eq_getElem?_getD,hlt]
  have hts:=M3 (s.take i) s[i]
  rw [←List.take_succ_eq_append_getElem hlt] at hts
  generalize s[i].toNat=c at *
  have hlen:(toL (dec (s.take i))).length≤100:=by
   refine Gl (Nat.lt_of_lt_of_le (Oy _ fun c hc=>hd c (List.mem_of_mem_take hc)) ?_)
   refine Nat.le_trans (Nat.pow_le_pow_right (by decide) (show (s.take i).length≤60 by simp;omega)) (by decide)
  rw [hgb] at hdi
  have hw:IntKind.wrap .u32 (IntKind.wrap .u8 ((c:Int) - 48))=((c - 48:Nat):Int):=by
   rw [IntKind.wrap_u8,Iv];omega
  have hc10:lim [c - 48]:=fun x hx=>by simp at hx;subst hx;rw [Bv];omega
  have hmul:=(rmul1_sem (toL (dec (s.take i))) 10 (Bo _) (by decide) (by omega)).weak (args:=[A8 (dec (s.take i)),lbs [10]]) ⟨Zp _,.inl rfl,trivial⟩
  rw [Br] at hmul
  have hlen2:(toL (dec (s.take i) * 10)).length≤100:=by
   have h1:dec (s.take i) * 10 < 10 ^ 61:=by
    have:=Oy (s.take i) fun c hc=>hd c (List.mem_of_mem_take hc)
    have h2:10 ^ (s.take i).length≤10 ^ 60:=Nat.pow_le_pow_right (by decide) (by simp;omega)
    have h3:10 ^ 61=10 ^ 60 * 10:=by decide
    omega
   exact Gl (Nat.lt_trans h1 (by decide))
  have hadd:=(radd_sem (toL (dec (s.take i) * 10)) [c - 48] (Bo _) hc10 (by omega) (by simp)).weak (args:=[A8 (dec (s.take i) * 10),lbs [c - 48]]) ⟨Zp _,.inl rfl,trivial⟩
  rw [Br,Wx,← hts] at hadd
  refine WC.skip (hK3 _ ?_)
  refine WC.bs fun K4 hK4=>?_
  have b10:PVal.slc [.int .u32 10]=lbs [10]:=rfl
  have bc:PVal.slc [.int .u32 ((c - 48:Nat):Int)]=lbs [c - 48]:=rfl
  refine Dn [⟨0,0,false,[]⟩,⟨1,2,false,[]⟩,⟨2,3,false,[]⟩,⟨3,0,false,[]⟩,⟨4,0,false,[]⟩,⟨5,0,false,[]⟩,⟨6,0,false,[]⟩,⟨7,0,false,[]⟩,⟨8,2,false,[]⟩,⟨9,3,false,[]⟩,⟨10,0,false,[]⟩] [0,0,3,0,0,24,56,120,248,511,1023] ?_
  simp only [↓EJ,FY,simprocAttr,hgb,hw,b10,bc,Int.toNat_natCast]
  refine ⟨A8 (dec (s.take i) * 10),CallX.mk (CallW.pure hmul (by simp only [CL,Al,Av,and_self]) (by simp only [Av]) ⟨rfl,rfl⟩),?_⟩
  repeat refine And.intro (by omega) ?_
  refine ⟨A8 (dec (s.take (i + 1))),CallX.mk (CallW.pure hadd (by simp only [CL,Al,Av,and_self]) (by simp only [Av]) ⟨rfl,rfl⟩),?_⟩
  refine hK4 _ ?_
  refine WC.r1 ?_
  simp (disch:=omega) only [↓EJ,FY,simprocAttr,w64,Bh]
  try simp only [EQ,simprocAttr]
  refine ⟨i + 1,[],by omega,by omega,?_⟩
  exact Conv.all (by simp only [EC,simprocAttr,Int.natCast_add,Ns])
 ·have he:i=s.length:=by simp at h;omega
  subst he
  refine WC.exit (hK1 _ ?_)
  refine WC.go ?_
  refine WC.ret ?_
  simp only [↓EJ,FY,simprocAttr,EQ,EF,Tryz.results214]
  exact An (of_eq_true (by simp only [CL,Av,and_self])) (by rw [List.take_length])
theorem Wq (b:Bool) (x y:Nat) (hx:okN x) (hy:okN y) (hy0:y≠0):FSem C 112 [.bool b,A8 x,A8 y] [] fun r st=>r=.ret (.agg [.bool (b && decide (x≠0)),A8 (x / x.gcd y),A8 (y / x.gcd y)])∧st=[]:=by
 have hg0:x.gcd y≠0:=fun h=>hy0 (Nat.eq_zero_of_gcd_eq_zero_right h)
 have hgk:okN (x.gcd y):=Uv (Nat.gcd_le_right x (Nat.pos_of_ne_zero hy0)) hy
 have hx0:x / x.gcd y=0↔x=0:=by
  constructor
  ·intro h
   have:=Nat.div_mul_cancel (Nat.gcd_dvd_left x y)
   rw [h,Nat.zero_mul] at this
   exact this.symm
  ·intro h;rw [h,Nat.zero_div]
 have h1:=Ld x (x.gcd y) hx hgk hg0
 have h2:=Ld y (x.gcd y) hy hgk hg0
 have hgc:=rgcd_sem x y hx hy
 generalize x.gcd y=g at *
 refine FSem.en 40 Tryz.func112 ?_
 simp only [Aj]
 refine WC.go ?_
 refine WC.rs fun K hK=>?_
 simp only [↓EJ,FY,simprocAttr]
 refine Cm hgc ?_
 simp only [↓EJ,FY,simprocAttr]
 refine hK _ ?_;clear hK K
 refine WC.rs fun K hK=>?_
 simp only [↓EJ,FY,simprocAttr]
 refine Cm h1 ?_
 simp only [↓EJ,FY,simprocAttr]
 refine hK _ (Aa [0,2,6,7,8,11] ?_);clear hK K
 refine WC.rs fun K hK=>?_
 simp only [↓EJ,FY,simprocAttr]
 refine Cm h2 ?_
 simp only [↓EJ,FY,simprocAttr]
 refine hK _ (Aa [0,6,8,11] ?_);clear hK K
 have sc:(∀ n,(A8 n).solid=true)∧(∀ n,(A8 n).cells=[A8 n]):=⟨fun n=>by unfold A8;split <;> rfl,fun n=>by unfold A8;split <;> rfl⟩
 by_cases hz:x=0
 ·have e:x / g=0:=hx0.2 hz
  rw [e,Uw]
  cases b with
  | true =>
    refine WC.rs fun K hK=>?_
    simp only [↓EJ,FY,simprocAttr,sc,Bool.not_true,Bool.not_false]
    refine hK _ (Aa [6] ?_);clear hK K
    refine WC.ret ?_
    simp only [↓EJ,FY,simprocAttr,EQ,EF,Tryz.results112,sc]
    exact An (of_eq_true (by simp only [CL,Av,and_self])) (by simp [hz])
  | false =>
    refine WC.rs fun K hK=>?_
    simp only [↓EJ,FY,simprocAttr,sc,Bool.not_true,Bool.not_false]
    refine hK _ (Aa [6] ?_);clear hK K
    refine WC.ret ?_
    simp only [↓EJ,FY,simprocAttr,EQ,EF,Tryz.results112,sc]
    exact An (of_eq_true (by simp only [CL,Av,and_self])) (by simp)
 ·have e:x / g≠0:=fun h=>hz (hx0.1 h)
  have hl:(toL (x / g)).length≠0:=fun h=>e (toL_eq_nil.1 (List.length_eq_zero_iff.1 h))
  have hl0:((0:Int) < ((toL (x / g)).length:Int))=True:=eq_true (by omega)
  rw [Il e]
  cases b with
  | true =>
    refine WC.rs fun K hK=>?_
    simp only [↓EJ,FY,simprocAttr,sc,lbs,List.length_map,hl0,Bool.not_true,Bool.not_false]
    refine hK _ (Aa [6] ?_);clear hK K
    refine WC.ret ?_
    simp only [↓EJ,FY,simprocAttr,EQ,EF,Tryz.results112,sc]
    exact An (of_eq_true (by simp only [CL,Al,Av,and_self])) (by simp [hz,lbs])
  | false =>
    refine WC.rs fun K hK=>?_
    simp only [↓EJ,FY,simprocAttr,sc,lbs,Bool.not_true,Bool.not_false]
    refine hK _ (Aa [6] ?_);clear hK K
    refine WC.ret ?_
    simp only [↓EJ,FY,simprocAttr,EQ,EF,Tryz.results112,sc]
    exact An (of_eq_true (by simp only [CL,Al,Av,and_self])) (by simp [lbs])
/-- A fraction that the reference makes; none, where nothing may be divided. -/
def Np (b:Bool) (x y:Nat):Bool × Nat × Nat:=if y=0 then (false,0,0) else Hq b x y
theorem ratQ_V (b:Bool) (x y:Nat) (h:y≠0):PVal.agg [.bool (b && decide (x≠0)),A8 (x / x.gcd y),A8 (y / x.gcd y)]=.agg [.bool (Np b x y).1,A8 (Np b x y).2.1,A8 (Np b x y).2.2]:=by
 rw [Np,if_neg h];rfl
theorem rmake_sem (b:Bool) (x y:Nat) (hx:okN x) (hy:okN y):FSem C 215 [.bool b,A8 x,A8 y] [] fun r st=>r=.ret (.tuple [.agg [.bool (Np b x y).1,A8 (Np b x y).2.1,A8 (Np b x y).2.2],.int .i64 (if y=0 then 3 else 0)])∧st=[]:=by
 have sc:(∀ n,(A8 n).solid=true)∧(∀ n,(A8 n).cells=[A8 n]):=⟨fun n=>by unfold A8;split <;> rfl,fun n=>by unfold A8;split <;> rfl⟩
 have ht:=Mt y hy
 refine FSem.en 17 Tryz.func215 ?_
 simp only [Aj]
 refine WC.go ?_
 refine Am fun K1 hK1=>?_
 refine WC.rs fun K hK=>?_
 simp only [↓EJ,FY,simprocAttr]
 refine Cm ht ?_
 by_cases hy0:y=0
 ·subst hy0
  rw [Uw]
  simp only [↓EJ,FY,simprocAttr]
  refine hK _ ?_;clear hK K
  refine WC.cond rfl (fun h=>?_) fun h=>?_
  rotate_left
  ·cases h
  refine WC.go ?_
  refine WC.ret ?_
  simp only [↓EJ,FY,simprocAttr,EQ,EF,Tryz.results215]
  exact An (of_eq_true (by simp only [CL,Av,and_self])) (by simp only [Np,if_true];rfl)
 ·have hl:(toL y).length≠0:=fun h=>hy0 (toL_eq_nil.1 (List.length_eq_zero_iff.1 h))
  have hl0:(((toL y).length:Int)=0)=False:=eq_false (by omega)
  have hlo:=Wq b x y hx hy hy0
  rw [ratQ_V b x y hy0] at hlo
  rw [Il hy0] at hlo ⊢
  simp only [↓EJ,FY,simprocAttr,lbs,List.length_map,hl0]
  refine hK _ ?_;clear hK K
  refine WC.cond rfl (fun h=>?_) fun h=>?_
  ·cases h
  refine WC.skip (hK1 _ ?_)
  rw [if_neg hy0]
  refine WC.rs fun K hK=>?_
  simp only [↓EJ,FY,simprocAttr]
  refine Cm hlo ?_
  simp only [↓EJ,FY,simprocAttr,sc]
  refine hK _ (Aa [6,7] ?_);clear hK K
  refine WC.ret ?_
  simp only [↓EJ,FY,simprocAttr,EQ,EF,Tryz.results215,sc]
  exact An (of_eq_true (by simp only [CL,Av,and_self])) rfl
theorem Aaf (a b:List UInt8) {i:Nat} (h:i < a.length):gb (a ++ b) i=gb a i:=by simp [gb,List.getD_eq_getElem?_getD,List.getElem?_append_left h]
theorem gb_app2 (a b:List UInt8) (c:UInt8):gb (a ++ c::b) a.length=((c.toNat:Nat):Int):=by simp [gb,List.getD_eq_getElem?_getD]
theorem Wo (b:Bool) (x y:List UInt8) (hx0:x≠[]) (hx60:x.length≤60) (hxd:∀ c∈x,A9 (c.toNat:Int)=true) (hy0:y≠[]) (hy60:y.length≤60) (hyd:∀ c∈y,A9 (c.toNat:Int)=true) :
  FSem C 207 [.str ((if b then [45] else []) ++ (x ++ 47::y))] [] fun r st=>r=.ret (.tuple [.agg [.bool (Np b (dec x) (dec y)).1,A8 (Np b (dec x) (dec y)).2.1,A8 (Np b (dec x) (dec y)).2.2],.int .i64 (if dec y=0 then 3 else 0)])∧st=[]:=by
 have sc:(∀ n,(A8 n).solid=true)∧(∀ n,(A8 n).cells=[A8 n]):=⟨fun n=>by unfold A8;split <;> rfl,fun n=>by unfold A8;split <;> rfl⟩
 have hxl:0 < x.length:=List.length_pos_iff.2 hx0
 have p1:=Pa x hx0 hx60 hxd
 have p2:=Pa y hy0 hy60 hyd
 have pm:=rmake_sem b (dec x) (dec y) (L6 hx60 hxd) (L6 hy60 hyd)
 have hdig:∀ i,i < x.length→48≤gb x i∧gb x i≤57:=fun i hi=>by
  have hgb:gb x i=((x[i].toNat:Nat):Int):=by simp [gb,List.getD_eq_getElem?_getD,hi]
  have:=hxd _ (List.getElem_mem hi)
  simp only [A9,Bool.and_eq_true,decide_eq_true_eq] at this
  rw [hgb];exact this
 refine FSem.en 74 Tryz.func207 ?_
 simp only [Aj]
 refine WC.go ?_
 refine Bt (X:=Unit) (fun _=>True) (fun _=>⟨[(4,.bool b),(3,.int .i64 0),(2,.ptr (.l 0) 0 0),(0,.str ((if b then [45] else []) ++ (x ++ 47::y)))],[],[.row [.agg [.bool false,.nils,.nils]] 3 50],[]⟩) ?_ ?_
 ·cases b with
  | true =>
    have g45:gb (45::(x ++ 47::y)) 0=45:=rfl
    simp only [if_true]
    have hlen:((0:Int) < (((x ++ 47::y).length + 1:Nat):Int))=True:=eq_true (by omega)
    refine WC.r1 ?_
    simp only [↓EJ,FY,simprocAttr,hlen,g45,Int.toNat_zero,Bool.not_true,Bool.not_false]
    repeat refine And.intro (by omega) ?_
    try simp only [EQ,simprocAttr]
    first | refine ⟨(),[0],trivial,?_⟩ | refine ⟨(),[0],?_⟩
    exact Conv.all (by simp only [EC,simprocAttr,if_true])
  | false =>
    have g45:(gb (x ++ 47::y) 0=45)=False:=eq_false (by rw [Aaf _ _ hxl];have:=hdig 0 hxl;omega)
    simp only [Bool.false_eq_true,if_false,List.nil_append]
    have hlen:((0:Int) < ((x ++ 47::y).length:Int))=True:=eq_true (by simp;omega)
    refine WC.r1 ?_
    simp only [↓EJ,FY,simprocAttr,hlen,g45,Int.toNat_zero,Bool.not_true,Bool.not_false]
    repeat refine And.intro (by omega) ?_
    try simp only [EQ,simprocAttr]
    first | refine ⟨(),[0],trivial,?_⟩ | refine ⟨(),[0],?_⟩
    exact Conv.all (by simp only [EC,simprocAttr,if_false,Bool.false_eq_true,List.nil_append])
 rintro ⟨⟩ _
 refine Bt (X:=Unit) (fun _=>True) (fun _=>⟨[(4,.bool b),(3,.int .i64 0),(2,.ptr (.l 0) 0 0),(0,.str (x ++ 47::y))],[],[.row [.agg [.bool false,.nils,.nils]] 3 50],[]⟩) ?_ ?_
 ·refine WC.go ?_
  cases b with
  | true =>
    refine WC.cond rfl (fun h=>?_) fun h=>?_
    rotate_left
    ·cases h
    simp only [if_true]
    have tkall:List.take (x.length + (y.length + 1)) (x ++ 47::y)=x ++ 47::y:=List.take_of_length_le (by simp)
    refine WC.r1 ?_
    simp only [↓EJ,FY,simprocAttr,List.length_append,List.length_cons,List.length_nil,tkall]
    repeat refine And.intro (by omega) ?_
    try simp only [EQ,simprocAttr]
    first | refine ⟨(),[0],trivial,?_⟩ | refine ⟨(),[0],?_⟩
    exact Conv.all (by simp only [EC,simprocAttr,if_true])
  | false =>
    refine WC.cond rfl (fun h=>?_) fun h=>?_
    ·cases h
    refine WC.skip ?_
    try simp only [EQ,simprocAttr]
    first | refine ⟨(),[0],trivial,?_⟩ | refine ⟨(),[0],?_⟩
    exact Conv.all (by simp only [EC,simprocAttr,if_false,Bool.false_eq_true,List.nil_append])
 rintro ⟨⟩ _
 refine WC.go ?_
 have hlt0:x.length < (x ++ 47::y).length:=by simp
 have hll:(x ++ 47::y).length≤200:=by simp;omega
 refine Bt (X:=Unit) (fun _=>True) (fun _=>⟨[(5,.int .i64 x.length),(4,.bool b),(3,.int .i64 0),(2,.ptr (.l 0) 0 0),(0,.str (x ++ 47::y))],[],[.row [.agg [.bool false,.nils,.nils]] 3 50],[]⟩) ?_ ?_
 ·refine WC.b1 ?_
  refine WC.loop (X:=Nat) (fun i=>⟨[(5,.int .i64 i),(4,.bool b),(3,.int .i64 0),(2,.ptr (.l 0) 0 0),(0,.str (x ++ 47::y))],[],[.row [.agg [.bool false,.nils,.nils]] 3 50],[]⟩) (fun i=>i≤x.length) (fun i=>x.length - i) 0 [0] (Nat.zero_le _) ?_ ?_
  ·exact Conv.all (by simp only [EC,simprocAttr,Int.cast_ofNat_Int])
  rintro i hi
  have hl1:((i:Int) < ((x ++ 47::y).length:Int))=True:=eq_true (by omega)
  by_cases he:i < x.length
  ·have hn:(gb (x ++ 47::y) i=47)=False:=eq_false (by rw [Aaf _ _ he];have:=hdig i he;omega)
   refine Am fun K3 hK3=>?_
   refine WC.rs fun K hK=>?_
   simp only [↓EJ,FY,simprocAttr,hl1,hn,Int.toNat_natCast,Bool.not_true,Bool.not_false]
   repeat refine And.intro (by omega) ?_
   refine hK _ (Aa [0,2,3,4,5,6,7,8,9,30,41,48,58,66] ?_);clear hK K
   refine WC.cond rfl (fun h=>?_) fun h=>?_
   rotate_left
   ·simp at h
   refine WC.skip (hK3 _ ?_)
   refine WC.b1 ?_
   refine WC.r1 ?_
   simp (disch:=omega) only [↓EJ,FY,simprocAttr,w64,Bh]
   try simp only [EQ,simprocAttr]
   refine ⟨i + 1,[0],by omega,by omega,?_⟩
   exact Conv.all (by simp only [EC,simprocAttr,Int.natCast_add])
  ·obtain rfl:i=x.length:=by omega
   have hn:(gb (x ++ 47::y) x.length=47)=True:=eq_true (by rw [gb_app2];rfl)
   refine Am fun K3 hK3=>?_
   refine WC.rs fun K hK=>?_
   simp only [↓EJ,FY,simprocAttr,hl1,hn,Int.toNat_natCast,Bool.not_true,Bool.not_false]
   repeat refine And.intro (by omega) ?_
   refine hK _ (Aa [0,2,3,4,5,6,7,8,9,30,41,48,58,66] ?_);clear hK K
   refine WC.cond rfl (fun h=>?_) fun h=>?_
   ·simp at h
   refine WC.exit ?_
   simp only [EQ,reduceIte,Nat.reduceEqDiff]
   try simp only [EQ,simprocAttr]
   first | refine ⟨(),[0],trivial,?_⟩ | refine ⟨(),[0],?_⟩
   exact Conv.all (by simp only [EC,simprocAttr,Int.natCast_add])
 rintro ⟨⟩ _
 have tk:List.take x.length (x ++ 47::y)=x:=by simp
 have dk:List.drop (x.length + 1) (x ++ 47::y)=y:=by rw [List.drop_append];simp
 have hl1:((x.length:Int) < ((x ++ 47::y).length:Int))=True:=eq_true (by omega)
 have e1:((x.length:Int) + 1).toNat=x.length + 1:=by omega
 generalize hs:x ++ 47::y=s at *
 refine WC.rs fun K hK=>?_
 simp only [↓EJ,FY,simprocAttr,tk,Int.toNat_natCast,List.drop_zero]
 repeat refine And.intro (by omega) ?_
 refine Cm p1 ?_
 simp only [↓EJ,FY,simprocAttr]
 refine hK _ (Aa [0,2,3,4,5,6,7,8,9,41,48,58,66] ?_);clear hK K
 refine Am fun K1 hK1=>?_
 refine WC.go ?_
 refine WC.cond rfl (fun h=>?_) fun h=>?_
 ·cases h
 refine WC.skip (hK1 _ ?_)
 refine WC.go ?_
 have w1:=w64 (x:=(x.length:Int) + 1) (by omega) (by omega)
 have dk2:List.take (s.length - (x.length + 1)) y=y:=List.take_of_length_le (by rw [←hs];simp;omega)
 refine Bt (X:=Unit) (fun _=>True) (fun _=>⟨[(9,.int .i64 0),(8,A8 (dec y)),(7,.int .i64 0),(6,A8 (dec x)),(4,.bool b),(3,.int .i64 0),(2,.ptr (.l 0) 0 0)],[],[.row [.agg [.bool false,.nils,.nils]] 3 50],[]⟩) ?_ ?_
 ·refine WC.go (Aa [0,2,3,4,5,6,7,8,9,48,58,66] ?_)
  refine WC.cond rfl (fun h=>?_) fun h=>?_
  rotate_left
  ·simp at h;omega
  refine WC.r1 ?_
  simp only [↓EJ,FY,simprocAttr,w1,e1,dk,dk2]
  repeat refine And.intro (by omega) ?_
  refine Cm p2 ?_
  simp only [↓EJ,FY,simprocAttr]
  try simp only [EQ,simprocAttr]
  first | refine ⟨(),[0],trivial,?_⟩ | refine ⟨(),[0],?_⟩
  exact Conv.all (by simp only [EC,simprocAttr,Ns])
 rintro ⟨⟩ _
 refine Am fun K1 hK1=>?_
 refine WC.go ?_
 refine WC.cond rfl (fun h=>?_) fun h=>?_
 ·cases h
 refine WC.skip (hK1 _ ?_)
 refine Am fun K1 hK1=>?_
 refine WC.rs fun K hK=>?_
 simp only [↓EJ,FY,simprocAttr,Bool.not_true,Bool.not_false]
 refine hK _ (Aa [0,2,3,4,5,6,7,8,9,66] ?_);clear hK K
 refine WC.cond rfl (fun h=>?_) fun h=>?_
 ·cases h
 refine WC.skip (hK1 _ ?_)
 refine WC.rs fun K hK=>?_
 simp only [↓EJ,FY,simprocAttr]
 refine Cm pm ?_
 simp only [↓EJ,FY,simprocAttr,sc]
 refine hK _ (Aa [0,2,3,4,5,6,7,8,9] ?_);clear hK K
 refine WC.ret ?_
 simp only [↓EJ,FY,simprocAttr,EQ,EF,Tryz.results207,sc]
 exact An (of_eq_true (by simp only [CL,Av,and_self])) rfl
end Go.LexSem
-- TIGHT
set_option maxHeartbeats 16000000
set_option maxRecDepth 8000
namespace Go.LexSem
open Go Go.V Go.Proofs Go.Num

/-! ### The reader's fractions -/
def Pp (w:List UInt8):Prop:=w≠[]∧w.length≤60∧∀ c∈w,A9 (c.toNat:Int)=true
/-- The number that stands at, as a text. -/
def Is (ts:List Tok) (s:PS):PR (List UInt8):=if (cur ts s).1≠2 then .error (Gr (cur ts s) 4) else .ok ((cur ts s).2.1,goS s)
theorem I0 (ts:List Tok) (r1:RS) (i1:PInv ts r1.s):FSem C 205 [.ptr (.o 0) 0 0] [Bj ts r1] fun q st=>∃ v r',(RelV ts (Is ts r1.s) r1 v r'∧Pp v)∧q=.ret (.str v)∧st=[Bj ts r']:=by
 have hlt:=i1.lt
 have hle:=i1.le
 have fin:∀ {v:List UInt8} {r':RS} {σ:St},RelV ts (Is ts r1.s) r1 v r'→Pp v→σ.o=[Bj ts r']→EndsIn σ (.str v) fun p st=>∃ v r',(RelV ts (Is ts r1.s) r1 v r'∧Pp v)∧PRes.ret p=.ret (.str v)∧st=[Bj ts r']:=fun {v r' σ} h1 h2 h3=>by
  refine EndsIn.plain (fun _=>rfl) (fun k hk=>?_) ⟨v,r',⟨h1,h2⟩,rfl,h3⟩
  rw [h3] at hk
  simp only [List.mem_singleton] at hk
  subst hk
  exact Bb ts r'
 refine FSem.en 27 Tryz.func205 ?_
 simp only [Aj]
 refine WC.go ?_
 refine Am fun K1 hK1=>?_
 refine WC.rs fun K hK=>?_
 simp only [↓EJ,FY,simprocAttr]
 refine CallX.kd i1 2 rfl rfl fun b hb=>?_
 simp only [↓EJ,FY,simprocAttr]
 refine hK _ ?_;clear hK K
 refine WC.cond rfl (fun h=>?_) fun h=>?_
 ·refine WC.rs fun K hK=>?_
  simp only [↓EJ,FY,simprocAttr]
  refine CallX.fl i1 4 (by decide) rfl rfl fun r3 i3 q3 n3 h3=>?_
  simp only [↓EJ,FY,simprocAttr]
  refine hK _ ?_;clear hK K
  refine WC.go ?_
  refine WC.ret ?_
  simp only [↓EJ,FY,simprocAttr,EQ,EF,Tryz.results205]
  have hk:r1.e=0→Is ts r1.s=.error (Gr (cur ts r1.s) 4):=fun he=>by rw [Is,if_pos (hb.2 (by simpa using h) he)]
  exact fin (cy0.to hk [48] r3 (h3 _ [48])) ⟨by simp,by simp,by decide⟩ rfl
 refine WC.skip (hK1 _ ?_)
 obtain ⟨he,hk⟩:=hb.1 (by simpa using h)
 have i2:=i1.go (o:=r1.s.opn) (by omega) (by omega) (by omega)
 have hg:=If i1.lt
 have hw:IntKind.wrap .i64 ((r1.s.at_:Int) + 1 - 1)=r1.s.at_:=by rw [Int.add_sub_cancel];exact w64 (by omega) (by omega)
 refine WC.rs fun K hK=>?_
 simp (disch:=omega) only [↓EJ,FY,simprocAttr,w64,Bh,Bj]
 refine hK _ (Aa [0,2] ?_);clear hK K
 refine WC.dg [⟨0,0,false,[]⟩,⟨1,0,false,[]⟩,⟨2,0,false,[]⟩,⟨3,0,false,[]⟩,⟨4,0,false,[]⟩,⟨5,0,false,[]⟩,⟨6,0,false,[]⟩,⟨7,0,false,[]⟩,⟨8,0,false,[]⟩,⟨9,0,false,[]⟩,⟨10,0,false,[]⟩,⟨11,0,false,[]⟩,⟨12,0,false,[]⟩] [0,1,3,7,0,16,48,112,240,511,1023,2047,4095] fun K hK=>?_
 simp only [↓EJ,FY,simprocAttr,Bj,tks,List.length_map,Int.toNat_natCast,hw,hg,Bn]
 repeat refine And.intro (by omega) ?_
 refine hK _ (Aa [2] ?_);clear hK K
 refine WC.ret ?_
 simp only [↓EJ,FY,simprocAttr,EQ,EF,Tryz.results205]
 have hn:r1.e=0→Is ts r1.s=.ok ((cur ts r1.s).2.1,goS r1.s):=fun _=>by rw [Is,if_neg (by omega)]
 refine fin (r':=⟨goS r1.s,0⟩) (cy0.to hn _ _ ⟨i2,Nat.le_succ _,fun h=>absurd he h,fun _=>⟨rfl,rfl⟩⟩) (i1.num _ (I7 i1) hk) ?_
 simp only [Bj,tks,goS,Int.natCast_add,he];rfl
theorem dec_zero {w:List UInt8} (h:w.length≤60) (hd:∀ c∈w,A9 (c.toNat:Int)=true):min (dec w) 1000001=0↔dec w=0:=by omega
/-- "/" and a denominator, if they are there. -/
def Jh (ts:List Tok) (s:PS):PR (List UInt8):=bnd (Ak ts [47] s) fun b s=>match b with
 | false=>.ok ([49],s)
 | true=>if (cur ts s).1≠2 then .error (Gr (cur ts s) 4) else if dec (cur ts s).2.1=0 then .error (Gr (cur ts s) 3) else .ok ((cur ts s).2.1,goS s)
theorem CallX.dg {β:Type} {args':List PVal} {σ:St} {K KP:PVal→St→Prop} {u:TagK K KP} {p:Ref} {ts:List Tok} {r:RS} {x:PR (List UInt8)} {f:List UInt8→PS→PR β} {T:β→RS→Prop} {g:FuncId} (hx:Cy ts (bnd x f) r T)
  (spec:FSem C g [.ptr (.o 0) 0 0] [Bj ts r] fun q st=>∃ v r',(RelV ts x r v r'∧Pp v)∧q=.ret (.str v)∧st=[Bj ts r']) (hb:Ao σ.o σ.l p=some (Bj ts r)) (ha:args'=[.ptr p 0 0])
  (hok:∀ v r1,PInv ts r1.s→RelV ts x r v r1→Pp v→Cy ts (f v r1.s) r1 T→K (.str v) (A1 σ p (Bj ts r1))):CallX C g args' σ K KP u :=
 CallX.mk (CallW.of spec [p] (by simp) (by rw [ha];simp [Ba,ren,A4]) rfl (fun j r' k hr hk=>by
  cases j with
  | zero=>simp at hr hk;subst hr hk;rw [Bb];exact hb
  | succ j=>simp at hr) fun q st' ho=>by
  have e:∀ b,By σ [p] [b]=A1 σ p b:=fun b=>by simp [By]
  obtain ⟨v,r1,⟨h1,h2⟩,rfl,rfl⟩:=ho
  simp only [List.map_cons,List.map_nil,Bb _ _ _,e]
  exact hok _ _ h1.inv h1 h2 (hx.step h1))
theorem Yv (ts:List Tok) (r1:RS) (i1:PInv ts r1.s):FSem C 206 [.ptr (.o 0) 0 0] [Bj ts r1] fun q st=>∃ v r',(RelV ts (Jh ts r1.s) r1 v r'∧Pp v)∧q=.ret (.str v)∧st=[Bj ts r']:=by
 have hx:=cy0 (ts:=ts) (r:=r1) (x:=Jh ts r1.s)
 replace hx:=hx.to fun _=>(by rw [Jh])
 have fin:∀ {v:List UInt8} {r':RS} {σ:St},RelV ts (Jh ts r1.s) r1 v r'→Pp v→σ.o=[Bj ts r']→EndsIn σ (.str v) fun p st=>∃ v r',(RelV ts (Jh ts r1.s) r1 v r'∧Pp v)∧PRes.ret p=.ret (.str v)∧st=[Bj ts r']:=fun {v r' σ} h1 h2 h3=>by
  refine EndsIn.plain (fun _=>rfl) (fun k hk=>?_) ⟨v,r',⟨h1,h2⟩,rfl,h3⟩
  rw [h3] at hk
  simp only [List.mem_singleton] at hk
  subst hk
  exact Bb ts r'
 refine FSem.en 27 Tryz.func206 ?_
 simp only [Aj]
 refine WC.go ?_
 refine Am fun K1 hK1=>?_
 refine WC.rs fun K hK=>?_
 simp only [↓EJ,FY,simprocAttr]
 refine CallX.tk hx i1 rfl rfl fun b2 r2 i2 q2 hx t2=>?_
 simp only [↓EJ,FY,simprocAttr]
 refine hK _ ?_;clear hK K
 cases b2 with
 | false =>
   refine WC.cond rfl (fun h=>?_) fun h=>?_
   rotate_left
   ·cases h
   dsimp only at hx
   refine WC.go ?_
   refine WC.ret ?_
   simp only [↓EJ,FY,simprocAttr,EQ,EF,Tryz.results206]
   exact fin (hx [49] r2 (RelV.ok i2)) ⟨by simp,by simp,by decide⟩ rfl
 | true =>
 refine WC.cond rfl (fun h=>?_) fun h=>?_
 ·cases h
 dsimp only at hx
 obtain ⟨_,e2,_⟩:=t2 rfl
 refine WC.skip (hK1 _ ?_)
 have hlt:=i2.lt
 have hle:=i2.le
 have hg:=If i2.lt
 have hcur:ts.getD r2.s.at_ (5,[],1,1)=cur ts r2.s:=rfl
 rw [hcur] at hg
 refine Am fun K1 hK1=>?_
 refine WC.dg [⟨0,0,false,[]⟩,⟨1,1,false,[]⟩,⟨2,0,false,[]⟩,⟨3,0,false,[]⟩,⟨4,0,false,[]⟩,⟨5,0,false,[]⟩,⟨6,0,false,[]⟩,⟨7,0,false,[]⟩,⟨8,0,false,[]⟩,⟨9,0,false,[]⟩,⟨10,0,false,[]⟩,⟨11,0,false,[]⟩,⟨12,0,false,[]⟩,⟨13,0,false,[]⟩,⟨14,1,false,[]⟩,⟨15,0,false,[]⟩,⟨16,0,false,[]⟩] [0,1,3,7,15,31,63,7,135,391,903,2047,4095,8191,16383,32767,65535] fun K hK=>?_
 simp only [↓EJ,FY,simprocAttr,EDg]
 refine CallX.kd i2 2 rfl rfl fun b hb=>?_
 cases b with
 | false =>
   simp only [↓EJ,FY,simprocAttr,EDg,Bool.not_true,Bool.not_false]
   refine hK _ (Aa [0,2,22] ?_);clear hK K
   refine WC.cond rfl (fun h=>?_) fun h=>?_
   ·cases h
   refine WC.skip (hK1 _ ?_)
   have hk:=hb.2 rfl e2
   replace hx:=hx.to fun _=>(show _=bnd (Is ts r2.s) (fun w s=>.ok (w,s)) by rw [if_pos hk,Is,if_pos hk,F8])
   refine WC.rs fun K hK=>?_
   simp only [↓EJ,FY,simprocAttr]
   refine CallX.dg hx (I0 ts r2 i2) rfl rfl fun v r3 i3 h3 hd hx=>?_
   simp only [↓EJ,FY,simprocAttr]
   refine hK _ ?_;clear hK K
   refine WC.ret ?_
   simp only [↓EJ,FY,simprocAttr,EQ,EF,Tryz.results206]
   exact fin (hx v r3 (RelV.ok i3)) hd rfl
 | true =>
   obtain ⟨_,hk⟩:=hb.1 rfl
   obtain ⟨n0,n60,nd⟩:=i2.num _ (I7 i2) hk
   have hsm:=S2 _ n60 nd
   simp only [↓EJ,FY,simprocAttr,EDg,Bj,tks,List.length_map,Int.toNat_natCast,hg,Bn,Bool.not_true,Bool.not_false]
   repeat refine And.intro (by omega) ?_
   refine Bg hsm ?_
   simp only [↓EJ,FY,simprocAttr]
   refine hK _ ?_;clear hK K
   refine WC.cond rfl (fun h=>?_) fun h=>?_
   ·have h0:dec (cur ts r2.s).2.1=0:=by simp at h;omega
    replace hx:=hx.to fun _=>(by rw [if_neg (by omega),if_pos h0])
    refine WC.r1 ?_
    simp only [↓EJ,FY,simprocAttr]
    refine CallX.fl i2 3 (by decide) rfl rfl fun r3 i3 q3 n3 h3=>?_
    simp only [↓EJ,FY,simprocAttr]
    refine hK1 _ ?_
    refine WC.rs fun K hK=>?_
    simp only [↓EJ,FY,simprocAttr]
    refine CallX.dg (cy0 (x:=bnd (Is ts r3.s) fun w s=>.ok (w,s))) (I0 ts r3 i3) rfl rfl fun v r4 i4 h4 hd _=>?_
    obtain rfl:=h4.dead n3
    simp only [↓EJ,FY,simprocAttr]
    refine hK _ ?_;clear hK K
    refine WC.ret ?_
    simp only [↓EJ,FY,simprocAttr,EQ,EF,Tryz.results206]
    exact fin (hx v r4 (h3 _ v)) hd rfl
   ·have h0:dec (cur ts r2.s).2.1≠0:=by simp at h;omega
    replace hx:=hx.to fun _=>(show _=bnd (Is ts r2.s) (fun w s=>.ok (w,s)) by rw [if_neg (by omega),if_neg h0,Is,if_neg (by omega),Ay])
    refine WC.skip (hK1 _ ?_)
    refine WC.rs fun K hK=>?_
    simp only [↓EJ,FY,simprocAttr]
    refine CallX.dg hx (I0 ts r2 i2) rfl rfl fun v r3 i3 h3 hd hx=>?_
    simp only [↓EJ,FY,simprocAttr]
    refine hK _ ?_;clear hK K
    refine WC.ret ?_
    simp only [↓EJ,FY,simprocAttr,EQ,EF,Tryz.results206]
    exact fin (hx v r3 (RelV.ok i3)) hd rfl
theorem frac_bnd (ts:List Tok) (s:PS):Dm ts s=bnd (Ak ts [45] s) fun b s=>bnd (Is ts s) fun w s=>bnd (Jh ts s) fun v s=>.ok (Hq b (dec w) (dec v),s):=by
 unfold Dm
 rcases Ak ts [45] s with e | ⟨b,s⟩
 ·rfl
 simp only [Ay]
 unfold E9 Is
 by_cases hk:(cur ts s).1=2
 ·rw [if_neg (by omega),if_neg (by omega)]
  simp only [Ay]
  unfold Jh
  rw [show (⟨s.at_ + 1,s.opn⟩:PS)=goS s from rfl]
  rcases Ak ts [47] (goS s) with e | ⟨b2,s2⟩
  ·rfl
  cases b2 with
  | false=>rfl
  | true =>
    simp only [Ay]
    unfold Gs E9
    by_cases hk2:(cur ts s2).1=2
    ·rw [if_neg (by omega),if_neg (by omega)]
     simp only
     by_cases h0:dec (cur ts s2).2.1=0
     ·rw [if_pos h0,if_pos h0];rfl
     ·rw [if_neg h0,if_neg h0];rfl
    ·rw [if_pos hk2,if_pos hk2];rfl
 ·rw [if_pos hk,if_pos hk];rfl
theorem below_ne {ts:List Tok} {s s':PS} {v:List UInt8} (h:Jh ts s=.ok (v,s')):dec v≠0:=by
 unfold Jh at h
 obtain ⟨b,s1,h1,h⟩:=Ac h
 cases b with
 | false=>cases h;decide
 | true =>
   dsimp only at h
   split at h
   ·cases h
   ·split at h
    ·cases h
    ·cases h;assumption
theorem Sj (ts:List Tok) (r1:RS) (i1:PInv ts r1.s):RSem 194 [] ts r1 (Dm ts r1.s) Pk:=by
 have sc:(∀ n,(A8 n).solid=true)∧(∀ n,(A8 n).cells=[A8 n]):=⟨fun n=>by unfold A8;split <;> rfl,fun n=>by unfold A8;split <;> rfl⟩
 have hx:=cy0 (ts:=ts) (r:=r1) (x:=Dm ts r1.s)
 replace hx:=hx.to fun _=>frac_bnd ts r1.s
 unfold RSem
 refine FSem.en 23 Tryz.func194 ?_
 simp only [Aj]
 refine WC.go ?_
 refine WC.go ?_
 refine Bt (X:=Bool × RS) (fun y=>PInv ts y.2.s∧Cy ts (bnd (Is ts y.2.s) fun w s=>bnd (Jh ts s) fun v s=>.ok (Hq y.1 (dec w) (dec v),s)) y.2 (RelV ts (Dm ts r1.s) r1)) (fun y=>⟨[(3,.str (if y.1 then [45] else [])),(2,.ptr (.l 0) 0 0),(0,.ptr (.o 0) 0 0)],[Bj ts y.2],[.row [.agg [.bool false,.nils,.nils]] 3 50],[]⟩) ?_ ?_
 ·refine WC.rs fun K hK=>?_
  simp only [↓EJ,FY,simprocAttr]
  refine CallX.tk hx i1 rfl rfl fun b2 r2 i2 q2 hx t2=>?_
  simp only [↓EJ,FY,simprocAttr]
  refine hK _ ?_;clear hK K
  refine WC.cond rfl (fun h=>?_) fun h=>?_
  ·cases h
   refine WC.r1 ?_
   simp only [↓EJ,FY,simprocAttr]
   try simp only [EQ,simprocAttr]
   refine ⟨(true,r2),[0],⟨i2,hx⟩,?_⟩
   exact Conv.all (by simp only [EC,simprocAttr,Ap,if_true])
  ·cases h
   refine WC.skip ?_
   try simp only [EQ,simprocAttr]
   refine ⟨(false,r2),[0],⟨i2,hx⟩,?_⟩
   exact Conv.all (by simp only [EC,simprocAttr,Ap,if_false,Bool.false_eq_true])
 rintro ⟨b,r2⟩ ⟨i2,hx⟩
 dsimp only at i2 hx ⊢
 refine WC.rs fun K hK=>?_
 simp only [↓EJ,FY,simprocAttr]
 refine CallX.dg hx (I0 ts r2 i2) rfl rfl fun w r3 i3 h3 hw hx=>?_
 have hw2:=hw.2.1
 have hb1:(if b=true then [(45:UInt8)] else []).length≤1:=by split <;> simp
 simp only [↓EJ,FY,simprocAttr]
 refine ⟨by omega,?_⟩
 refine hK _ (Aa [0,2,3,4] ?_);clear hK K
 refine WC.rs fun K hK=>?_
 simp only [↓EJ,FY,simprocAttr]
 refine CallX.dg hx (Yv ts r3 i3) rfl rfl fun v r4 i4 h4 hv hx=>?_
 have hp:=Wo b w v hw.1 hw.2.1 hw.2.2 hv.1 hv.2.1 hv.2.2
 have ha:((if b=true then [45] else []) ++ w) ++ (47::v)=(if b=true then [45] else []) ++ (w ++ 47::v):=by rw [List.append_assoc]
 replace hx:=hx.to fun e=>(show (Except.ok (Hq b (dec w) (dec v),r4.s):PR Rt)=.ok (Np b (dec w) (dec v),r4.s) by rw [Np,if_neg (below_ne (h4.okv e))])
 have hv2:=hv.2.1
 simp only [↓EJ,FY,simprocAttr,ha,List.length_append,List.length_cons,List.length_nil,List.cons_append,List.nil_append]
 refine ⟨by omega,by omega,?_⟩
 refine hK _ ?_;clear hK K
 refine WC.rs fun K hK=>?_
 simp only [↓EJ,FY,simprocAttr]
 refine Cm hp ?_
 simp only [↓EJ,FY,simprocAttr,sc]
 refine hK _ (Aa [0,2,3,4] ?_);clear hK K
 refine WC.rs fun K hK=>?_
 simp only [↓EJ,FY,simprocAttr,sc]
 refine hK _ ?_;clear hK K
 refine WC.ret ?_
 simp only [↓EJ,FY,simprocAttr,EQ,EF,Tryz.results194,sc]
 exact RSem.done (hx (Np b (dec w) (dec v)) r4 (RelV.ok i4)) rfl (Lk _) rfl
theorem fracR_all (ts:List Tok):Aap ts:=fun r i=>Sj ts r i
end Go.LexSem
