/-
 Texts joined: PaAC PaAD PaAE.
-/
import Derived.Test.YtenieameoojbjaaGreatDoorUMM
set_option linter.unusedVariables false
set_option linter.unusedSimpArgs false
set_option linter.loopingSimpArgs false
-- CLOSERS: PCL,TCL,DCL,FCL,RCL,MCL,BCL,GCL
set_option maxHeartbeats 16000000
set_option maxRecDepth 8000
namespace Go.LexSem
open Go Go.V Go.Proofs Go.Num

/-! ### Equal values are found to be the same -/
def Tru (f:FuncId) (p:PVal):Prop:=FSem C f [p,p] [] fun r st=>r=.ret (.bool true)∧st=[]
theorem Tru.nils {f:FuncId} (h:Tru f (.slc [])):Tru f .nils:=FSem.weak h ⟨.inr ⟨rfl,rfl⟩,.inr ⟨rfl,rfl⟩,trivial⟩

theorem same01 (l:List Nat) (hl:l.length≤10000):Tru 106 (.slc (l.map lb)):=by
 unfold Tru
 refine FSem.en 26 Tryz.func106 ?_
 simp only [Aj]
 refine WC.go ?_
 refine Am fun K1 hK1=>?_
 refine WC.go ?_
 refine WC.cond rfl (fun h=>?_) fun h=>?_
 ·simp at h
 refine WC.skip (hK1 _ ?_)
 refine Am fun K2 hK2=>?_
 refine WC.go ?_
 refine WC.b1 ?_
 refine WC.loop (X:=Nat) (fun i=>⟨[(5,.int .i64 i),(4,.bool false),(0,.slc (l.map lb)),(1,.slc (l.map lb))],[],[],[]⟩) (fun i=>i≤l.length) (fun i=>l.length - i) 0 [] (Nat.zero_le _) ?_ ?_
 ·exact Conv.all (by simp only [EC,simprocAttr,Ab l _])
 intro i hi
 refine Am fun K3 hK3=>?_
 refine WC.go (Aa [0,1,4,5,14,25] ?_)
 refine WC.cond rfl (fun h=>?_) fun h=>?_
 ·have hlt:i < l.length:=by simpa using h
  have hg:gi (l.map lb) i=lb l[i]:=by simp [gi,hlt]
  refine WC.skip (hK3 _ ?_)
  refine WC.bs fun K4 hK4=>?_
  refine WC.dg [⟨0,0,false,[]⟩,⟨1,0,false,[]⟩,⟨2,0,false,[]⟩,⟨3,0,false,[]⟩,⟨4,0,false,[]⟩,⟨5,0,false,[]⟩,⟨6,0,false,[]⟩,⟨7,0,false,[]⟩,⟨8,0,false,[]⟩] [0,0,3,7,0,0,48,112,255] fun K hK=>?_
  simp only [↓EJ,FY,simprocAttr,hg,List.length_map,Int.toNat_natCast,Jr,lb]
  refine ⟨by omega,by omega,by omega,by omega,?_⟩
  refine hK _ (Aa [0,1,4,5,14,25] ?_);clear hK K
  refine WC.cond rfl (fun h=>?_) fun h=>?_
  ·simp at h
  refine WC.skip (hK4 _ ?_)
  refine WC.r1 ?_
  simp (disch:=omega) only [↓EJ,FY,simprocAttr,w64,Bh]
  try simp only [EQ,simprocAttr]
  refine ⟨i + 1,[],hlt,by omega,?_⟩
  exact Conv.all (by simp only [EC,simprocAttr,Int.natCast_add,Ab l _])
 ·have he:i=l.length:=by simp at h;omega
  refine WC.exit (hK2 _ ?_)
  refine WC.go ?_
  refine WC.ret ?_
  simp only [↓EJ,FY,simprocAttr,EQ,EF,Tryz.results106]
  exact An (of_eq_true (by simp only [CL])) rfl
/-- Fractions that are small enough. -/
def Nn (r:Rt):Bool:=decide (r.2.1 < 2 ^ 250) && decide (r.2.2 < 2 ^ 250)
theorem okN_lt {n:Nat} (h:n < 2 ^ 250):okN n:=Nat.le_trans (Gl (k:=8) (Nat.lt_of_lt_of_le h (by decide))) (by decide)
theorem sameN {n:Nat} (h:n < 2 ^ 250):Tru 106 (A8 n):=by
 unfold A8
 split
 ·exact Tru.nils (same01 [] (by decide))
 ·exact same01 (toL n) (okN_lt h)
theorem Cf:(∀ n,(A8 n).solid=true)∧(∀ n,(A8 n).cells=[A8 n]):=by
 constructor <;> intro n <;> unfold A8 <;> split <;> rfl
def rtV (r:Rt):PVal:=.agg [.bool r.1,A8 r.2.1,A8 r.2.2]
theorem rtV_closed (r:Rt):Closed (rtV r):=of_eq_true (by simp only [rtV,CL,PCL,and_self])
theorem Yg (r:Rt) (h:Nn r=true):Tru 73 (rtV r):=by
 simp only [Nn,Bool.and_eq_true,decide_eq_true_eq] at h
 obtain ⟨a,n,d⟩:=r
 unfold Tru rtV
 refine FSem.en 24 Tryz.func73 ?_
 simp only [Aj]
 refine WC.rs fun K hK=>?_
 simp only [↓EJ,FY,simprocAttr,Cf]
 refine hK _ ?_;clear hK K
 refine WC.rs fun K hK=>?_
 simp only [↓EJ,FY,simprocAttr,Cf]
 refine CallX.mk (CallW.pure (sameN h.1) (by simp only [CL,PCL,TCL,DCL,FCL,RCL,MCL,BCL,GCL,and_self]) (by simp only [CL]) ?_)
 simp only [↓EJ,FY,simprocAttr,Cf]
 refine CallX.mk (CallW.pure (sameN h.2) (by simp only [CL,PCL,TCL,DCL,FCL,RCL,MCL,BCL,GCL,and_self]) (by simp only [CL]) ?_)
 simp only [↓EJ,FY,simprocAttr,Cf]
 refine hK _ (Aa [4] ?_);clear hK K
 refine WC.ret ?_
 simp only [↓EJ,FY,simprocAttr,EQ,EF,Tryz.results73]
 exact An (of_eq_true (by simp only [CL])) rfl
/-! ### Expressions -/
mutual
def Gw:Ex→Bool
 | .mk _ _ r _ al=>Nn r && (decide (al.length≤10000) && D6 al)
def D6:List Ex→Bool
 | []=>true
 | e::es=>Gw e && D6 es
end
theorem exsOk_mem:∀ {l:List Ex},D6 l=true→∀ e∈l,Gw e=true
 | [],_,e,he=>by cases he
 | x::l,h,e,he=>by
   simp only [D6,Bool.and_eq_true] at h
   rcases List.mem_cons.1 he with rfl | he
   ·exact h.1
   ·exact exsOk_mem h.2 e he
theorem Z2 (l:List Ex) (hl:l.length≤10000) (H:∀ e∈l,Tru 41 (exV e)):Tru 74 (.slc (l.map exV)):=by
 unfold Tru
 refine FSem.en 27 Tryz.func74 ?_
 simp only [Aj]
 refine WC.go ?_
 refine Am fun K1 hK1=>?_
 refine WC.go ?_
 refine WC.cond rfl (fun h=>?_) fun h=>?_
 ·simp at h
 refine WC.skip (hK1 _ ?_)
 refine Am fun K2 hK2=>?_
 refine WC.go ?_
 refine WC.b1 ?_
 refine WC.loop (X:=Nat) (fun i=>⟨[(5,.int .i64 i),(4,.bool false),(0,.slc (l.map exV)),(1,.slc (l.map exV))],[],[],[]⟩) (fun i=>i≤l.length) (fun i=>l.length - i) 0 [] (Nat.zero_le _) ?_ ?_
 ·exact Conv.all (by simp only [EC,simprocAttr,Ry])
 intro i hi
 refine Am fun K3 hK3=>?_
 refine WC.go (Aa [0,1,4,5,14,26] ?_)
 refine WC.cond rfl (fun h=>?_) fun h=>?_
 ·have hlt:i < l.length:=by simpa using h
  have hg:gi (l.map exV) i=exV l[i]:=by simp [gi,hlt]
  refine WC.skip (hK3 _ ?_)
  refine WC.bs fun K4 hK4=>?_
  refine WC.dg [⟨0,0,false,[]⟩,⟨1,0,false,[]⟩,⟨2,0,false,[]⟩,⟨3,0,false,[]⟩,⟨4,0,false,[]⟩,⟨5,0,false,[]⟩,⟨6,0,false,[]⟩,⟨7,0,false,[]⟩,⟨8,1,false,[]⟩,⟨9,0,false,[]⟩] [0,0,3,7,0,0,48,112,255,511] fun K hK=>?_
  simp only [↓EJ,FY,simprocAttr,hg,List.length_map,Int.toNat_natCast,XS]
  repeat refine And.intro (by omega) ?_
  refine CallX.mk (CallW.pure (H l[i] (List.getElem_mem hlt)) (by simp only [CL,PCL,TCL,DCL,FCL,RCL,MCL,BCL,GCL,and_self]) (by simp only [CL]) ?_)
  simp only [↓EJ,FY,simprocAttr,XS]
  repeat refine And.intro (by omega) ?_
  refine hK _ (Aa [0,1,4,5,14,26] ?_);clear hK K
  refine WC.cond rfl (fun h=>?_) fun h=>?_
  ·simp at h
  refine WC.skip (hK4 _ ?_)
  refine WC.r1 ?_
  simp (disch:=omega) only [↓EJ,FY,simprocAttr,w64,Bh]
  try simp only [EQ,simprocAttr]
  refine ⟨i + 1,[],hlt,by omega,?_⟩
  exact Conv.all (by simp only [EC,simprocAttr,Int.natCast_add,Ry])
 ·have he:i=l.length:=by simp at h;omega
  refine WC.exit (hK2 _ ?_)
  refine WC.go ?_
  refine WC.ret ?_
  simp only [↓EJ,FY,simprocAttr,EQ,EF,Tryz.results74]
  exact An (of_eq_true (by simp only [CL])) rfl
theorem Wj (l:List Ex) (hl:l.length≤10000) (H:∀ e∈l,Tru 41 (exV e)):Tru 74 (Dv l):=by
 cases l with
 | nil=>rw [C5];exact Tru.nils (Z2 [] hl H)
 | cons e es=>rw [E1 (by simp)];exact Z2 _ hl H
theorem Wk (op:Nat) (i:Int) (r:Rt) (nm:List UInt8) (al:List Ex) (hr:Nn r=true) (H:Tru 74 (Dv al)):Tru 41 (exV (.mk op i r nm al)):=by
 have h2:=Yg r hr
 unfold Tru rtV at h2
 rw [D5]
 unfold Tru
 refine FSem.en 38 Tryz.func41 ?_
 simp only [Aj]
 refine WC.rs fun K hK=>?_
 simp only [↓EJ,FY,simprocAttr,Cf,Bc]
 refine hK _ ?_;clear hK K
 refine WC.rs fun K hK=>?_
 simp only [↓EJ,FY,simprocAttr,Cf,Bc]
 refine CallX.mk (CallW.pure (h2) (by simp only [CL,PCL,TCL,DCL,FCL,RCL,MCL,BCL,GCL,and_self]) (by simp only [CL]) ?_)
 simp only [↓EJ,FY,simprocAttr,Cf,Bc]
 refine CallX.mk (CallW.pure (H) (by simp only [CL,PCL,TCL,DCL,FCL,RCL,MCL,BCL,GCL,and_self]) (by simp only [CL]) ?_)
 simp only [↓EJ,FY,simprocAttr,Cf,Bc]
 refine hK _ (Aa [4] ?_);clear hK K
 refine WC.ret ?_
 simp only [↓EJ,FY,simprocAttr,EQ,EF,Tryz.results41]
 exact An (of_eq_true (by simp only [CL])) rfl
mutual
theorem sameEx:∀ e:Ex,Gw e=true→Tru 41 (exV e)
 | .mk op i r nm al,h=>by
   simp only [Gw,Bool.and_eq_true,decide_eq_true_eq] at h
   exact Wk op i r nm al h.1 (Wj al h.2.1 (Uj al h.2.2))
theorem Uj:∀ l:List Ex,D6 l=true→∀ e∈l,Tru 41 (exV e)
 | [],_,e,he=>by cases he
 | x::l,h,e,he=>by
   simp only [D6,Bool.and_eq_true] at h
   rcases List.mem_cons.1 he with h' | he
   ·rw [h'];exact sameEx x h.1
   ·exact Uj l h.2 e he
end
def Eu (l:List Ex):Bool:=decide (l.length≤10000) && D6 l
theorem Z3 (l:List Ex) (h:Eu l=true):Tru 74 (Dv l):=by
 simp only [Eu,Bool.and_eq_true,decide_eq_true_eq] at h
 exact Wj l h.1 (Uj l h.2)
end Go.LexSem
-- CLOSERS: PCL,TCL,DCL,FCL,RCL,MCL,BCL,GCL
set_option maxHeartbeats 32000000
set_option maxRecDepth 8000
-- STEPS
namespace Go.LexSem
open Go Go.V Go.Proofs Go.Num

theorem Wl (d:Dr) (h1:Nn d.from_=true) (h2:Nn d.to_=true) (H:Tru 74 (Dv d.probs)):Tru 108 (drV d):=by
 have g1:=Yg d.from_ h1
 have g2:=Yg d.to_ h2
 unfold Tru rtV at g1 g2
 unfold Tru drV drC
 refine FSem.en 52 Tryz.func108 ?_
 simp only [Aj]
 refine WC.rs fun K hK=>?_
 simp (maxSteps:=4000000) only [↓EJ,FY,simprocAttr,Cf,Bc]
 refine hK _ ?_;clear hK K
 refine WC.rs fun K hK=>?_
 simp (maxSteps:=4000000) only [↓EJ,FY,simprocAttr,Cf,Bc]
 refine CallX.mk (CallW.pure (g1) (by simp only [CL,PCL,TCL,DCL,FCL,RCL,MCL,BCL,GCL,and_self]) (by simp only [CL]) ?_)
 simp (maxSteps:=4000000) only [↓EJ,FY,simprocAttr,Cf,Bc]
 refine CallX.mk (CallW.pure (g2) (by simp only [CL,PCL,TCL,DCL,FCL,RCL,MCL,BCL,GCL,and_self]) (by simp only [CL]) ?_)
 simp (maxSteps:=4000000) only [↓EJ,FY,simprocAttr,Cf,Bc]
 refine CallX.mk (CallW.pure (H) (by simp only [CL,PCL,TCL,DCL,FCL,RCL,MCL,BCL,GCL,and_self]) (by simp only [CL]) ?_)
 simp (maxSteps:=4000000) only [↓EJ,FY,simprocAttr,Cf,Bc]
 refine hK _ (Aa [4] ?_);clear hK K
 refine WC.ret ?_
 simp (maxSteps:=4000000) only [↓EJ,FY,simprocAttr,EQ,EF,Tryz.results108]
 exact An (of_eq_true (by simp only [CL])) rfl
def U7 (d:Dr):Bool:=Nn d.from_ && (Nn d.to_ && Eu d.probs)
theorem sameDr (d:Dr) (h:U7 d=true):Tru 108 (drV d):=by
 simp only [U7,Bool.and_eq_true] at h
 exact Wl d h.1 h.2.1 (Z3 d.probs h.2.2)
/-! ### Types -/
mutual
def L9:Ty→Bool
 | .mk _ _ _ _ es=>decide (es.length≤10000) && Jm es
def Jm:List Ty→Bool
 | []=>true
 | e::es=>L9 e && Jm es
end
theorem Ye (k:Nat) (lo hi:Int) (m:Nat):Tru 107 (.agg [.int .i64 k,.int .i64 lo,.int .i64 hi,.int .i64 m,.nils]):=by
 unfold Tru
 refine FSem.en 60 Tryz.func107 ?_
 simp only [Aj]
 refine WC.rs fun K hK=>?_
 simp (maxSteps:=4000000) only [↓EJ,FY,simprocAttr]
 refine hK _ ?_;clear hK K
 refine Am fun K1 hK1=>?_
 refine WC.rs fun K hK=>?_
 simp (maxSteps:=4000000) only [↓EJ,FY,simprocAttr,List.length_map,Bool.not_true,Bool.not_false]
 refine hK _ (Aa [2,3,4,5,40,45,59] ?_);clear hK K
 refine WC.cond rfl (fun h=>?_) fun h=>?_
 ·simp at h
 refine WC.skip (hK1 _ ?_)
 refine Am fun K2 hK2=>?_
 refine WC.rs fun K hK=>?_
 simp (maxSteps:=4000000) only [↓EJ,FY,simprocAttr]
 refine hK _ ?_;clear hK K
 refine WC.b1 ?_
 refine WC.loop (X:=Nat) (fun i=>⟨[(5,.int .i64 i),(4,.bool false),(3,.ptr (.l 1) 0 0),(2,.ptr (.l 0) 0 0)],[],[.row [.agg [.int .i64 k,.int .i64 lo,.int .i64 hi,.int .i64 m,.nils]] 5 73,.row [.agg [.int .i64 k,.int .i64 lo,.int .i64 hi,.int .i64 m,.nils]] 5 73],[]⟩) (fun i=>i≤0) (fun i=>0 - i) 0 [0,1] (Nat.zero_le _) ?_ ?_
 ·exact Conv.all (by simp only [EC,simprocAttr,TRN])
 intro i hi
 refine Am fun K3 hK3=>?_
 refine WC.rs fun K hK=>?_
 simp (maxSteps:=4000000) only [↓EJ,FY,simprocAttr,List.length_map]
 refine hK _ ?_;clear hK K
 refine WC.cond rfl (fun h=>?_) fun h=>?_
 ·simp at h;omega
 ·skip
  refine WC.exit (hK2 _ ?_)
  refine WC.rs fun K hK=>?_
  simp (maxSteps:=4000000) only [↓EJ,FY,simprocAttr]
  refine hK _ ?_;clear hK K
  refine WC.ret ?_
  simp (maxSteps:=4000000) only [↓EJ,FY,simprocAttr,EQ,EF,Tryz.results107]
  exact Dt (by simp only [CL]) rfl
theorem Wg (k:Nat) (lo hi:Int) (m:Nat) (es:List Ty) (hl:es.length≤10000) (H:∀ e∈es,Tru 107 (tyV e)):Tru 107 (.agg [.int .i64 k,.int .i64 lo,.int .i64 hi,.int .i64 m,.slc (es.map tyV)]):=by
 unfold Tru
 refine FSem.en 60 Tryz.func107 ?_
 simp only [Aj]
 refine WC.rs fun K hK=>?_
 simp (maxSteps:=4000000) only [↓EJ,FY,simprocAttr]
 refine hK _ ?_;clear hK K
 refine Am fun K1 hK1=>?_
 refine WC.rs fun K hK=>?_
 simp (maxSteps:=4000000) only [↓EJ,FY,simprocAttr,List.length_map,Bool.not_true,Bool.not_false]
 refine hK _ (Aa [2,3,4,5,40,45,59] ?_);clear hK K
 refine WC.cond rfl (fun h=>?_) fun h=>?_
 ·simp at h
 refine WC.skip (hK1 _ ?_)
 refine Am fun K2 hK2=>?_
 refine WC.rs fun K hK=>?_
 simp (maxSteps:=4000000) only [↓EJ,FY,simprocAttr]
 refine hK _ ?_;clear hK K
 refine WC.b1 ?_
 refine WC.loop (X:=Nat) (fun i=>⟨[(5,.int .i64 i),(4,.bool false),(3,.ptr (.l 1) 0 0),(2,.ptr (.l 0) 0 0)],[],[.row [.agg [.int .i64 k,.int .i64 lo,.int .i64 hi,.int .i64 m,.slc (es.map tyV)]] 5 73,.row [.agg [.int .i64 k,.int .i64 lo,.int .i64 hi,.int .i64 m,.slc (es.map tyV)]] 5 73],[]⟩) (fun i=>i≤es.length) (fun i=>es.length - i) 0 [0,1] (Nat.zero_le _) ?_ ?_
 ·exact Conv.all (by simp only [EC,simprocAttr,TRN])
 intro i hi
 refine Am fun K3 hK3=>?_
 refine WC.rs fun K hK=>?_
 simp (maxSteps:=4000000) only [↓EJ,FY,simprocAttr,List.length_map]
 refine hK _ ?_;clear hK K
 refine WC.cond rfl (fun h=>?_) fun h=>?_
 ·have hlt:i < es.length:=by simpa using h
  have hg:gi (es.map tyV) i=tyV es[i]:=by simp [gi,hlt]
  refine WC.skip (hK3 _ ?_)
  refine WC.bs fun K4 hK4=>?_
  refine WC.dg [⟨0,0,false,[]⟩,⟨1,0,false,[]⟩,⟨2,0,false,[]⟩,⟨3,0,false,[]⟩,⟨4,0,false,[]⟩,⟨5,0,false,[]⟩,⟨6,0,false,[]⟩,⟨7,0,false,[]⟩,⟨8,0,false,[]⟩,⟨9,0,false,[]⟩,⟨10,1,false,[]⟩,⟨11,0,false,[]⟩] [0,1,0,7,15,0,32,0,224,480,1023,2047] fun K hK=>?_
  simp (maxSteps:=4000000) only [↓EJ,FY,simprocAttr,hg,List.length_map,Int.toNat_natCast,TS]
  repeat refine And.intro (by omega) ?_
  refine CallX.mk (CallW.pure (H es[i] (List.getElem_mem hlt)) (by simp only [CL,PCL,TCL,DCL,FCL,RCL,MCL,BCL,GCL,and_self]) (by simp only [CL]) ?_)
  simp (maxSteps:=4000000) only [↓EJ,FY,simprocAttr,hg,List.length_map,Int.toNat_natCast,TS]
  repeat refine And.intro (by omega) ?_
  refine hK _ (Aa [2,3,4,5,45,59] ?_);clear hK K
  refine WC.cond rfl (fun h=>?_) fun h=>?_
  ·simp at h
  refine WC.skip (hK4 _ ?_)
  refine WC.r1 ?_
  simp (disch:=omega) only [↓EJ,FY,simprocAttr,w64,Bh]
  try simp only [EQ,simprocAttr]
  refine ⟨i + 1,[0,1],hlt,by omega,?_⟩
  exact Conv.all (by simp only [EC,simprocAttr,Int.natCast_add,TRN])
 ·skip
  refine WC.exit (hK2 _ ?_)
  refine WC.rs fun K hK=>?_
  simp (maxSteps:=4000000) only [↓EJ,FY,simprocAttr]
  refine hK _ ?_;clear hK K
  refine WC.ret ?_
  simp (maxSteps:=4000000) only [↓EJ,FY,simprocAttr,EQ,EF,Tryz.results107]
  exact Dt (by simp only [CL]) rfl
mutual
theorem sameTy:∀ e:Ty,L9 e=true→Tru 107 (tyV e)
 | .mk k lo hi m es,h=>by
   simp only [L9,Bool.and_eq_true,decide_eq_true_eq] at h
   rw [Jv]
   cases es with
   | nil=>rw [Jl];exact Ye k lo hi m
   | cons e es=>rw [P3 (by simp)];exact Wg k lo hi m (e::es) h.1 (Zz (e::es) h.2)
theorem Zz:∀ l:List Ty,Jm l=true→∀ e∈l,Tru 107 (tyV e)
 | [],_,e,he=>by cases he
 | x::l,h,e,he=>by
   simp only [Jm,Bool.and_eq_true] at h
   rcases List.mem_cons.1 he with h' | he
   ·rw [h'];exact sameTy x h.1
   ·exact Zz l h.2 e he
end
/-! ### Declarations -/
def N3 (l:List De):Bool:=decide (l.length≤10000) && l.all fun d=>L9 d.ty
theorem Z4 (l:List De) (hl:l.length≤10000) (H:∀ d∈l,Tru 107 (tyV d.ty)):Tru 76 (.slc (l.map deV)):=by
 unfold Tru
 refine FSem.en 42 Tryz.func76 ?_
 simp only [Aj]
 refine WC.rs fun K hK=>?_
 simp (maxSteps:=4000000) only [↓EJ,FY,simprocAttr]
 refine hK _ ?_;clear hK K
 refine Am fun K1 hK1=>?_
 refine WC.rs fun K hK=>?_
 simp (maxSteps:=4000000) only [↓EJ,FY,simprocAttr,List.length_map]
 refine hK _ ?_;clear hK K
 refine WC.cond rfl (fun h=>?_) fun h=>?_
 ·simp at h
 refine WC.skip (hK1 _ ?_)
 refine Am fun K2 hK2=>?_
 refine WC.rs fun K hK=>?_
 simp (maxSteps:=4000000) only [↓EJ,FY,simprocAttr]
 refine hK _ ?_;clear hK K
 refine WC.b1 ?_
 refine WC.loop (X:=Nat) (fun i=>⟨[(5,.int .i64 i),(4,.bool false),(0,.slc (l.map deV)),(1,.slc (l.map deV))],[],[],[]⟩) (fun i=>i≤l.length) (fun i=>l.length - i) 0 [] (Nat.zero_le _) ?_ ?_
 ·exact Conv.all (by simp only [EC,simprocAttr,DRN])
 intro i hi
 refine Am fun K3 hK3=>?_
 refine WC.rs fun K hK=>?_
 simp (maxSteps:=4000000) only [↓EJ,FY,simprocAttr,List.length_map]
 refine hK _ (Aa [0,1,4,5,14,41] ?_);clear hK K
 refine WC.cond rfl (fun h=>?_) fun h=>?_
 ·have hlt:i < l.length:=by simpa using h
  have hg:gi (l.map deV) i=deV l[i]:=by simp [gi,hlt]
  refine WC.skip (hK3 _ ?_)
  refine WC.bs fun K4 hK4=>?_
  refine WC.dg [⟨0,0,false,[]⟩,⟨1,0,false,[]⟩,⟨2,0,false,[]⟩,⟨3,0,false,[]⟩,⟨4,0,false,[]⟩,⟨5,0,false,[]⟩,⟨6,0,false,[]⟩,⟨7,0,false,[]⟩,⟨8,0,false,[]⟩,⟨9,0,false,[]⟩,⟨10,0,false,[]⟩,⟨11,0,false,[]⟩,⟨12,0,false,[]⟩,⟨13,0,false,[]⟩,⟨14,0,false,[]⟩,⟨15,0,false,[]⟩,⟨16,0,false,[]⟩,⟨17,0,false,[]⟩,⟨18,0,false,[]⟩,⟨19,0,false,[]⟩,⟨20,0,false,[]⟩,⟨21,0,false,[]⟩,⟨22,1,false,[]⟩,⟨23,0,false,[]⟩,⟨24,0,false,[]⟩] [0,0,3,7,15,0,0,96,224,480,1023,2047,4095,4095,16383,32767,65535,4095,4095,397311,921599,1970175,4194303,8388607,16777215] fun K hK=>?_
  simp (maxSteps:=4000000) only [↓EJ,FY,simprocAttr,EDg,hg,List.length_map,Int.toNat_natCast,DS,deC,TS,Bool.not_true,Bool.not_false]
  repeat refine And.intro (by omega) ?_
  refine CallX.mk (CallW.pure (H l[i] (List.getElem_mem hlt)) (by simp only [CL,PCL,TCL,DCL,FCL,RCL,MCL,BCL,GCL,and_self]) (by simp only [CL]) ?_)
  simp (maxSteps:=4000000) only [↓EJ,FY,simprocAttr,DS,deC,TS,hg]
  repeat refine And.intro (by omega) ?_
  refine hK _ (Aa [0,1,4,5,14,41] ?_);clear hK K
  refine WC.cond rfl (fun h=>?_) fun h=>?_
  ·simp at h
  refine WC.skip (hK4 _ ?_)
  refine WC.r1 ?_
  simp (disch:=omega) only [↓EJ,FY,simprocAttr,w64,Bh]
  try simp only [EQ,simprocAttr]
  refine ⟨i + 1,[],hlt,by omega,?_⟩
  exact Conv.all (by simp only [EC,simprocAttr,Int.natCast_add,DRN])
 ·have he:i=l.length:=by simp at h;omega
  refine WC.exit (hK2 _ ?_)
  refine WC.rs fun K hK=>?_
  simp (maxSteps:=4000000) only [↓EJ,FY,simprocAttr]
  refine hK _ ?_;clear hK K
  refine WC.ret ?_
  simp (maxSteps:=4000000) only [↓EJ,FY,simprocAttr,EQ,EF,Tryz.results76]
  exact An (of_eq_true (by simp only [CL])) rfl
theorem Qa (l:List De) (h:N3 l=true):Tru 76 (Dq l):=by
 simp only [N3,Bool.and_eq_true,decide_eq_true_eq,List.all_eq_true] at h
 have H:∀ d∈l,Tru 107 (tyV d.ty):=fun d hd=>sameTy d.ty (h.2 d hd)
 cases l with
 | nil=>rw [Di];exact Tru.nils (Z4 [] h.1 H)
 | cons e es=>rw [Ka (by simp)];exact Z4 _ h.1 H
end Go.LexSem
-- CLOSERS: PCL,TCL,DCL,FCL,RCL,MCL,BCL,GCL
set_option maxHeartbeats 32000000
set_option maxRecDepth 8000
-- STEPS
namespace Go.LexSem
open Go Go.V Go.Proofs Go.Num

/-! ### Statements -/
def Xo (x:Sm):Prop:=match x with
 | .mk _ _ _ _ e al d th el=>Tru 41 (exV e)∧Tru 74 (Dv al)∧Tru 108 (drV d)∧Tru 77 (C3 th)∧Tru 77 (C3 el)
theorem smV_mk (k:Nat) (nm fn:List UInt8) (i:Int) (op:Nat) (j:Int) (r:Rt) (en:List UInt8) (ea al:List Ex) (d:Dr) (th el:List Sm):smV (.mk k nm fn i (.mk op j r en ea) al d th el) =
  .agg [.int .i64 k,.str nm,.str fn,.int .i64 i,.int .i64 op,.int .i64 j,.bool r.1,A8 r.2.1,A8 r.2.2,.str en,Dv ea,Dv al,.int .i64 d.kind,.int .i64 d.low,.int .i64 d.high,.bool d.from_.1,A8 d.from_.2.1,A8 d.from_.2.2,.bool d.to_.1,A8 d.to_.2.1,A8 d.to_.2.2,Dv d.probs,.str d.name,C3 th,C3 el]:=by
 simp [smV,smC,exC,drC]
theorem Z0 (l:List Sm) (hl:l.length≤10000) (H:∀ x∈l,Xo x):Tru 77 (.slc (l.map smV)):=by
 unfold Tru
 refine FSem.en 93 Tryz.func77 ?_
 simp only [Aj]
 refine WC.rs fun K hK=>?_
 simp (maxSteps:=4000000) only [↓EJ,FY,simprocAttr]
 refine hK _ ?_;clear hK K
 refine Am fun K1 hK1=>?_
 refine WC.rs fun K hK=>?_
 simp (maxSteps:=4000000) only [↓EJ,FY,simprocAttr,List.length_map]
 refine hK _ ?_;clear hK K
 refine WC.cond rfl (fun h=>?_) fun h=>?_
 ·simp at h
 refine WC.skip (hK1 _ ?_)
 refine Am fun K2 hK2=>?_
 refine WC.rs fun K hK=>?_
 simp (maxSteps:=4000000) only [↓EJ,FY,simprocAttr]
 refine hK _ ?_;clear hK K
 refine WC.b1 ?_
 refine WC.loop (X:=Nat) (fun i=>⟨[(5,.int .i64 i),(4,.bool false),(0,.slc (l.map smV)),(1,.slc (l.map smV))],[],[],[]⟩) (fun i=>i≤l.length) (fun i=>l.length - i) 0 [] (Nat.zero_le _) ?_ ?_
 ·exact Conv.all (by simp only [EC,simprocAttr,MRN])
 intro i hi
 refine Am fun K3 hK3=>?_
 refine WC.rs fun K hK=>?_
 simp (maxSteps:=4000000) only [↓EJ,FY,simprocAttr,List.length_map]
 refine hK _ (Aa [0,1,4,5,6,7,16,92] ?_);clear hK K
 refine WC.cond rfl (fun h=>?_) fun h=>?_
 ·have hlt:i < l.length:=by simpa using h
  have hg:gi (l.map smV) i=smV l[i]:=by simp [gi,hlt]
  have hH:=H l[i] (List.getElem_mem hlt)
  generalize l[i]=x at hg hH
  obtain ⟨k,nm,fn,si,⟨op,j,r,en,ea⟩,al,d,th,el⟩:=x
  rw [smV_mk] at hg
  unfold Xo at hH
  dsimp only at hH
  obtain ⟨H1,H2,H3,H4,H5⟩:=hH
  rw [D5] at H1
  unfold drV drC at H3
  refine WC.skip (hK3 _ ?_)
  refine WC.bs fun K4 hK4=>?_
  refine WC.ts [(0,0),(1,0),(2,0),(3,0),(4,0),(5,0),(6,0),(7,0),(8,1),(9,1),(10,1),(11,1)] (.st ⟨0,0,true,[]⟩ (.st ⟨1,0,true,[]⟩ (.st ⟨2,0,true,[]⟩ (.st ⟨3,0,true,[]⟩ (.st ⟨4,0,true,[]⟩ (.st ⟨5,0,true,[]⟩ (.st ⟨6,0,true,[]⟩ (.st ⟨7,0,true,[]⟩ (.two ⟨8,1,false,[0,1,2,3,4,5,6,7]⟩ (.leaf [⟨9,1,false,[0,1,2,3,4,5,6,7]⟩,⟨10,1,false,[4,5,6,7]⟩,⟨11,1,false,[]⟩]) ⟨9,1,false,[0,1,2,3,4,5,6,7]⟩ (.leaf [⟨8,1,false,[0,1,2,3,4,5,6,7]⟩,⟨10,1,false,[4,5,6,7]⟩,⟨11,1,false,[]⟩])))))))))) [0,0,3,7,0,0,48,112,0,0,783,2047] mo (by kernel_rfl) (by simp only [EPt,EPl,List.getElem?_cons_zero,List.getElem?_cons_succ];rfl) fun K hK=>?_
  simp (maxSteps:=4000000) only [↓EJ,FY,simprocAttr,EDt,hg,List.length_map,Int.toNat_natCast,Cf,Bc,MS]
  repeat refine And.intro (by omega) ?_
  refine ⟨?_,?_⟩
  ·skip
   repeat refine And.intro (by omega) ?_
   refine hK _ (Aa [0,1,4,5,6,7,16,92] ?_);clear hK K
   refine WC.rsE (by simp only [List.append_eq,List.cons_append,List.nil_append];rfl) fun K hK=>?_
   simp (maxSteps:=4000000) only [↓EJ,FY,simprocAttr,Cf,Bc,MS,Bool.not_true,Bool.not_false]
   refine CallX.mk (CallW.pure (H1) (by simp only [CL,PCL,TCL,DCL,FCL,RCL,MCL,BCL,GCL,and_self]) (by simp only [CL]) ?_)
   simp (maxSteps:=4000000) only [↓EJ,FY,simprocAttr,Cf,Bc,MS,Bool.not_true,Bool.not_false]
   refine CallX.mk (CallW.pure (H2) (by simp only [CL,PCL,TCL,DCL,FCL,RCL,MCL,BCL,GCL,and_self]) (by simp only [CL]) ?_)
   simp (maxSteps:=4000000) only [↓EJ,FY,simprocAttr,Cf,Bc,MS,Bool.not_true,Bool.not_false]
   refine CallX.mk (CallW.pure (H3) (by simp only [CL,PCL,TCL,DCL,FCL,RCL,MCL,BCL,GCL,and_self]) (by simp only [CL]) ?_)
   simp (maxSteps:=4000000) only [↓EJ,FY,simprocAttr,Cf,Bc,MS,Bool.not_true,Bool.not_false]
   refine CallX.mk (CallW.pure (H4) (by simp only [CL,PCL,TCL,DCL,FCL,RCL,MCL,BCL,GCL,and_self]) (by simp only [CL]) ?_)
   simp (maxSteps:=4000000) only [↓EJ,FY,simprocAttr,Cf,Bc,MS,Bool.not_true,Bool.not_false]
   refine CallX.mk (CallW.pure (H5) (by simp only [CL,PCL,TCL,DCL,FCL,RCL,MCL,BCL,GCL,and_self]) (by simp only [CL]) ?_)
   simp (maxSteps:=4000000) only [↓EJ,FY,simprocAttr,Cf,Bc,MS,Bool.not_true,Bool.not_false]
   refine hK _ (Aa [0,1,4,5,6,7,16,92] ?_);clear hK K
   refine WC.cond rfl (fun h=>?_) fun h=>?_
   ·simp at h
   refine WC.skip (hK4 _ ?_)
   refine WC.r1 ?_
   simp (disch:=omega) only [↓EJ,FY,simprocAttr,w64,Bh]
   try simp only [EQ,simprocAttr]
   refine ⟨i + 1,[],hlt,by omega,?_⟩
   exact Conv.all (by simp only [EC,simprocAttr,Int.natCast_add,MRN])
  ·skip
   repeat refine And.intro (by omega) ?_
   refine hK _ (Aa [0,1,4,5,6,7,16,92] ?_);clear hK K
   refine WC.rsE (by simp only [List.append_eq,List.cons_append,List.nil_append];rfl) fun K hK=>?_
   simp (maxSteps:=4000000) only [↓EJ,FY,simprocAttr,Cf,Bc,MS,Bool.not_true,Bool.not_false]
   refine CallX.mk (CallW.pure (H1) (by simp only [CL,PCL,TCL,DCL,FCL,RCL,MCL,BCL,GCL,and_self]) (by simp only [CL]) ?_)
   simp (maxSteps:=4000000) only [↓EJ,FY,simprocAttr,Cf,Bc,MS,Bool.not_true,Bool.not_false]
   refine CallX.mk (CallW.pure (H2) (by simp only [CL,PCL,TCL,DCL,FCL,RCL,MCL,BCL,GCL,and_self]) (by simp only [CL]) ?_)
   simp (maxSteps:=4000000) only [↓EJ,FY,simprocAttr,Cf,Bc,MS,Bool.not_true,Bool.not_false]
   refine CallX.mk (CallW.pure (H3) (by simp only [CL,PCL,TCL,DCL,FCL,RCL,MCL,BCL,GCL,and_self]) (by simp only [CL]) ?_)
   simp (maxSteps:=4000000) only [↓EJ,FY,simprocAttr,Cf,Bc,MS,Bool.not_true,Bool.not_false]
   refine CallX.mk (CallW.pure (H4) (by simp only [CL,PCL,TCL,DCL,FCL,RCL,MCL,BCL,GCL,and_self]) (by simp only [CL]) ?_)
   simp (maxSteps:=4000000) only [↓EJ,FY,simprocAttr,Cf,Bc,MS,Bool.not_true,Bool.not_false]
   refine CallX.mk (CallW.pure (H5) (by simp only [CL,PCL,TCL,DCL,FCL,RCL,MCL,BCL,GCL,and_self]) (by simp only [CL]) ?_)
   simp (maxSteps:=4000000) only [↓EJ,FY,simprocAttr,Cf,Bc,MS,Bool.not_true,Bool.not_false]
   refine hK _ (Aa [0,1,4,5,6,7,16,92] ?_);clear hK K
   refine WC.cond rfl (fun h=>?_) fun h=>?_
   ·simp at h
   refine WC.skip (hK4 _ ?_)
   refine WC.r1 ?_
   simp (disch:=omega) only [↓EJ,FY,simprocAttr,w64,Bh]
   try simp only [EQ,simprocAttr]
   refine ⟨i + 1,[],hlt,by omega,?_⟩
   exact Conv.all (by simp only [EC,simprocAttr,Int.natCast_add,MRN])
 ·skip
  refine WC.exit (hK2 _ ?_)
  refine WC.rs fun K hK=>?_
  simp (maxSteps:=4000000) only [↓EJ,FY,simprocAttr]
  refine hK _ ?_;clear hK K
  refine WC.ret ?_
  simp (maxSteps:=4000000) only [↓EJ,FY,simprocAttr,EQ,EF,Tryz.results77]
  exact Dt (by simp only [CL]) rfl
mutual
def smOk:Sm→Bool
 | .mk _ _ _ _ e al d th el=>Gw e && (Eu al && (U7 d && ((decide (th.length≤10000) && Jo th) && (decide (el.length≤10000) && Jo el))))
def Jo:List Sm→Bool
 | []=>true
 | e::es=>smOk e && Jo es
end
theorem Ra (l:List Sm) (hl:l.length≤10000) (H:∀ x∈l,Xo x):Tru 77 (C3 l):=by
 cases l with
 | nil=>rw [smsV_nil];exact Tru.nils (Z0 [] hl H)
 | cons e es=>rw [P6 (by simp)];exact Z0 _ hl H
mutual
theorem sameSm:∀ e:Sm,smOk e=true→Xo e
 | .mk k nm fn i e al d th el,h=>by
   simp only [smOk,Bool.and_eq_true,decide_eq_true_eq] at h
   exact ⟨sameEx e h.1,Z3 al h.2.1,sameDr d h.2.2.1,Ra th h.2.2.2.1.1 (P8 th h.2.2.2.1.2),Ra el h.2.2.2.2.1 (P8 el h.2.2.2.2.2)⟩
theorem P8:∀ l:List Sm,Jo l=true→∀ e∈l,Xo e
 | [],_,e,he=>by cases he
 | x::l,h,e,he=>by
   simp only [Jo,Bool.and_eq_true] at h
   rcases List.mem_cons.1 he with h' | he
   ·rw [h'];exact sameSm x h.1
   ·exact P8 l h.2 e he
end
def Kg (l:List Sm):Bool:=decide (l.length≤10000) && Jo l
theorem Ui (l:List Sm) (h:Kg l=true):Tru 77 (C3 l):=by
 simp only [Kg,Bool.and_eq_true,decide_eq_true_eq] at h
 exact Ra l h.1 (P8 l h.2)
/-! ### Functions, programs -/
def Rx (f:Fn):Bool:=N3 f.args && (N3 f.vars && Kg f.body)
def Xh (l:List Fn):Bool:=decide (l.length≤10000) && l.all Rx
theorem Z1 (l:List Fn) (hl:l.length≤10000) (H:∀ f∈l,Tru 76 (Dq f.args)∧Tru 76 (Dq f.vars)∧Tru 77 (C3 f.body)):Tru 75 (.slc (l.map fnV)):=by
 unfold Tru
 refine FSem.en 63 Tryz.func75 ?_
 simp only [Aj]
 refine WC.rs fun K hK=>?_
 simp (maxSteps:=4000000) only [↓EJ,FY,simprocAttr]
 refine hK _ ?_;clear hK K
 refine Am fun K1 hK1=>?_
 refine WC.rs fun K hK=>?_
 simp (maxSteps:=4000000) only [↓EJ,FY,simprocAttr,List.length_map]
 refine hK _ ?_;clear hK K
 refine WC.cond rfl (fun h=>?_) fun h=>?_
 ·simp at h
 refine WC.skip (hK1 _ ?_)
 refine Am fun K2 hK2=>?_
 refine WC.rs fun K hK=>?_
 simp (maxSteps:=4000000) only [↓EJ,FY,simprocAttr]
 refine hK _ ?_;clear hK K
 refine WC.b1 ?_
 refine WC.loop (X:=Nat) (fun i=>⟨[(5,.int .i64 i),(4,.bool false),(0,.slc (l.map fnV)),(1,.slc (l.map fnV))],[],[],[]⟩) (fun i=>i≤l.length) (fun i=>l.length - i) 0 [] (Nat.zero_le _) ?_ ?_
 ·exact Conv.all (by simp only [EC,simprocAttr,PGR])
 intro i hi
 refine Am fun K3 hK3=>?_
 refine WC.rs fun K hK=>?_
 simp (maxSteps:=4000000) only [↓EJ,FY,simprocAttr,List.length_map]
 refine hK _ (Aa [0,1,4,5,6,7,16,62] ?_);clear hK K
 refine WC.cond rfl (fun h=>?_) fun h=>?_
 ·have hlt:i < l.length:=by simpa using h
  have hg:gi (l.map fnV) i=fnV l[i]:=by simp [gi,hlt]
  have hH:=H l[i] (List.getElem_mem hlt)
  generalize l[i]=x at hg hH
  obtain ⟨H1,H2,H3⟩:=hH
  refine WC.skip (hK3 _ ?_)
  refine WC.bs fun K4 hK4=>?_
  refine WC.ts [(0,0),(1,0),(2,0),(3,0),(4,0),(5,0),(6,0),(7,0),(8,1),(9,1),(10,1),(11,1)] (.st ⟨0,0,true,[]⟩ (.st ⟨1,0,true,[]⟩ (.st ⟨2,0,true,[]⟩ (.st ⟨3,0,true,[]⟩ (.st ⟨4,0,true,[]⟩ (.st ⟨5,0,true,[]⟩ (.st ⟨6,0,true,[]⟩ (.st ⟨7,0,true,[]⟩ (.two ⟨8,1,false,[0,1,2,3,4,5,6,7]⟩ (.leaf [⟨9,1,false,[0,1,2,3,4,5,6,7]⟩,⟨10,1,false,[4,5,6,7]⟩,⟨11,1,false,[]⟩]) ⟨9,1,false,[0,1,2,3,4,5,6,7]⟩ (.leaf [⟨8,1,false,[0,1,2,3,4,5,6,7]⟩,⟨10,1,false,[4,5,6,7]⟩,⟨11,1,false,[]⟩])))))))))) [0,0,3,7,0,0,48,112,0,0,783,2047] mo (by kernel_rfl) (by simp only [EPt,EPl,List.getElem?_cons_zero,List.getElem?_cons_succ];rfl) fun K hK=>?_
  simp (maxSteps:=4000000) only [↓EJ,FY,simprocAttr,EDt,hg,List.length_map,Int.toNat_natCast,Bi,PGS,MS]
  repeat refine And.intro (by omega) ?_
  refine ⟨?_,?_⟩
  ·skip
   repeat refine And.intro (by omega) ?_
   refine hK _ (Aa [0,1,4,5,6,7,16,62] ?_);clear hK K
   refine WC.rs fun K hK=>?_
   simp (maxSteps:=4000000) only [↓EJ,FY,simprocAttr,Bi,PGS,MS,Bool.not_true,Bool.not_false]
   refine CallX.mk (CallW.pure (H1) (by simp only [CL,PCL,TCL,DCL,FCL,RCL,MCL,BCL,GCL,and_self]) (by simp only [CL]) ?_)
   simp (maxSteps:=4000000) only [↓EJ,FY,simprocAttr,Bi,PGS,MS,Bool.not_true,Bool.not_false]
   refine CallX.mk (CallW.pure (H2) (by simp only [CL,PCL,TCL,DCL,FCL,RCL,MCL,BCL,GCL,and_self]) (by simp only [CL]) ?_)
   simp (maxSteps:=4000000) only [↓EJ,FY,simprocAttr,Bi,PGS,MS,Bool.not_true,Bool.not_false]
   refine CallX.mk (CallW.pure (H3) (by simp only [CL,PCL,TCL,DCL,FCL,RCL,MCL,BCL,GCL,and_self]) (by simp only [CL]) ?_)
   simp (maxSteps:=4000000) only [↓EJ,FY,simprocAttr,Bi,PGS,MS,Bool.not_true,Bool.not_false]
   refine hK _ (Aa [0,1,4,5,6,7,16,62] ?_);clear hK K
   refine WC.cond rfl (fun h=>?_) fun h=>?_
   ·simp at h
   refine WC.skip (hK4 _ ?_)
   refine WC.r1 ?_
   simp (disch:=omega) only [↓EJ,FY,simprocAttr,w64,Bh]
   try simp only [EQ,simprocAttr]
   refine ⟨i + 1,[],hlt,by omega,?_⟩
   exact Conv.all (by simp only [EC,simprocAttr,Int.natCast_add,PGR])
  ·skip
   repeat refine And.intro (by omega) ?_
   refine hK _ (Aa [0,1,4,5,6,7,16,62] ?_);clear hK K
   refine WC.rs fun K hK=>?_
   simp (maxSteps:=4000000) only [↓EJ,FY,simprocAttr,Bi,PGS,MS,Bool.not_true,Bool.not_false]
   refine CallX.mk (CallW.pure (H1) (by simp only [CL,PCL,TCL,DCL,FCL,RCL,MCL,BCL,GCL,and_self]) (by simp only [CL]) ?_)
   simp (maxSteps:=4000000) only [↓EJ,FY,simprocAttr,Bi,PGS,MS,Bool.not_true,Bool.not_false]
   refine CallX.mk (CallW.pure (H2) (by simp only [CL,PCL,TCL,DCL,FCL,RCL,MCL,BCL,GCL,and_self]) (by simp only [CL]) ?_)
   simp (maxSteps:=4000000) only [↓EJ,FY,simprocAttr,Bi,PGS,MS,Bool.not_true,Bool.not_false]
   refine CallX.mk (CallW.pure (H3) (by simp only [CL,PCL,TCL,DCL,FCL,RCL,MCL,BCL,GCL,and_self]) (by simp only [CL]) ?_)
   simp (maxSteps:=4000000) only [↓EJ,FY,simprocAttr,Bi,PGS,MS,Bool.not_true,Bool.not_false]
   refine hK _ (Aa [0,1,4,5,6,7,16,62] ?_);clear hK K
   refine WC.cond rfl (fun h=>?_) fun h=>?_
   ·simp at h
   refine WC.skip (hK4 _ ?_)
   refine WC.r1 ?_
   simp (disch:=omega) only [↓EJ,FY,simprocAttr,w64,Bh]
   try simp only [EQ,simprocAttr]
   refine ⟨i + 1,[],hlt,by omega,?_⟩
   exact Conv.all (by simp only [EC,simprocAttr,Int.natCast_add,PGR])
 ·skip
  refine WC.exit (hK2 _ ?_)
  refine WC.rs fun K hK=>?_
  simp (maxSteps:=4000000) only [↓EJ,FY,simprocAttr]
  refine hK _ ?_;clear hK K
  refine WC.ret ?_
  simp (maxSteps:=4000000) only [↓EJ,FY,simprocAttr,EQ,EF,Tryz.results75]
  exact Dt (by simp only [CL]) rfl
theorem P9 (l:List Fn) (h:Xh l=true):Tru 75 (D4 l):=by
 simp only [Xh,Bool.and_eq_true,decide_eq_true_eq,List.all_eq_true] at h
 have H:∀ f∈l,Tru 76 (Dq f.args)∧Tru 76 (Dq f.vars)∧Tru 77 (C3 f.body):=fun f hf=>by
  have:=h.2 f hf
  simp only [Rx,Bool.and_eq_true] at this
  exact ⟨Qa _ this.1,Qa _ this.2.1,Ui _ this.2.2⟩
 cases l with
 | nil=>rw [Ip];exact Tru.nils (Z1 [] h.1 H)
 | cons e es=>rw [L5 (by simp)];exact Z1 _ h.1 H
theorem PGC:(∀ l,(D4 l).solid=true)∧(∀ l,(D4 l).cells=[D4 l])∧(∀ l,(Cs l).solid=true)∧(∀ l,(Cs l).cells=[Cs l]):=by
 refine ⟨?_,?_,?_,?_⟩ <;> intro l <;> first | (unfold D4;split <;> rfl) | (unfold Cs;split <;> rfl)
theorem Yf (fs qs:List Fn) (vs:List De) (b:List Sm) (w:List UInt8) (h1:Tru 75 (D4 fs)) (h2:Tru 75 (D4 qs)) (h3:Tru 76 (Dq vs)) (h4:Tru 77 (C3 b)) :
  Tru 42 (.agg [.nils,D4 fs,D4 qs,Dq vs,C3 b,.str w]):=by
 unfold Tru
 refine FSem.en 64 Tryz.func42 ?_
 simp only [Aj]
 refine WC.rs fun K hK=>?_
 simp (maxSteps:=4000000) only [↓EJ,FY,simprocAttr,PGC,Bi,MS]
 refine hK _ ?_;clear hK K
 refine Am fun K1 hK1=>?_
 refine WC.rs fun K hK=>?_
 simp (maxSteps:=4000000) only [↓EJ,FY,simprocAttr,List.length_map,Bool.not_true,Bool.not_false]
 refine hK _ (Aa [2,3,4,5,12,17,30] ?_);clear hK K
 refine WC.cond rfl (fun h=>?_) fun h=>?_
 ·simp at h
 refine WC.skip (hK1 _ ?_)
 refine Am fun K2 hK2=>?_
 refine WC.rs fun K hK=>?_
 simp (maxSteps:=4000000) only [↓EJ,FY,simprocAttr]
 refine hK _ ?_;clear hK K
 refine WC.b1 ?_
 refine WC.loop (X:=Nat) (fun i=>⟨[(5,.int .i64 i),(4,.bool false),(3,.ptr (.l 1) 0 0),(2,.ptr (.l 0) 0 0)],[],[.row [.agg [.nils,D4 fs,D4 qs,Dq vs,C3 b,.str w]] 6 32,.row [.agg [.nils,D4 fs,D4 qs,Dq vs,C3 b,.str w]] 6 32],[]⟩) (fun i=>i≤0) (fun i=>0 - i) 0 [0,1] (Nat.zero_le _) ?_ ?_
 ·exact Conv.all (by simp only [EC,simprocAttr,PGR,MRN,A3,Gb])
 intro i hi
 refine Am fun K3 hK3=>?_
 refine WC.rs fun K hK=>?_
 simp (maxSteps:=4000000) only [↓EJ,FY,simprocAttr,List.length_map]
 refine hK _ ?_;clear hK K
 refine WC.cond rfl (fun h=>?_) fun h=>?_
 ·simp at h;omega
 ·skip
  refine WC.exit (hK2 _ ?_)
  refine WC.rs fun K hK=>?_
  simp (maxSteps:=4000000) only [↓EJ,FY,simprocAttr,PGC,Bi,MS]
  refine CallX.mk (CallW.pure (h1) (by simp only [CL,PCL,TCL,DCL,FCL,RCL,MCL,BCL,GCL,and_self]) (by simp only [CL]) ?_)
  simp (maxSteps:=4000000) only [↓EJ,FY,simprocAttr,PGC,Bi,MS]
  refine CallX.mk (CallW.pure (h2) (by simp only [CL,PCL,TCL,DCL,FCL,RCL,MCL,BCL,GCL,and_self]) (by simp only [CL]) ?_)
  simp (maxSteps:=4000000) only [↓EJ,FY,simprocAttr,PGC,Bi,MS]
  refine CallX.mk (CallW.pure (h3) (by simp only [CL,PCL,TCL,DCL,FCL,RCL,MCL,BCL,GCL,and_self]) (by simp only [CL]) ?_)
  simp (maxSteps:=4000000) only [↓EJ,FY,simprocAttr,PGC,Bi,MS]
  refine CallX.mk (CallW.pure (h4) (by simp only [CL,PCL,TCL,DCL,FCL,RCL,MCL,BCL,GCL,and_self]) (by simp only [CL]) ?_)
  simp (maxSteps:=4000000) only [↓EJ,FY,simprocAttr,PGC,Bi,MS]
  refine hK _ (Aa [2,3,4,5] ?_);clear hK K
  refine WC.ret ?_
  simp (maxSteps:=4000000) only [↓EJ,FY,simprocAttr,EQ,EF,Tryz.results42]
  exact Dt (by simp only [CL]) rfl
theorem Wi (es:List (List UInt8)) (hl:es.length≤10000) (fs qs:List Fn) (vs:List De) (b:List Sm) (w:List UInt8) (h1:Tru 75 (D4 fs)) (h2:Tru 75 (D4 qs)) (h3:Tru 76 (Dq vs)) (h4:Tru 77 (C3 b)) :
  Tru 42 (.agg [.slc (es.map .str),D4 fs,D4 qs,Dq vs,C3 b,.str w]):=by
 unfold Tru
 refine FSem.en 64 Tryz.func42 ?_
 simp only [Aj]
 refine WC.rs fun K hK=>?_
 simp (maxSteps:=4000000) only [↓EJ,FY,simprocAttr,PGC,Bi,MS]
 refine hK _ ?_;clear hK K
 refine Am fun K1 hK1=>?_
 refine WC.rs fun K hK=>?_
 simp (maxSteps:=4000000) only [↓EJ,FY,simprocAttr,List.length_map,Bool.not_true,Bool.not_false]
 refine hK _ (Aa [2,3,4,5,12,17,30] ?_);clear hK K
 refine WC.cond rfl (fun h=>?_) fun h=>?_
 ·simp at h
 refine WC.skip (hK1 _ ?_)
 refine Am fun K2 hK2=>?_
 refine WC.rs fun K hK=>?_
 simp (maxSteps:=4000000) only [↓EJ,FY,simprocAttr]
 refine hK _ ?_;clear hK K
 refine WC.b1 ?_
 refine WC.loop (X:=Nat) (fun i=>⟨[(5,.int .i64 i),(4,.bool false),(3,.ptr (.l 1) 0 0),(2,.ptr (.l 0) 0 0)],[],[.row [.agg [.slc (es.map .str),D4 fs,D4 qs,Dq vs,C3 b,.str w]] 6 32,.row [.agg [.slc (es.map .str),D4 fs,D4 qs,Dq vs,C3 b,.str w]] 6 32],[]⟩) (fun i=>i≤es.length) (fun i=>es.length - i) 0 [0,1] (Nat.zero_le _) ?_ ?_
 ·exact Conv.all (by simp only [EC,simprocAttr,PGR,MRN,A3,Gb])
 intro i hi
 refine Am fun K3 hK3=>?_
 refine WC.rs fun K hK=>?_
 simp (maxSteps:=4000000) only [↓EJ,FY,simprocAttr,List.length_map]
 refine hK _ ?_;clear hK K
 refine WC.cond rfl (fun h=>?_) fun h=>?_
 ·have hlt:i < es.length:=by simpa using h
  have hg:gi (es.map PVal.str) i=.str es[i]:=by simp [gi,hlt]
  refine WC.skip (hK3 _ ?_)
  refine WC.bs fun K4 hK4=>?_
  refine WC.dg [⟨0,0,false,[]⟩,⟨1,0,false,[]⟩,⟨2,0,false,[]⟩,⟨3,0,false,[]⟩,⟨4,0,false,[]⟩,⟨5,0,false,[]⟩,⟨6,0,false,[]⟩,⟨7,0,false,[]⟩,⟨8,0,false,[]⟩,⟨9,0,false,[]⟩,⟨10,0,false,[]⟩] [0,1,0,7,15,0,32,0,224,480,1023] fun K hK=>?_
  simp (maxSteps:=4000000) only [↓EJ,FY,simprocAttr,hg,List.length_map,Int.toNat_natCast]
  repeat refine And.intro (by omega) ?_
  refine hK _ (Aa [2,3,4,5,17,30] ?_);clear hK K
  refine WC.cond rfl (fun h=>?_) fun h=>?_
  ·simp at h
  refine WC.skip (hK4 _ ?_)
  refine WC.r1 ?_
  simp (disch:=omega) only [↓EJ,FY,simprocAttr,w64,Bh]
  try simp only [EQ,simprocAttr]
  refine ⟨i + 1,[0,1],hlt,by omega,?_⟩
  exact Conv.all (by simp only [EC,simprocAttr,Int.natCast_add,PGR,MRN,A3,Gb])
 ·skip
  refine WC.exit (hK2 _ ?_)
  refine WC.rs fun K hK=>?_
  simp (maxSteps:=4000000) only [↓EJ,FY,simprocAttr,PGC,Bi,MS]
  refine CallX.mk (CallW.pure (h1) (by simp only [CL,PCL,TCL,DCL,FCL,RCL,MCL,BCL,GCL,and_self]) (by simp only [CL]) ?_)
  simp (maxSteps:=4000000) only [↓EJ,FY,simprocAttr,PGC,Bi,MS]
  refine CallX.mk (CallW.pure (h2) (by simp only [CL,PCL,TCL,DCL,FCL,RCL,MCL,BCL,GCL,and_self]) (by simp only [CL]) ?_)
  simp (maxSteps:=4000000) only [↓EJ,FY,simprocAttr,PGC,Bi,MS]
  refine CallX.mk (CallW.pure (h3) (by simp only [CL,PCL,TCL,DCL,FCL,RCL,MCL,BCL,GCL,and_self]) (by simp only [CL]) ?_)
  simp (maxSteps:=4000000) only [↓EJ,FY,simprocAttr,PGC,Bi,MS]
  refine CallX.mk (CallW.pure (h4) (by simp only [CL,PCL,TCL,DCL,FCL,RCL,MCL,BCL,GCL,and_self]) (by simp only [CL]) ?_)
  simp (maxSteps:=4000000) only [↓EJ,FY,simprocAttr,PGC,Bi,MS]
  refine hK _ (Aa [2,3,4,5] ?_);clear hK K
  refine WC.ret ?_
  simp (maxSteps:=4000000) only [↓EJ,FY,simprocAttr,EQ,EF,Tryz.results42]
  exact Dt (by simp only [CL]) rfl
def Wt (p:Pg):Bool:=decide (p.params.length≤10000) && (Xh p.funcs && (Xh p.queries && (N3 p.vars && Kg p.body)))
theorem samePg (p:Pg) (h:Wt p=true):Tru 42 (pgV p):=by
 simp only [Wt,Bool.and_eq_true,decide_eq_true_eq] at h
 obtain ⟨ps,fs,qs,vs,b,w⟩:=p
 unfold pgV pgC
 cases ps with
 | nil=>dsimp only;rw [Om];exact Yf fs qs vs b w (P9 _ h.2.1) (P9 _ h.2.2.1) (Qa _ h.2.2.2.1) (Ui _ h.2.2.2.2)
 | cons e es=>dsimp only;rw [Q5 (by simp)];exact Wi (e::es) h.1 fs qs vs b w (P9 _ h.2.1) (P9 _ h.2.2.1) (Qa _ h.2.2.2.1) (Ui _ h.2.2.2.2)
theorem Wh (p:Pg) (h:Wt p=true):Tru 21 (pgV p):=by
 have hs:=samePg p h
 unfold pgV pgC at hs ⊢
 unfold Tru
 refine FSem.en 8 Tryz.func21 ?_
 simp only [Aj]
 refine WC.rs fun K hK=>?_
 simp (maxSteps:=4000000) only [↓EJ,FY,simprocAttr,PGC,Bi,MS]
 refine hK _ ?_;clear hK K
 refine WC.rs fun K hK=>?_
 simp (maxSteps:=4000000) only [↓EJ,FY,simprocAttr,PGC,Bi,MS]
 refine CallX.mk (CallW.pure (hs) (by simp only [CL,PCL,TCL,DCL,FCL,RCL,MCL,BCL,GCL,and_self]) (by simp only [CL]) ?_)
 simp (maxSteps:=4000000) only [↓EJ,FY,simprocAttr,PGC,Bi,MS]
 refine hK _ ?_;clear hK K
 refine WC.ret ?_
 simp (maxSteps:=4000000) only [↓EJ,FY,simprocAttr,EQ,EF,Tryz.results21]
 exact Dt (by simp only [CL]) rfl
end Go.LexSem
