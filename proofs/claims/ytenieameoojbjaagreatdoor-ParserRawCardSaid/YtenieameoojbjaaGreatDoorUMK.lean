/-
 Texts joined: ParP ParQ ParR ParS ParT ParU.
-/
import Derived.Test.YtenieameoojbjaaGreatDoorUMJ
import Derived.Test.YtenieameoojbjaaGreatDoorUMD
set_option linter.unusedVariables false
set_option linter.unusedSimpArgs false
set_option linter.loopingSimpArgs false
set_option maxHeartbeats 4000000
set_option maxRecDepth 8000
namespace Go.LexSem
open Go Go.V Go.Proofs Go.Num

theorem pAll (ts:List Tok):∀ n,PAll ts n:=fun n=>by
 induction n using Nat.strongRecOn with
 | _ n ih =>
   cases n with
   | zero =>
     exact ⟨fun s _ h=>by omega,fun l s hl _ h=>by omega,fun l s hl _ h=>by omega,fun s _ h=>by omega,fun s _ h=>by omega,fun s _ h=>by omega,fun s _ h=>by omega⟩
   | succ n =>
     have H:∀ m,m≤n→PAll ts m:=fun m hm=>ih m (by omega)
     have Hn:=H n (Nat.le_refl n)
     exact ⟨fun s i h=>expr_step ts n Hn s i h,fun l s hl i h=>left_step ts n H l hl s i h,fun l s hl i h=>Uu ts n Hn l hl s i h,fun s i h=>cmp_step ts n Hn s i h,
      fun s i h=>X6 ts n H s i h,fun s i h=>Us ts n Hn s i h,fun s i h=>Zc ts n H s i h⟩
/-- Enough fuel for what stands behind. -/
def Ov (ts:List Tok) (s:PS):Nat:=40 * rem ts s + 36
def Hr (ts:List Tok) (s:PS):PR Ex:=Eg ts (Ov ts s) s
def Iq (ts:List Tok) (s:PS):PR (List Ex):=Ed ts (Ov ts s) s
theorem Ir (ts:List Tok) (s:PS) (i:PInv ts s):PSem 125 [] ts s (Hr ts s) exV:=(pAll ts _).expr s i (by unfold Ov;omega)
theorem Tp (ts:List Tok) (s:PS) (i:PInv ts s):PSem 129 [] ts s (Iq ts s) Dv:=(pAll ts _).exprs s i (by unfold Ov;omega)
theorem E2 {ts:List Tok} {s s':PS} {e:Ex} (i:PInv ts s) (h:Hr ts s=.ok (e,s')):Up ts s s':=(Mi ts _).expr i h
theorem Nz {ts:List Tok} {s s':PS} {e:List Ex} (i:PInv ts s) (h:Iq ts s=.ok (e,s')):Up ts s s':=((Mi ts _).exprs i h).1
theorem exprs_ne {ts:List Tok} {s s':PS} {e:List Ex} (i:PInv ts s) (h:Iq ts s=.ok (e,s')):e≠[]:=((Mi ts _).exprs i h).2.1
end Go.LexSem
-- CLOSERS: PCL,TCL
set_option maxHeartbeats 8000000
set_option maxRecDepth 8000
namespace Go.LexSem
open Go Go.V Go.Proofs Go.Num

/-! ### Types as trees -/
inductive Ty where
 | mk (kind:Nat) (low high:Int) (max:Nat) (elems:List Ty)
mutual
def tyC:Ty→List PVal
 | .mk k lo hi m es=>[.int .i64 k,.int .i64 lo,.int .i64 hi,.int .i64 m,Kv es]
def tyL:List Ty→List PVal
 | []=>[]
 | e::es=>.agg (tyC e)::tyL es
def Kv:List Ty→PVal
 | []=>.nils
 | e::es=>.slc (.agg (tyC e)::tyL es)
end
def tyV (e:Ty):PVal:=.agg (tyC e)
theorem Zt:∀ es:List Ty,tyL es=es.map tyV
 | []=>by simp [tyL]
 | e::es=>by simp [tyL,Zt es,tyV]
theorem Jl:Kv []=.nils:=by simp [Kv]
theorem P3 {es:List Ty} (h:es≠[]):Kv es=.slc (es.map tyV):=by
 cases es with
 | nil=>exact absurd rfl h
 | cons e es=>simp [Kv,Zt,tyV]
theorem Jv (k:Nat) (lo hi:Int) (m:Nat) (es:List Ty):tyV (.mk k lo hi m es)=.agg [.int .i64 k,.int .i64 lo,.int .i64 hi,.int .i64 m,Kv es]:=by simp [tyV,tyC]
theorem P4 (e:Ty):(tyC e).length=5:=by cases e;simp [tyC]
mutual
theorem Id:∀ e:Ty,ClosedL (tyC e)
 | .mk k lo hi m es=>by
   have h:=Ku es
   have:ClosedL (tyC (.mk k lo hi m es))=True:=by simp only [tyC,CL,eq_true h,and_self]
   exact of_eq_true this
theorem Q2:∀ es:List Ty,ClosedL (tyL es)
 | []=>by simp only [tyL];exact .nil
 | e::es=>by
   simp only [tyL]
   exact .cons (.agg (Id e)) (Q2 es)
theorem Ku:∀ es:List Ty,Closed (Kv es)
 | []=>by simp only [Kv];exact fun _=>rfl
 | e::es=>by
   simp only [Kv]
   exact .slc (.cons (.agg (Id e)) (Q2 es))
end
theorem B2 (e:Ty):Closed (tyV e):=.agg (Id e)
theorem TCL:(∀ e,Closed (tyV e)=True)∧(∀ e,ClosedL (tyC e)=True)∧(∀ es,Closed (Kv es)=True)∧(∀ es:List Ty,ClosedL (es.map tyV)=True) :=
 ⟨fun e=>eq_true (B2 e),fun e=>eq_true (Id e),fun es=>eq_true (Ku es),fun es=>eq_true (ClosedL.map (fun e=>B2 e) es)⟩
theorem TRN:(∀ f e,Ba f (tyC e)=tyC e)∧(∀ f es,ren f (Kv es)=Kv es)∧(∀ f (es:List Ty),Ba f (es.map tyV)=es.map tyV) :=
 ⟨fun f e=>Id e f,fun f es=>Ku es f,fun f es=>ClosedL.map (fun e=>B2 e) es f⟩
theorem TS:(∀ e,tyV e=.agg (tyC e))∧(∀ e,(tyC e).length=5)∧(∀ e,List.take 5 (tyC e)=tyC e)∧(∀ e,List.drop 5 (tyC e)=[])∧(∀ cs,(PVal.agg cs).solid=true)∧(∀ l,(Kv l).solid=true)∧(∀ l,(Kv l).cells=[Kv l]) :=
 ⟨fun _=>rfl,P4,fun e=>List.take_of_length_le (by rw [P4];exact Nat.le_refl _),fun e=>List.drop_of_length_le (by rw [P4];exact Nat.le_refl _),fun _=>rfl,
  fun l=>by cases l <;> simp only [Kv] <;> rfl,fun l=>by cases l <;> simp only [Kv] <;> rfl⟩
mutual
def Gu (ts:List Tok):Nat→PS→PR Ty
 | 0,_=>.error Jq
 | n + 1,s=>bnd (Ak ts [98,111,111,108] s) fun b s=>match b with
   | true=>.ok (.mk 1 0 0 0 [],s)
   | false=>bnd (Ak ts [110,97,116] s) fun b s=>match b with
     | true=>.ok (.mk 3 0 0 0 [],s)
     | false=>bnd (Ak ts [114,101,97,108] s) fun b s=>match b with
       | true=>.ok (.mk 4 0 0 0 [],s)
       | false=>bnd (Ak ts [105,110,116] s) fun b s=>match b with
         | true=>bnd (Ah ts [[91]] s) fun _ s=>bnd (Cj ts s) fun lo s=>bnd (Ah ts [[44]] s) fun _ s=>bnd (Cj ts s) fun hi s=>bnd (Ah ts [[93]] s) fun _ s=>.ok (.mk 2 lo hi 0 [],s)
         | false=>bnd (Ak ts [108,105,115,116] s) fun b s=>match b with
           | true=>bnd (Ah ts [[91]] s) fun _ s=>bnd (Bu ts s) fun m s=>bnd (Ah ts [[93]] s) fun _ s=>bnd (Gu ts n s) fun t s=>.ok (.mk 6 0 0 m [t],s)
           | false=>bnd (Ah ts [[40]] s) fun _ s=>bnd (Gu ts n s) fun a s=>bnd (Ah ts [[44]] s) fun _ s=>bnd (Gu ts n s) fun b s=>bnd (Ic ts n [a,b] s) fun l s=>bnd (Ah ts [[41]] s) fun _ s=>.ok (.mk 5 0 0 0 l,s)
def Ic (ts:List Tok):Nat→List Ty→PS→PR (List Ty)
 | 0,_,_=>.error Jq
 | n + 1,acc,s=>bnd (Ak ts [44] s) fun b s=>match b with
   | false=>.ok (acc,s)
   | true=>bnd (Gu ts n s) fun t s=>Ic ts n (acc ++ [t]) s
end
theorem Io {ts:List Tok} {s s':PS} {v:Int} (h:PInv ts s) (hx:Cj ts s=.ok (v,s')):Up ts s s':=by
 unfold Cj at hx
 split at hx
 ·cases hx
 ·rename_i b s1 ha
  have g1:=A7 h ha
  split at hx
  ·cases hx
  ·rename_i n s2 hn
   cases hx
   exact g1.up (Ey g1.1 hn)
structure TInv (ts:List Tok) (n:Nat):Prop where
 typ:∀ {s e s'},PInv ts s→Gu ts n s=.ok (e,s')→Up ts s s'
 typs:∀ {a s e s'},PInv ts s→Ic ts n a s=.ok (e,s')→Ge ts s s'
theorem V9 (ts:List Tok):∀ n,TInv ts n
 | 0=>by
   constructor <;> intros <;> rename_i h <;> simp only [Gu,Ic] at h <;> cases h
 | n + 1=>by
   have H:=V9 ts n
   constructor
   ·intro s0 e s' i0 h
    rw [Gu] at h
    obtain ⟨b,s1,h1,h⟩:=Ac h
    have g1:=A7 i0 h1
    cases b
    rotate_left
    ·cases h;exact Bm i0 h1
    refine g1.up ?_
    obtain ⟨b,s2,h2,h⟩:=Ac h
    have g2:=A7 g1.1 h2
    cases b
    rotate_left
    ·cases h;exact Bm g1.1 h2
    refine g2.up ?_
    obtain ⟨b,s3,h3,h⟩:=Ac h
    have g3:=A7 g2.1 h3
    cases b
    rotate_left
    ·cases h;exact Bm g2.1 h3
    refine g3.up ?_
    obtain ⟨b,s4,h4,h⟩:=Ac h
    have g4:=A7 g3.1 h4
    cases b
    rotate_left
    ·obtain ⟨_,s5,h5,h⟩:=Ac h
     obtain ⟨_,s6,h6,h⟩:=Ac h
     obtain ⟨_,s7,h7,h⟩:=Ac h
     obtain ⟨_,s8,h8,h⟩:=Ac h
     obtain ⟨_,s9,h9,h⟩:=Ac h
     cases h
     have g5:=A6 g4.1 h5
     have g6:=Io g5.1 h6
     have g7:=A6 g6.1 h7
     have g8:=Io g7.1 h8
     exact g4.up (g5.trans (g6.ge.trans (g7.ge.trans (g8.ge.trans (A6 g8.1 h9).ge))))
    refine g4.up ?_
    obtain ⟨b,s5,h5,h⟩:=Ac h
    have g5:=A7 g4.1 h5
    cases b
    rotate_left
    ·obtain ⟨_,s6,h6,h⟩:=Ac h
     obtain ⟨_,s7,h7,h⟩:=Ac h
     obtain ⟨_,s8,h8,h⟩:=Ac h
     obtain ⟨_,s9,h9,h⟩:=Ac h
     cases h
     have g6:=A6 g5.1 h6
     have g7:=Ey g6.1 h7
     have g8:=A6 g7.1 h8
     exact g5.up (g6.trans (g7.ge.trans (g8.ge.trans (H.typ g8.1 h9).ge)))
    refine g5.up ?_
    obtain ⟨_,s6,h6,h⟩:=Ac h
    obtain ⟨_,s7,h7,h⟩:=Ac h
    obtain ⟨_,s8,h8,h⟩:=Ac h
    obtain ⟨_,s9,h9,h⟩:=Ac h
    obtain ⟨_,s10,h10,h⟩:=Ac h
    obtain ⟨_,s11,h11,h⟩:=Ac h
    cases h
    have g6:=A6 g5.1 h6
    have g7:=H.typ g6.1 h7
    have g8:=A6 g7.1 h8
    have g9:=H.typ g8.1 h9
    have g10:=H.typs g9.1 h10
    exact g6.trans (g7.ge.trans (g8.ge.trans (g9.ge.trans (g10.trans (A6 g10.1 h11).ge))))
   ·intro a s e s' hI h
    rw [Ic] at h
    obtain ⟨b,s1,h1,h⟩:=Ac h
    have u1:=A7 hI h1
    cases b
    ·cases h;exact u1
    ·obtain ⟨x,s2,h2,h⟩:=Ac h
     have u2:=H.typ u1.1 h2
     exact u1.trans (u2.ge.trans (H.typs u2.1 h))
end Go.LexSem
-- CLOSERS: PCL,TCL
set_option maxHeartbeats 16000000
set_option maxRecDepth 8000
namespace Go.LexSem
open Go Go.V Go.Proofs Go.Num

theorem typ_step (ts:List Tok) (n:Nat) (H:∀ m,m≤n→(∀ s,PInv ts s→2 * rem ts s + 1≤m→PSem 100 [] ts s (Gu ts m s) tyV)∧True) (s0:PS) (i0:PInv ts s0) (hn:2 * rem ts s0 + 1≤n + 1):PSem 100 [] ts s0 (Gu ts (n + 1) s0) tyV:=by
 have X:=V9 ts n
 obtain ⟨x,hx⟩:∃ x,x=Gu ts (n + 1) s0:=⟨_,rfl⟩
 rw [←hx]
 rw [Gu] at hx
 unfold PSem
 refine FSem.en 86 Tryz.func100 ?_
 simp only [Aj]
 refine WC.go ?_
 refine WC.bs fun K0 hK0=>?_
 refine WC.rs fun K hK=>?_
 simp only [↓EJ,FY,simprocAttr]
 refine CallX.acc hx i0 fun b1 s1 h1 hx g1 i1=>?_
 have r1:=g1.rem
 simp only [↓EJ,FY,simprocAttr]
 refine hK _ ?_;clear hK K
 refine WC.cond rfl (fun h=>?_) fun h=>?_
 ·obtain rfl:b1=true:=by simpa using h
  dsimp only at hx
  have q1:=(Bm i0 h1).rem
  refine WC.rs fun K hK=>?_
  simp only [↓EJ,FY,simprocAttr,TS]
  refine hK _ ?_;clear hK K
  refine WC.ret ?_
  simp only [↓EJ,FY,simprocAttr,EQ,EF,Tryz.results100,TS]
  exact PSem.done (fn:=Tryz.f100) (s:=s1) (v:=(.mk 1 0 0 0 [])) hx rfl (of_eq_true (by simp only [CL,PCL,TCL,and_self])) rfl
 obtain rfl:b1=false:=by simpa using h
 dsimp only at hx
 refine WC.rs fun K hK=>?_
 simp only [↓EJ,FY,simprocAttr]
 refine CallX.acc hx i1 fun b2 s2 h2 hx g2 i2=>?_
 have r2:=g2.rem
 simp only [↓EJ,FY,simprocAttr]
 refine hK _ (Aa [0,2,3,4,5,10,14,18,38,74] ?_);clear hK K
 refine WC.cond rfl (fun h=>?_) fun h=>?_
 ·obtain rfl:b2=true:=by simpa using h
  dsimp only at hx
  have q2:=(Bm i1 h2).rem
  refine WC.rs fun K hK=>?_
  simp only [↓EJ,FY,simprocAttr,TS]
  refine hK _ ?_;clear hK K
  refine WC.ret ?_
  simp only [↓EJ,FY,simprocAttr,EQ,EF,Tryz.results100,TS]
  exact PSem.done (fn:=Tryz.f100) (s:=s2) (v:=(.mk 3 0 0 0 [])) hx rfl (of_eq_true (by simp only [CL,PCL,TCL,and_self])) rfl
 obtain rfl:b2=false:=by simpa using h
 dsimp only at hx
 refine WC.rs fun K hK=>?_
 simp only [↓EJ,FY,simprocAttr]
 refine CallX.acc hx i2 fun b3 s3 h3 hx g3 i3=>?_
 have r3:=g3.rem
 simp only [↓EJ,FY,simprocAttr]
 refine hK _ ?_;clear hK K
 refine WC.cond rfl (fun h=>?_) fun h=>?_
 ·obtain rfl:b3=true:=by simpa using h
  dsimp only at hx
  have q3:=(Bm i2 h3).rem
  refine WC.rs fun K hK=>?_
  simp only [↓EJ,FY,simprocAttr,TS]
  refine hK _ ?_;clear hK K
  refine WC.ret ?_
  simp only [↓EJ,FY,simprocAttr,EQ,EF,Tryz.results100,TS]
  exact PSem.done (fn:=Tryz.f100) (s:=s3) (v:=(.mk 4 0 0 0 [])) hx rfl (of_eq_true (by simp only [CL,PCL,TCL,and_self])) rfl
 obtain rfl:b3=false:=by simpa using h
 dsimp only at hx
 refine WC.rs fun K hK=>?_
 simp only [↓EJ,FY,simprocAttr]
 refine CallX.acc hx i3 fun b4 s4 h4 hx g4 i4=>?_
 have r4:=g4.rem
 simp only [↓EJ,FY,simprocAttr]
 refine hK _ (Aa [0,2,3,4,5,18,38,74] ?_);clear hK K
 refine WC.cond rfl (fun h=>?_) fun h=>?_
 ·obtain rfl:b4=true:=by simpa using h
  dsimp only at hx
  have q4:=(Bm i3 h4).rem
  refine WC.rs fun K hK=>?_
  simp only [↓EJ,FY,simprocAttr,TS]
  refine hK _ ?_;clear hK K
  refine A2 [1] fun K hK=>?_
  simp only [↓EJ,FY,simprocAttr,EZ]
  refine CallX.exp hx i4 fun u11 s11 h11 hx g11 i11=>?_
  simp only [↓EJ,FY,simprocAttr,EZ]
  refine hK _ ?_;clear hK K
  refine WC.rs fun K hK=>?_
  simp only [↓EJ,FY,simprocAttr]
  refine Af hx (Hh ts s11 i11) (by simp only [CL,PCL,TCL,and_self]) (fun v=>by simp only [CL,PCL,TCL,and_self]) fun lo s12 h12 hx=>?_
  have g12:=Io i11 h12
  have i12:=g12.1
  simp only [↓EJ,FY,simprocAttr,TS]
  refine hK _ (Aa [0,2,3,4,5,38,74] ?_);clear hK K
  refine A2 [1] fun K hK=>?_
  simp only [↓EJ,FY,simprocAttr,EZ]
  refine CallX.exp hx i12 fun u13 s13 h13 hx g13 i13=>?_
  simp only [↓EJ,FY,simprocAttr,EZ]
  refine hK _ ?_;clear hK K
  refine WC.rs fun K hK=>?_
  simp only [↓EJ,FY,simprocAttr]
  refine Af hx (Hh ts s13 i13) (by simp only [CL,PCL,TCL,and_self]) (fun v=>by simp only [CL,PCL,TCL,and_self]) fun hi s14 h14 hx=>?_
  have g14:=Io i13 h14
  have i14:=g14.1
  simp only [↓EJ,FY,simprocAttr,TS]
  refine hK _ (Aa [0,2,3,4,5,38,74] ?_);clear hK K
  refine A2 [1] fun K hK=>?_
  simp only [↓EJ,FY,simprocAttr,EZ]
  refine CallX.exp hx i14 fun u15 s15 h15 hx g15 i15=>?_
  simp only [↓EJ,FY,simprocAttr,EZ]
  refine hK _ ?_;clear hK K
  refine WC.rs fun K hK=>?_
  simp only [↓EJ,FY,simprocAttr,TS]
  refine hK _ ?_;clear hK K
  refine WC.ret ?_
  simp only [↓EJ,FY,simprocAttr,EQ,EF,Tryz.results100,TS]
  exact PSem.done (fn:=Tryz.f100) (s:=s15) (v:=(.mk 2 lo hi 0 [])) hx rfl (of_eq_true (by simp only [CL,PCL,TCL,and_self])) rfl
 obtain rfl:b4=false:=by simpa using h
 dsimp only at hx
 refine WC.rs fun K hK=>?_
 simp only [↓EJ,FY,simprocAttr]
 refine CallX.acc hx i4 fun b5 s5 h5 hx g5 i5=>?_
 have r5:=g5.rem
 simp only [↓EJ,FY,simprocAttr]
 refine hK _ (Aa [0,2,4,5,38,74] ?_);clear hK K
 refine WC.cond rfl (fun h=>?_) fun h=>?_
 ·obtain rfl:b5=true:=by simpa using h
  dsimp only at hx
  have q5:=(Bm i4 h5).rem
  refine WC.rs fun K hK=>?_
  simp only [↓EJ,FY,simprocAttr,TS]
  refine hK _ ?_;clear hK K
  refine A2 [1] fun K hK=>?_
  simp only [↓EJ,FY,simprocAttr,EZ]
  refine CallX.exp hx i5 fun u11 s11 h11 hx g11 i11=>?_
  have r11:=g11.rem
  simp only [↓EJ,FY,simprocAttr,EZ]
  refine hK _ ?_;clear hK K
  refine WC.rs fun K hK=>?_
  simp only [↓EJ,FY,simprocAttr]
  refine Af hx (D2 ts s11 i11) (by simp only [CL,PCL,TCL,and_self]) (fun v=>by simp only [CL,PCL,TCL,and_self]) fun m s12 h12 hx=>?_
  have g12:=Ey i11 h12
  have i12:=g12.1
  have r12:=g12.rem
  simp only [↓EJ,FY,simprocAttr,TS]
  refine hK _ (Aa [0,2,4,5,74] ?_);clear hK K
  refine A2 [1] fun K hK=>?_
  simp only [↓EJ,FY,simprocAttr,EZ]
  refine CallX.exp hx i12 fun u13 s13 h13 hx g13 i13=>?_
  have r13:=g13.rem
  simp only [↓EJ,FY,simprocAttr,EZ]
  refine hK _ ?_;clear hK K
  refine A2 [2] fun K hK=>?_
  simp only [↓EJ,FY,simprocAttr,EZ]
  refine Af hx ((H n (Nat.le_refl n)).1 s13 i13 (by omega)) (by simp only [CL,PCL,TCL,and_self]) (fun v=>by simp only [CL,PCL,TCL,and_self]) fun t s14 h14 hx=>?_
  have g14:=X.typ i13 h14
  have i14:=g14.1
  simp only [↓EJ,FY,simprocAttr,EZ,TS]
  refine hK _ (Aa [0,2,4,5,74] ?_);clear hK K
  refine WC.rs fun K hK=>?_
  simp only [↓EJ,FY,simprocAttr,TS]
  refine hK _ ?_;clear hK K
  refine WC.ret ?_
  simp only [↓EJ,FY,simprocAttr,EQ,EF,Tryz.results100,TS]
  exact PSem.done (fn:=Tryz.f100) (s:=s14) (v:=(.mk 6 0 0 m [t])) hx rfl (of_eq_true (by simp only [CL,PCL,TCL,and_self])) rfl
 obtain rfl:b5=false:=by simpa using h
 dsimp only at hx
 refine WC.skip (hK0 _ ?_)
 refine A2 [1] fun K hK=>?_
 simp only [↓EJ,FY,simprocAttr,EZ]
 refine CallX.exp hx i5 fun u11 s11 h11 hx g11 i11=>?_
 have r11:=g11.rem
 simp only [↓EJ,FY,simprocAttr,EZ]
 refine hK _ ?_;clear hK K
 refine WC.rs fun K hK=>?_
 simp only [↓EJ,FY,simprocAttr]
 refine Af hx ((H n (Nat.le_refl n)).1 s11 i11 (by omega)) (by simp only [CL,PCL,TCL,and_self]) (fun v=>by simp only [CL,PCL,TCL,and_self]) fun t1 s12 h12 hx=>?_
 have g12:=X.typ i11 h12
 have i12:=g12.1
 have r12:=g12.rem
 simp only [↓EJ,FY,simprocAttr,TS]
 refine hK _ (Aa [0,2,5,74] ?_);clear hK K
 refine A2 [1] fun K hK=>?_
 simp only [↓EJ,FY,simprocAttr,EZ]
 refine CallX.exp hx i12 fun u13 s13 h13 hx g13 i13=>?_
 have r13:=g13.rem
 simp only [↓EJ,FY,simprocAttr,EZ]
 refine hK _ ?_;clear hK K
 refine WC.dg [⟨0,0,true,[]⟩,⟨1,0,true,[]⟩,⟨2,0,false,[]⟩,⟨3,1,false,[0,1]⟩,⟨4,2,false,[]⟩,⟨5,1,false,[]⟩,⟨6,0,false,[]⟩,⟨7,1,false,[]⟩] [0,1,0,4,12,31,63,127] fun K hK=>?_
 simp only [↓EJ,FY,simprocAttr,TS]
 refine Af hx ((H n (Nat.le_refl n)).1 s13 i13 (by omega)) (by simp only [CL,PCL,TCL,and_self]) (fun v=>by simp only [CL,PCL,TCL,and_self]) fun t2 s14 h14 hx=>?_
 have g14:=X.typ i13 h14
 have i14:=g14.1
 have r14:=g14.rem
 simp only [↓EJ,FY,simprocAttr,TS]
 refine hK _ (Aa [0,2,5,74] ?_);clear hK K
 refine WC.bs fun K1 hK1=>?_
 refine WC.loop (X:=Nat × List Ty × PS) (fun x=>⟨[(5,.ptr (.l 1) 0 0),(2,.ptr (.l 0) 0 0),(0,.ptr (.o 0) 0 0)],[Bq ts x.2.2],[.row [.agg [.int .i64 0,.int .i64 0,.int .i64 0,.int .i64 0,.nils]] 5 73,.row [.agg [.int .i64 5,.int .i64 0,.int .i64 0,.int .i64 0,.ref (.l 2) 0 x.2.1.length]] 5 73,.row (x.2.1.map tyV) 5 73],[]⟩)
  (fun y=>y.1≤n∧PInv ts y.2.2∧2 * rem ts y.2.2≤y.1∧y.2.1≠[]∧y.2.1.length≤y.2.2.at_∧x=bnd (Ic ts y.1 y.2.1 y.2.2) (fun l s=>bnd (Ah ts [[41]] s) fun _ s=>.ok (.mk 5 0 0 0 l,s))) (fun x=>x.1) (n,[t1,t2],s14) [0,2,3] ⟨Nat.le_refl _,i14,by dsimp only;omega,by simp,by have:=g14.2;have:=g13.2;have:=g12.2;simp only [List.length_cons,List.length_nil];omega,hx⟩ ?_ ?_
 ·exact Conv.all (by simp only [EC,simprocAttr,PRN,TRN,TS,List.map_cons,List.map_nil,List.length_cons,List.length_nil])
 clear hx r14 g14 h14 i14 r13 g13 h13 i13 r12 g12 h12 i12
 rintro ⟨m,acc,s1⟩ ⟨hm,i1,hr,hne,hlen,hx⟩
 dsimp only at hm i1 hr hne hlen hx ⊢
 have hle:=i1.le
 have hlt:=i1.lt
 have hr1:1≤rem ts s1:=by unfold rem;omega
 obtain ⟨m,rfl⟩:∃ k,m=k + 1:=⟨m - 1,by omega⟩
 have Xm:=V9 ts m
 rw [Ic,Ae] at hx
 refine Am fun K3 hK3=>?_
 refine WC.rs fun K hK=>?_
 simp only [↓EJ,FY,simprocAttr]
 refine CallX.acc hx i1 fun b2 s2 h2 hx g2 i2=>?_
 have r2:=g2.rem
 simp only [↓EJ,FY,simprocAttr]
 refine hK _ ?_;clear hK K
 refine WC.cond rfl (fun h=>?_) fun h=>?_
 ·obtain rfl:b2=true:=by simpa using h
  dsimp only at hx
  have q2:=(Bm i1 h2).rem
  refine WC.skip (hK3 _ ?_)
  refine WC.b1 ?_
  refine Dn [⟨0,0,true,[]⟩,⟨1,0,true,[]⟩,⟨2,0,false,[]⟩,⟨3,1,false,[0,1]⟩,⟨4,2,false,[]⟩,⟨5,1,false,[]⟩,⟨6,0,false,[]⟩,⟨7,1,false,[]⟩] [0,1,0,4,12,31,63,127] ?_
  simp only [↓EJ,FY,simprocAttr,TS]
  rw [Ae] at hx
  refine Af hx ((H m (by omega)).1 s2 i2 (by omega)) (by simp only [CL,PCL,TCL,and_self]) (fun v=>by simp only [CL,PCL,TCL,and_self]) fun t s3 h3 hx=>?_
  have g3:=Xm.typ i2 h3
  have i3:=g3.1
  have r3:=g3.rem
  have a2:=g2.2
  have a3:=g3.2
  simp only [↓EJ,FY,simprocAttr,TS]
  refine ⟨by rw [List.length_map],by omega,by omega,?_⟩
  try simp only [EQ,simprocAttr]
  refine ⟨(m,acc ++ [t],s3),[0,1,3],⟨by dsimp only;omega,i3,by dsimp only;omega,by simp,by simp only [List.length_append,List.length_cons,List.length_nil];omega,hx⟩,by dsimp only;omega,?_⟩
  exact Conv.all (by simp only [EC,simprocAttr,PRN,TRN,TS,Aw,List.map_append,List.map_cons,List.map_nil,List.length_append,List.length_cons,List.length_nil])
 ·obtain rfl:b2=false:=by simpa using h
  dsimp only at hx
  simp only [Ay] at hx
  refine WC.exit (hK1 _ ?_)
  refine A2 [1] fun K hK=>?_
  simp only [↓EJ,FY,simprocAttr,EZ]
  refine CallX.exp hx i2 fun u3 s3 h3 hx g3 i3=>?_
  simp only [↓EJ,FY,simprocAttr,EZ]
  refine hK _ ?_;clear hK K
  refine Dy 1 2 4 rfl rfl rfl (by decide) (by simp) ?_
  refine WC.go (Aa [0,2,5] ?_)
  refine WC.ret ?_
  simp only [↓EJ,FY,simprocAttr,EQ,EF,Tryz.results100]
  have hp:tyV (.mk 5 0 0 0 acc)=.agg [.int .i64 5,.int .i64 0,.int .i64 0,.int .i64 0,.slc (List.take acc.length (List.map tyV acc))]:=by
   rw [Jv,P3 hne,List.take_of_length_le (by simp)];rfl
  exact PSem.done (fn:=Tryz.f100) (s:=s3) (v:=.mk 5 0 0 0 acc) hx hp.symm (B2 _) rfl
theorem tAll (ts:List Tok):∀ n,∀ s,PInv ts s→2 * rem ts s + 1≤n→PSem 100 [] ts s (Gu ts n s) tyV:=fun n=>by
 induction n using Nat.strongRecOn with
 | _ n ih =>
   cases n with
   | zero=>exact fun s _ h=>by omega
   | succ n=>exact fun s i h=>typ_step ts n (fun m hm=>⟨ih m (by omega),trivial⟩) s i h
def typG (ts:List Tok) (s:PS):PR Ty:=Gu ts (2 * rem ts s + 1) s
theorem typ_sem (ts:List Tok) (s:PS) (i:PInv ts s):PSem 100 [] ts s (typG ts s) tyV:=tAll ts _ s i (Nat.le_refl _)
theorem typ_up {ts:List Tok} {s s':PS} {e:Ty} (i:PInv ts s) (h:typG ts s=.ok (e,s')):Up ts s s':=(V9 ts _).typ i h
end Go.LexSem
-- CLOSERS: PCL,TCL,DCL
set_option maxHeartbeats 16000000
set_option maxRecDepth 8000
namespace Go.LexSem
open Go Go.V Go.Proofs Go.Num

/-! ### Declarations -/
structure De where
 name:List UInt8
 ty:Ty
def deC (d:De):List PVal:=.str d.name::tyC d.ty
def deV (d:De):PVal:=.agg (deC d)
theorem Qj (d:De):(deC d).length=6:=by simp [deC,P4]
theorem F5 (d:De):Closed (deV d):=of_eq_true (by simp only [deV,deC,CL,TCL,and_self])
theorem DCL:(∀ d,Closed (deV d)=True)∧(∀ d,ClosedL (deC d)=True)∧(∀ l:List De,ClosedL (l.map deV)=True) :=
 ⟨fun d=>eq_true (F5 d),fun d=>by simp only [deC,CL,TCL,and_self],fun l=>eq_true (ClosedL.map (fun d=>F5 d) l)⟩
theorem DRN:(∀ f d,Ba f (deC d)=deC d)∧(∀ f (l:List De),Ba f (l.map deV)=l.map deV):=⟨fun f d=>of_eq_true (DCL.2.1 d) f,fun f l=>of_eq_true (DCL.2.2 l) f⟩
theorem DS:(∀ d,deV d=.agg (deC d))∧(∀ d,(deC d).length=6)∧(∀ d,List.take 6 (deC d)=deC d)∧(∀ d,List.drop 6 (deC d)=[]) :=
 ⟨fun _=>rfl,Qj,fun e=>List.take_of_length_le (by rw [Qj];exact Nat.le_refl _),fun e=>List.drop_of_length_le (by rw [Qj];exact Nat.le_refl _)⟩
def N8 (ts:List Tok) (s:PS):PR De:=bnd (C2 ts s) fun w s=>bnd (Ah ts [[58]] s) fun _ s=>bnd (typG ts s) fun t s=>.ok (⟨w,t⟩,s)
theorem F6 {ts:List Tok} {s s':PS} {e:De} (i:PInv ts s) (h:N8 ts s=.ok (e,s')):Up ts s s':=by
 unfold N8 at h
 obtain ⟨_,s1,h1,h⟩:=Ac h
 obtain ⟨_,s2,h2,h⟩:=Ac h
 obtain ⟨_,s3,h3,h⟩:=Ac h
 cases h
 have g1:=B9 i h1
 have g2:=A6 g1.1 h2
 exact g1.trans (g2.ge.trans (typ_up g2.1 h3).ge)
theorem Ha (ts:List Tok) (s0:PS) (i0:PInv ts s0):PSem 67 [] ts s0 (N8 ts s0) deV:=by
 obtain ⟨x,hx⟩:∃ x,x=N8 ts s0:=⟨_,rfl⟩
 rw [←hx]
 unfold N8 at hx
 unfold PSem
 refine FSem.en 14 Tryz.func67 ?_
 simp only [Aj]
 refine WC.go ?_
 refine WC.rs fun K hK=>?_
 simp only [↓EJ,FY,simprocAttr]
 refine Af hx (C4 ts s0 i0) (by simp only [CL,PCL,TCL,DCL,and_self]) (fun v=>by simp only [CL,PCL,TCL,DCL,and_self]) fun w s1 h1 hx=>?_
 have g1:=B9 i0 h1
 have i1:=g1.1
 simp only [↓EJ,FY,simprocAttr,TS]
 refine hK _ ?_;clear hK K
 refine A2 [1] fun K hK=>?_
 simp only [↓EJ,FY,simprocAttr,EZ]
 refine CallX.exp hx i1 fun u2 s2 h2 hx g2 i2=>?_
 simp only [↓EJ,FY,simprocAttr,EZ]
 refine hK _ (Aa [0,2,3] ?_);clear hK K
 refine WC.rs fun K hK=>?_
 simp only [↓EJ,FY,simprocAttr]
 refine Af hx (typ_sem ts s2 i2) (by simp only [CL,PCL,TCL,DCL,and_self]) (fun v=>by simp only [CL,PCL,TCL,DCL,and_self]) fun t s3 h3 hx=>?_
 have g3:=typ_up i2 h3
 have i3:=g3.1
 simp only [↓EJ,FY,simprocAttr,TS]
 refine hK _ ?_;clear hK K
 refine WC.rs fun K hK=>?_
 simp only [↓EJ,FY,simprocAttr,TS]
 refine hK _ ?_;clear hK K
 refine WC.ret ?_
 simp only [↓EJ,FY,simprocAttr,EQ,EF,Tryz.results67,TS]
 exact PSem.done (fn:=Tryz.f67) (s:=s3) (v:=⟨w,t⟩) hx rfl (of_eq_true (by simp only [CL,PCL,TCL,DCL,and_self])) rfl
end Go.LexSem
-- CLOSERS: PCL,TCL,DCL,FCL
set_option maxHeartbeats 16000000
set_option maxRecDepth 8000
namespace Go.LexSem
open Go Go.V Go.Proofs Go.Num

theorem FCL:(∀ q,Closed (Aag q)=True):=fun q=>eq_true (Hy _ _ _)
theorem frac_inv {ts:List Tok} {s s':PS} {q:Bool × Nat × Nat} (i:PInv ts s) (h:Dm ts s=.ok (q,s')):Up ts s s'∧q.2.2≠0:=by
 have hdiv:∀ n d:Nat,d≠0→d / n.gcd d≠0:=fun n d hd=>by
  have h1:n.gcd d≤d:=Nat.gcd_le_right n (by omega)
  have h2:0 < n.gcd d:=Nat.gcd_pos_of_pos_right n (by omega)
  have:=Nat.div_pos h1 h2
  omega
 unfold Dm at h
 split at h
 ·cases h
 ·rename_i b s1 h1
  have g1:=A7 i h1
  split at h
  ·cases h
  ·rename_i n s2 h2
   obtain ⟨rfl,hk,_,_⟩:=Ea g1.1 h2
   have g3:=M0 g1.1 (by omega)
   split at h
   ·cases h
   ·rename_i s3 h3
    cases h
    exact ⟨g1.up (g3.trans (A7 g3.1 h3)),hdiv n 1 (by decide)⟩
   ·rename_i s3 h3
    have g4:=A7 g3.1 h3
    split at h
    ·cases h
    ·rename_i d s4 h4
     cases h
     obtain ⟨i5,h5,h6,_⟩:=F4 g4.1 h4
     refine ⟨g1.up (g3.trans (g4.trans ⟨i5,by omega⟩)),hdiv n d h6⟩
theorem J7 {ts:List Tok} {s s':PS} {q:Bool × Nat × Nat} (i:PInv ts s) (h:Dm ts s=.ok (q,s')):Up ts s s':=(frac_inv i h).1
theorem Rv {ts:List Tok} {s s':PS} {q:Bool × Nat × Nat} (h:Dm ts s=.ok (q,s')):Aag q=.agg [.bool q.1,A8 q.2.1,A8 q.2.2]:=by
 have h0:q.2.2≠0:=by
  have hdiv:∀ n d:Nat,d≠0→d / n.gcd d≠0:=fun n d hd=>by
   have h1:n.gcd d≤d:=Nat.gcd_le_right n (by omega)
   have h2:0 < n.gcd d:=Nat.gcd_pos_of_pos_right n (by omega)
   have:=Nat.div_pos h1 h2
   omega
  unfold Dm at h
  split at h
  ·cases h
  ·split at h
   ·cases h
   ·rename_i n s2 h2
    split at h
    ·cases h
    ·cases h;exact hdiv n 1 (by decide)
    ·split at h
     ·cases h
     ·rename_i d s4 h4
      cases h
      refine hdiv n d ?_
      unfold Gs at h4
      split at h4
      ·cases h4
      ·split at h4
       ·cases h4
       ·cases h4;assumption
 rw [Aab h0];rfl
/-! ### Draws -/
structure Dr where
 kind:Nat
 low:Int
 high:Int
 from_:Rt
 to_:Rt
 probs:List Ex
 name:List UInt8
def drC (d:Dr):List PVal:=[.int .i64 d.kind,.int .i64 d.low,.int .i64 d.high,.bool d.from_.1,A8 d.from_.2.1,A8 d.from_.2.2,.bool d.to_.1,A8 d.to_.2.1,A8 d.to_.2.2,Dv d.probs,.str d.name]
def drV (d:Dr):PVal:=.agg (drC d)
theorem U8 (d:Dr):(drC d).length=11:=rfl
theorem J9 (d:Dr):Closed (drV d):=of_eq_true (by simp only [drV,drC,CL,PCL,and_self])
theorem RCL:(∀ d,Closed (drV d)=True)∧(∀ d,ClosedL (drC d)=True):=⟨fun d=>eq_true (J9 d),fun d=>by simp only [drC,CL,PCL,and_self]⟩
def Ow (ts:List Tok) (s:PS):PR Dr:=bnd (Ak ts [102,108,105,112] s) fun b s=>match b with
 | true=>bnd (Ah ts [[40]] s) fun _ s=>bnd (Hr ts s) fun e s=>.ok (⟨1,0,0,zr,zr,[e],[]⟩,s)
 | false=>bnd (Ak ts [117,110,105,102,111,114,109] s) fun b s=>match b with
 | true=>bnd (Ah ts [[40]] s) fun _ s=>bnd (Cj ts s) fun lo s=>bnd (Ah ts [[44]] s) fun _ s=>bnd (Cj ts s) fun hi s=>.ok (⟨2,lo,hi,zr,zr,[],[]⟩,s)
 | false=>bnd (Ak ts [116,97,98,108,101] s) fun b s=>match b with
 | true=>bnd (Ah ts [[40]] s) fun _ s=>bnd (Cj ts s) fun lo s=>bnd (Ah ts [[59]] s) fun _ s=>bnd (Iq ts s) fun l s=>.ok (⟨3,lo,0,zr,zr,l,[]⟩,s)
 | false=>bnd (Ak ts [98,105,110,111,109,105,97,108] s) fun b s=>match b with
 | true=>bnd (Ah ts [[40]] s) fun _ s=>bnd (Bu ts s) fun hi s=>bnd (Ah ts [[44]] s) fun _ s=>bnd (Hr ts s) fun e s=>.ok (⟨4,0,hi,zr,zr,[e],[]⟩,s)
 | false=>bnd (Ak ts [103,101,111,109,101,116,114,105,99] s) fun b s=>match b with
 | true=>bnd (Ah ts [[40]] s) fun _ s=>bnd (Dm ts s) fun q s=>.ok (⟨5,0,0,q,zr,[],[]⟩,s)
 | false=>bnd (Ak ts [105,110,116,101,114,118,97,108] s) fun b s=>match b with
 | true=>bnd (Ah ts [[40]] s) fun _ s=>bnd (Dm ts s) fun q s=>bnd (Ah ts [[44]] s) fun _ s=>bnd (Dm ts s) fun q2 s=>.ok (⟨6,0,0,q,q2,[],[]⟩,s)
 | false=>bnd (Ak ts [98,101,116,97] s) fun b s=>match b with
 | true=>bnd (Ah ts [[40]] s) fun _ s=>bnd (Bu ts s) fun lo s=>bnd (Ah ts [[44]] s) fun _ s=>bnd (Bu ts s) fun hi s=>.ok (⟨7,lo,hi,zr,zr,[],[]⟩,s)
 | false=>.error (Gr (cur ts s) 4)
def Hs (ts:List Tok) (s:PS):PR Dr:=bnd (Ak ts [112,111,115,116,101,114,105,111,114] s) fun b s=>match b with
 | true=>bnd (C2 ts s) fun w s=>.ok (⟨8,0,0,zr,zr,[],w⟩,s)
 | false=>bnd (Ow ts s) fun d s=>bnd (Ah ts [[41]] s) fun _ s=>.ok (d,s)
theorem drawIn_ge {ts:List Tok} {s s':PS} {d:Dr} (i:PInv ts s) (h:Ow ts s=.ok (d,s')):Ge ts s s':=by
 unfold Ow at h
 obtain ⟨b,s0,h0,h⟩:=Ac h
 have g0:=A7 i h0
 cases b
 rotate_left
 ·obtain ⟨_,t0,k0,h⟩:=Ac h
  have q0:=A6 g0.1 k0
  obtain ⟨_,t1,k1,h⟩:=Ac h
  have q1:=E2 q0.1 k1
  cases h
  exact g0.trans (q0.ge.trans (q1.ge))
 refine g0.trans ?_
 obtain ⟨b,s1,h1,h⟩:=Ac h
 have g1:=A7 g0.1 h1
 cases b
 rotate_left
 ·obtain ⟨_,t0,k0,h⟩:=Ac h
  have q0:=A6 g1.1 k0
  obtain ⟨_,t1,k1,h⟩:=Ac h
  have q1:=Io q0.1 k1
  obtain ⟨_,t2,k2,h⟩:=Ac h
  have q2:=A6 q1.1 k2
  obtain ⟨_,t3,k3,h⟩:=Ac h
  have q3:=Io q2.1 k3
  cases h
  exact g1.trans (q0.ge.trans (q1.ge.trans (q2.ge.trans (q3.ge))))
 refine g1.trans ?_
 obtain ⟨b,s2,h2,h⟩:=Ac h
 have g2:=A7 g1.1 h2
 cases b
 rotate_left
 ·obtain ⟨_,t0,k0,h⟩:=Ac h
  have q0:=A6 g2.1 k0
  obtain ⟨_,t1,k1,h⟩:=Ac h
  have q1:=Io q0.1 k1
  obtain ⟨_,t2,k2,h⟩:=Ac h
  have q2:=A6 q1.1 k2
  obtain ⟨_,t3,k3,h⟩:=Ac h
  have q3:=Nz q2.1 k3
  cases h
  exact g2.trans (q0.ge.trans (q1.ge.trans (q2.ge.trans (q3.ge))))
 refine g2.trans ?_
 obtain ⟨b,s3,h3,h⟩:=Ac h
 have g3:=A7 g2.1 h3
 cases b
 rotate_left
 ·obtain ⟨_,t0,k0,h⟩:=Ac h
  have q0:=A6 g3.1 k0
  obtain ⟨_,t1,k1,h⟩:=Ac h
  have q1:=Ey q0.1 k1
  obtain ⟨_,t2,k2,h⟩:=Ac h
  have q2:=A6 q1.1 k2
  obtain ⟨_,t3,k3,h⟩:=Ac h
  have q3:=E2 q2.1 k3
  cases h
  exact g3.trans (q0.ge.trans (q1.ge.trans (q2.ge.trans (q3.ge))))
 refine g3.trans ?_
 obtain ⟨b,s4,h4,h⟩:=Ac h
 have g4:=A7 g3.1 h4
 cases b
 rotate_left
 ·obtain ⟨_,t0,k0,h⟩:=Ac h
  have q0:=A6 g4.1 k0
  obtain ⟨_,t1,k1,h⟩:=Ac h
  have q1:=J7 q0.1 k1
  cases h
  exact g4.trans (q0.ge.trans (q1.ge))
 refine g4.trans ?_
 obtain ⟨b,s5,h5,h⟩:=Ac h
 have g5:=A7 g4.1 h5
 cases b
 rotate_left
 ·obtain ⟨_,t0,k0,h⟩:=Ac h
  have q0:=A6 g5.1 k0
  obtain ⟨_,t1,k1,h⟩:=Ac h
  have q1:=J7 q0.1 k1
  obtain ⟨_,t2,k2,h⟩:=Ac h
  have q2:=A6 q1.1 k2
  obtain ⟨_,t3,k3,h⟩:=Ac h
  have q3:=J7 q2.1 k3
  cases h
  exact g5.trans (q0.ge.trans (q1.ge.trans (q2.ge.trans (q3.ge))))
 refine g5.trans ?_
 obtain ⟨b,s6,h6,h⟩:=Ac h
 have g6:=A7 g5.1 h6
 cases b
 rotate_left
 ·obtain ⟨_,t0,k0,h⟩:=Ac h
  have q0:=A6 g6.1 k0
  obtain ⟨_,t1,k1,h⟩:=Ac h
  have q1:=Ey q0.1 k1
  obtain ⟨_,t2,k2,h⟩:=Ac h
  have q2:=A6 q1.1 k2
  obtain ⟨_,t3,k3,h⟩:=Ac h
  have q3:=Ey q2.1 k3
  cases h
  exact g6.trans (q0.ge.trans (q1.ge.trans (q2.ge.trans (q3.ge))))
 refine g6.trans ?_
 cases h
theorem Aam {ts:List Tok} {s s':PS} {d:Dr} (i:PInv ts s) (h:Hs ts s=.ok (d,s')):Up ts s s':=by
 unfold Hs at h
 obtain ⟨b,s1,h1,h⟩:=Ac h
 have g1:=A7 i h1
 cases b
 ·obtain ⟨_,s2,h2,h⟩:=Ac h
  obtain ⟨_,s3,h3,h⟩:=Ac h
  cases h
  have g2:=drawIn_ge g1.1 h2
  exact g1.up (g2.up (A6 g2.1 h3))
 ·obtain ⟨_,s2,h2,h⟩:=Ac h
  cases h
  exact g1.up (B9 g1.1 h2)
end Go.LexSem
-- CLOSERS: PCL,TCL,DCL,FCL,RCL
set_option maxHeartbeats 16000000
-- NEST
set_option maxRecDepth 8000
namespace Go.LexSem
open Go Go.V Go.Proofs Go.Num

theorem draw_sem (ts:List Tok) (s0:PS) (i0:PInv ts s0):PSem 127 [] ts s0 (Hs ts s0) drV:=by
 obtain ⟨x,hx⟩:∃ x,x=Hs ts s0:=⟨_,rfl⟩
 rw [←hx]
 unfold Hs Ow at hx
 unfold PSem
 refine FSem.en 111 Tryz.func127 ?_
 simp only [Aj]
 refine WC.go ?_
 refine WC.go ?_
 refine WC.bs fun K0 hK0=>?_
 refine WC.rs fun K hK=>?_
 simp only [↓EJ,FY,simprocAttr]
 repeat rw [Ae] at hx
 refine CallX.acc hx i0 fun b1 s1 h1 hx g1 i1=>?_
 simp only [↓EJ,FY,simprocAttr]
 refine hK _ ?_;clear hK K
 refine WC.cond rfl (fun h=>?_) fun h=>?_
 ·obtain rfl:b1=true:=by simpa using h
  dsimp only at hx
  refine WC.rs fun K hK=>?_
  simp only [↓EJ,FY,simprocAttr]
  repeat rw [Ae] at hx
  refine Af hx (C4 ts s1 i1) (by simp only [CL,PCL,TCL,DCL,FCL,RCL,and_self]) (fun v=>by simp only [CL,PCL,TCL,DCL,FCL,RCL,and_self]) fun w s11 h11 hx=>?_
  have g11:=B9 i1 h11
  have i11:=g11.1
  simp only [↓EJ,FY,simprocAttr,TS]
  refine hK _ (Aa [0,2,3,12,22,37,52,68,77,92] ?_);clear hK K
  refine WC.ret ?_
  simp only [↓EJ,FY,simprocAttr,EQ,EF,Tryz.results127,TS]
  exact PSem.done (fn:=Tryz.f127) (s:=s11) (v:=⟨8,0,0,zr,zr,[],w⟩) hx rfl (of_eq_true (by simp only [CL,PCL,TCL,DCL,FCL,RCL,and_self])) rfl
 obtain rfl:b1=false:=by simpa using h
 dsimp only at hx
 refine WC.rs fun K hK=>?_
 simp only [↓EJ,FY,simprocAttr]
 repeat rw [Ae] at hx
 refine CallX.acc hx i1 fun b2 s2 h2 hx g2 i2=>?_
 simp only [↓EJ,FY,simprocAttr]
 refine hK _ ?_;clear hK K
 refine WC.cond rfl (fun h=>?_) fun h=>?_
 ·obtain rfl:b2=true:=by simpa using h
  dsimp only at hx
  refine A2 [1] fun K hK=>?_
  simp only [↓EJ,FY,simprocAttr,EZ]
  repeat rw [Ae] at hx
  refine CallX.exp hx i2 fun u11 s11 h11 hx g11 i11=>?_
  simp only [↓EJ,FY,simprocAttr,EZ]
  refine hK _ (Aa [0,2,3,22,37,52,68,77,92] ?_);clear hK K
  refine F9 [2] ?_
  simp only [↓EJ,FY,simprocAttr,EZ]
  repeat rw [Ae] at hx
  refine Af hx (Ir ts s11 i11) (by simp only [CL,PCL,TCL,DCL,FCL,RCL,and_self]) (fun v=>by simp only [CL,PCL,TCL,DCL,FCL,RCL,and_self]) fun e s12 h12 hx=>?_
  have g12:=E2 i11 h12
  have i12:=g12.1
  simp only [↓EJ,FY,simprocAttr,EZ,TS,XS]
  refine hK0 _ ?_
  refine A2 [1] fun K hK=>?_
  simp only [↓EJ,FY,simprocAttr,EZ]
  repeat rw [Ae] at hx
  refine CallX.exp hx i12 fun u31 s31 h31 hx g31 i31=>?_
  simp only [↓EJ,FY,simprocAttr,EZ]
  refine hK _ ?_;clear hK K
  refine WC.rs fun K hK=>?_
  simp only [↓EJ,FY,simprocAttr,TS]
  refine hK _ ?_;clear hK K
  refine WC.ret ?_
  simp only [↓EJ,FY,simprocAttr,EQ,EF,Tryz.results127,TS]
  exact PSem.done (fn:=Tryz.f127) (s:=s31) (v:=⟨1,0,0,zr,zr,[e],[]⟩) hx rfl (of_eq_true (by simp only [CL,PCL,TCL,DCL,FCL,RCL,and_self])) rfl
 obtain rfl:b2=false:=by simpa using h
 dsimp only at hx
 refine WC.rs fun K hK=>?_
 simp only [↓EJ,FY,simprocAttr]
 repeat rw [Ae] at hx
 refine CallX.acc hx i2 fun b3 s3 h3 hx g3 i3=>?_
 simp only [↓EJ,FY,simprocAttr]
 refine hK _ (Aa [0,2,3,22,37,52,68,77,92] ?_);clear hK K
 refine WC.cond rfl (fun h=>?_) fun h=>?_
 ·obtain rfl:b3=true:=by simpa using h
  dsimp only at hx
  refine A2 [1] fun K hK=>?_
  simp only [↓EJ,FY,simprocAttr,EZ]
  repeat rw [Ae] at hx
  refine CallX.exp hx i3 fun u11 s11 h11 hx g11 i11=>?_
  simp only [↓EJ,FY,simprocAttr,EZ]
  refine hK _ ?_;clear hK K
  refine WC.rs fun K hK=>?_
  simp only [↓EJ,FY,simprocAttr]
  repeat rw [Ae] at hx
  refine Af hx (Hh ts s11 i11) (by simp only [CL,PCL,TCL,DCL,FCL,RCL,and_self]) (fun v=>by simp only [CL,PCL,TCL,DCL,FCL,RCL,and_self]) fun lo s12 h12 hx=>?_
  have g12:=Io i11 h12
  have i12:=g12.1
  simp only [↓EJ,FY,simprocAttr,TS]
  refine hK _ (Aa [0,2,3,37,52,68,77,92] ?_);clear hK K
  refine A2 [1] fun K hK=>?_
  simp only [↓EJ,FY,simprocAttr,EZ]
  repeat rw [Ae] at hx
  refine CallX.exp hx i12 fun u13 s13 h13 hx g13 i13=>?_
  simp only [↓EJ,FY,simprocAttr,EZ]
  refine hK _ ?_;clear hK K
  refine WC.r1 ?_
  simp only [↓EJ,FY,simprocAttr,TS]
  repeat rw [Ae] at hx
  refine Af hx (Hh ts s13 i13) (by simp only [CL,PCL,TCL,DCL,FCL,RCL,and_self]) (fun v=>by simp only [CL,PCL,TCL,DCL,FCL,RCL,and_self]) fun hi s14 h14 hx=>?_
  have g14:=Io i13 h14
  have i14:=g14.1
  simp only [↓EJ,FY,simprocAttr,TS]
  refine hK0 _ ?_
  refine A2 [1] fun K hK=>?_
  simp only [↓EJ,FY,simprocAttr,EZ]
  repeat rw [Ae] at hx
  refine CallX.exp hx i14 fun u31 s31 h31 hx g31 i31=>?_
  simp only [↓EJ,FY,simprocAttr,EZ]
  refine hK _ (Aa [2,3] ?_);clear hK K
  refine WC.rs fun K hK=>?_
  simp only [↓EJ,FY,simprocAttr,TS]
  refine hK _ ?_;clear hK K
  refine WC.ret ?_
  simp only [↓EJ,FY,simprocAttr,EQ,EF,Tryz.results127,TS]
  exact PSem.done (fn:=Tryz.f127) (s:=s31) (v:=⟨2,lo,hi,zr,zr,[],[]⟩) hx rfl (of_eq_true (by simp only [CL,PCL,TCL,DCL,FCL,RCL,and_self])) rfl
 obtain rfl:b3=false:=by simpa using h
 dsimp only at hx
 refine WC.rs fun K hK=>?_
 simp only [↓EJ,FY,simprocAttr]
 repeat rw [Ae] at hx
 refine CallX.acc hx i3 fun b4 s4 h4 hx g4 i4=>?_
 simp only [↓EJ,FY,simprocAttr]
 refine hK _ ?_;clear hK K
 refine WC.cond rfl (fun h=>?_) fun h=>?_
 ·obtain rfl:b4=true:=by simpa using h
  dsimp only at hx
  refine A2 [1] fun K hK=>?_
  simp only [↓EJ,FY,simprocAttr,EZ]
  repeat rw [Ae] at hx
  refine CallX.exp hx i4 fun u11 s11 h11 hx g11 i11=>?_
  simp only [↓EJ,FY,simprocAttr,EZ]
  refine hK _ (Aa [0,2,3,52,68,77,92] ?_);clear hK K
  refine WC.rs fun K hK=>?_
  simp only [↓EJ,FY,simprocAttr]
  repeat rw [Ae] at hx
  refine Af hx (Hh ts s11 i11) (by simp only [CL,PCL,TCL,DCL,FCL,RCL,and_self]) (fun v=>by simp only [CL,PCL,TCL,DCL,FCL,RCL,and_self]) fun lo s12 h12 hx=>?_
  have g12:=Io i11 h12
  have i12:=g12.1
  simp only [↓EJ,FY,simprocAttr,TS]
  refine hK _ ?_;clear hK K
  refine A2 [1] fun K hK=>?_
  simp only [↓EJ,FY,simprocAttr,EZ]
  repeat rw [Ae] at hx
  refine CallX.exp hx i12 fun u13 s13 h13 hx g13 i13=>?_
  simp only [↓EJ,FY,simprocAttr,EZ]
  refine hK _ (Aa [0,2,3,52,68,77,92] ?_);clear hK K
  refine WC.r1 ?_
  simp only [↓EJ,FY,simprocAttr,TS]
  repeat rw [Ae] at hx
  refine Af hx (Tp ts s13 i13) (by simp only [CL,PCL,TCL,DCL,FCL,RCL,and_self]) (fun v=>by simp only [CL,PCL,TCL,DCL,FCL,RCL,and_self]) fun l s14 h14 hx=>?_
  have g14:=Nz i13 h14
  have i14:=g14.1
  simp only [↓EJ,FY,simprocAttr,TS,Bc]
  refine hK0 _ ?_
  refine A2 [1] fun K hK=>?_
  simp only [↓EJ,FY,simprocAttr,EZ]
  repeat rw [Ae] at hx
  refine CallX.exp hx i14 fun u31 s31 h31 hx g31 i31=>?_
  simp only [↓EJ,FY,simprocAttr,EZ]
  refine hK _ ?_;clear hK K
  refine WC.rs fun K hK=>?_
  simp only [↓EJ,FY,simprocAttr,TS]
  refine hK _ ?_;clear hK K
  refine WC.ret ?_
  simp only [↓EJ,FY,simprocAttr,EQ,EF,Tryz.results127,TS]
  exact PSem.done (fn:=Tryz.f127) (s:=s31) (v:=⟨3,lo,0,zr,zr,l,[]⟩) hx rfl (of_eq_true (by simp only [CL,PCL,TCL,DCL,FCL,RCL,and_self])) rfl
 obtain rfl:b4=false:=by simpa using h
 dsimp only at hx
 refine WC.rs fun K hK=>?_
 simp only [↓EJ,FY,simprocAttr]
 repeat rw [Ae] at hx
 refine CallX.acc hx i4 fun b5 s5 h5 hx g5 i5=>?_
 simp only [↓EJ,FY,simprocAttr]
 refine hK _ (Aa [0,2,3,52,68,77,92] ?_);clear hK K
 refine WC.cond rfl (fun h=>?_) fun h=>?_
 ·obtain rfl:b5=true:=by simpa using h
  dsimp only at hx
  refine A2 [1] fun K hK=>?_
  simp only [↓EJ,FY,simprocAttr,EZ]
  repeat rw [Ae] at hx
  refine CallX.exp hx i5 fun u11 s11 h11 hx g11 i11=>?_
  simp only [↓EJ,FY,simprocAttr,EZ]
  refine hK _ ?_;clear hK K
  refine WC.rs fun K hK=>?_
  simp only [↓EJ,FY,simprocAttr]
  repeat rw [Ae] at hx
  refine Af hx (D2 ts s11 i11) (by simp only [CL,PCL,TCL,DCL,FCL,RCL,and_self]) (fun v=>by simp only [CL,PCL,TCL,DCL,FCL,RCL,and_self]) fun hi s12 h12 hx=>?_
  have g12:=Ey i11 h12
  have i12:=g12.1
  simp only [↓EJ,FY,simprocAttr,TS]
  refine hK _ (Aa [0,2,3,68,77,92] ?_);clear hK K
  refine A2 [1] fun K hK=>?_
  simp only [↓EJ,FY,simprocAttr,EZ]
  repeat rw [Ae] at hx
  refine CallX.exp hx i12 fun u13 s13 h13 hx g13 i13=>?_
  simp only [↓EJ,FY,simprocAttr,EZ]
  refine hK _ ?_;clear hK K
  refine F9 [2] ?_
  simp only [↓EJ,FY,simprocAttr,EZ]
  repeat rw [Ae] at hx
  refine Af hx (Ir ts s13 i13) (by simp only [CL,PCL,TCL,DCL,FCL,RCL,and_self]) (fun v=>by simp only [CL,PCL,TCL,DCL,FCL,RCL,and_self]) fun e s14 h14 hx=>?_
  have g14:=E2 i13 h14
  have i14:=g14.1
  simp only [↓EJ,FY,simprocAttr,EZ,TS,XS]
  refine hK0 _ ?_
  refine A2 [1] fun K hK=>?_
  simp only [↓EJ,FY,simprocAttr,EZ]
  repeat rw [Ae] at hx
  refine CallX.exp hx i14 fun u31 s31 h31 hx g31 i31=>?_
  simp only [↓EJ,FY,simprocAttr,EZ]
  refine hK _ (Aa [2,3] ?_);clear hK K
  refine WC.rs fun K hK=>?_
  simp only [↓EJ,FY,simprocAttr,TS]
  refine hK _ ?_;clear hK K
  refine WC.ret ?_
  simp only [↓EJ,FY,simprocAttr,EQ,EF,Tryz.results127,TS]
  exact PSem.done (fn:=Tryz.f127) (s:=s31) (v:=⟨4,0,hi,zr,zr,[e],[]⟩) hx rfl (of_eq_true (by simp only [CL,PCL,TCL,DCL,FCL,RCL,and_self])) rfl
 obtain rfl:b5=false:=by simpa using h
 dsimp only at hx
 refine WC.rs fun K hK=>?_
 simp only [↓EJ,FY,simprocAttr]
 repeat rw [Ae] at hx
 refine CallX.acc hx i5 fun b6 s6 h6 hx g6 i6=>?_
 simp only [↓EJ,FY,simprocAttr]
 refine hK _ ?_;clear hK K
 refine WC.cond rfl (fun h=>?_) fun h=>?_
 ·obtain rfl:b6=true:=by simpa using h
  dsimp only at hx
  refine A2 [1] fun K hK=>?_
  simp only [↓EJ,FY,simprocAttr,EZ]
  repeat rw [Ae] at hx
  refine CallX.exp hx i6 fun u11 s11 h11 hx g11 i11=>?_
  simp only [↓EJ,FY,simprocAttr,EZ]
  refine hK _ (Aa [0,2,3,77,92] ?_);clear hK K
  refine WC.r1 ?_
  simp only [↓EJ,FY,simprocAttr]
  repeat rw [Ae] at hx
  refine Af hx (J6 ts s11 i11) (by simp only [CL,PCL,TCL,DCL,FCL,RCL,and_self]) (fun v=>by simp only [CL,PCL,TCL,DCL,FCL,RCL,and_self]) fun q s12 h12 hx=>?_
  have g12:=J7 i11 h12
  have i12:=g12.1
  have hq:=Rv h12
  simp only [↓EJ,FY,simprocAttr,hq,TS]
  refine hK0 _ ?_
  refine A2 [1] fun K hK=>?_
  simp only [↓EJ,FY,simprocAttr,EZ]
  repeat rw [Ae] at hx
  refine CallX.exp hx i12 fun u31 s31 h31 hx g31 i31=>?_
  simp only [↓EJ,FY,simprocAttr,EZ]
  refine hK _ ?_;clear hK K
  refine WC.rs fun K hK=>?_
  simp only [↓EJ,FY,simprocAttr,TS]
  refine hK _ ?_;clear hK K
  refine WC.ret ?_
  simp only [↓EJ,FY,simprocAttr,EQ,EF,Tryz.results127,TS]
  exact PSem.done (fn:=Tryz.f127) (s:=s31) (v:=⟨5,0,0,q,zr,[],[]⟩) hx rfl (of_eq_true (by simp only [CL,PCL,TCL,DCL,FCL,RCL,and_self])) rfl
 obtain rfl:b6=false:=by simpa using h
 dsimp only at hx
 refine WC.rs fun K hK=>?_
 simp only [↓EJ,FY,simprocAttr]
 repeat rw [Ae] at hx
 refine CallX.acc hx i6 fun b7 s7 h7 hx g7 i7=>?_
 simp only [↓EJ,FY,simprocAttr]
 refine hK _ (Aa [0,2,3,77,92] ?_);clear hK K
 refine WC.cond rfl (fun h=>?_) fun h=>?_
 ·obtain rfl:b7=true:=by simpa using h
  dsimp only at hx
  refine A2 [1] fun K hK=>?_
  simp only [↓EJ,FY,simprocAttr,EZ]
  repeat rw [Ae] at hx
  refine CallX.exp hx i7 fun u11 s11 h11 hx g11 i11=>?_
  simp only [↓EJ,FY,simprocAttr,EZ]
  refine hK _ ?_;clear hK K
  refine WC.rs fun K hK=>?_
  simp only [↓EJ,FY,simprocAttr]
  repeat rw [Ae] at hx
  refine Af hx (J6 ts s11 i11) (by simp only [CL,PCL,TCL,DCL,FCL,RCL,and_self]) (fun v=>by simp only [CL,PCL,TCL,DCL,FCL,RCL,and_self]) fun q s12 h12 hx=>?_
  have g12:=J7 i11 h12
  have i12:=g12.1
  have hq:=Rv h12
  simp only [↓EJ,FY,simprocAttr,hq,TS]
  refine hK _ (Aa [0,2,3,92] ?_);clear hK K
  refine A2 [1] fun K hK=>?_
  simp only [↓EJ,FY,simprocAttr,EZ]
  repeat rw [Ae] at hx
  refine CallX.exp hx i12 fun u13 s13 h13 hx g13 i13=>?_
  simp only [↓EJ,FY,simprocAttr,EZ]
  refine hK _ ?_;clear hK K
  refine WC.r1 ?_
  simp only [↓EJ,FY,simprocAttr]
  repeat rw [Ae] at hx
  refine Af hx (J6 ts s13 i13) (by simp only [CL,PCL,TCL,DCL,FCL,RCL,and_self]) (fun v=>by simp only [CL,PCL,TCL,DCL,FCL,RCL,and_self]) fun q2 s14 h14 hx=>?_
  have g14:=J7 i13 h14
  have i14:=g14.1
  have hq2:=Rv h14
  simp only [↓EJ,FY,simprocAttr,hq2,TS]
  refine hK0 _ ?_
  refine A2 [1] fun K hK=>?_
  simp only [↓EJ,FY,simprocAttr,EZ]
  repeat rw [Ae] at hx
  refine CallX.exp hx i14 fun u31 s31 h31 hx g31 i31=>?_
  simp only [↓EJ,FY,simprocAttr,EZ]
  refine hK _ (Aa [2,3] ?_);clear hK K
  refine WC.rs fun K hK=>?_
  simp only [↓EJ,FY,simprocAttr,TS]
  refine hK _ ?_;clear hK K
  refine WC.ret ?_
  simp only [↓EJ,FY,simprocAttr,EQ,EF,Tryz.results127,TS]
  exact PSem.done (fn:=Tryz.f127) (s:=s31) (v:=⟨6,0,0,q,q2,[],[]⟩) hx rfl (of_eq_true (by simp only [CL,PCL,TCL,DCL,FCL,RCL,and_self])) rfl
 obtain rfl:b7=false:=by simpa using h
 dsimp only at hx
 refine WC.rs fun K hK=>?_
 simp only [↓EJ,FY,simprocAttr]
 repeat rw [Ae] at hx
 refine CallX.acc hx i7 fun b8 s8 h8 hx g8 i8=>?_
 simp only [↓EJ,FY,simprocAttr]
 refine hK _ ?_;clear hK K
 refine WC.cond rfl (fun h=>?_) fun h=>?_
 ·obtain rfl:b8=true:=by simpa using h
  dsimp only at hx
  refine A2 [1] fun K hK=>?_
  simp only [↓EJ,FY,simprocAttr,EZ]
  repeat rw [Ae] at hx
  refine CallX.exp hx i8 fun u11 s11 h11 hx g11 i11=>?_
  simp only [↓EJ,FY,simprocAttr,EZ]
  refine hK _ (Aa [0,2,3] ?_);clear hK K
  refine WC.rs fun K hK=>?_
  simp only [↓EJ,FY,simprocAttr]
  repeat rw [Ae] at hx
  refine Af hx (D2 ts s11 i11) (by simp only [CL,PCL,TCL,DCL,FCL,RCL,and_self]) (fun v=>by simp only [CL,PCL,TCL,DCL,FCL,RCL,and_self]) fun lo s12 h12 hx=>?_
  have g12:=Ey i11 h12
  have i12:=g12.1
  simp only [↓EJ,FY,simprocAttr,TS]
  refine hK _ ?_;clear hK K
  refine A2 [1] fun K hK=>?_
  simp only [↓EJ,FY,simprocAttr,EZ]
  repeat rw [Ae] at hx
  refine CallX.exp hx i12 fun u13 s13 h13 hx g13 i13=>?_
  simp only [↓EJ,FY,simprocAttr,EZ]
  refine hK _ (Aa [0,2,3] ?_);clear hK K
  refine WC.r1 ?_
  simp only [↓EJ,FY,simprocAttr,TS]
  repeat rw [Ae] at hx
  refine Af hx (D2 ts s13 i13) (by simp only [CL,PCL,TCL,DCL,FCL,RCL,and_self]) (fun v=>by simp only [CL,PCL,TCL,DCL,FCL,RCL,and_self]) fun hi s14 h14 hx=>?_
  have g14:=Ey i13 h14
  have i14:=g14.1
  simp only [↓EJ,FY,simprocAttr,TS]
  refine hK0 _ ?_
  refine A2 [1] fun K hK=>?_
  simp only [↓EJ,FY,simprocAttr,EZ]
  repeat rw [Ae] at hx
  refine CallX.exp hx i14 fun u31 s31 h31 hx g31 i31=>?_
  simp only [↓EJ,FY,simprocAttr,EZ]
  refine hK _ ?_;clear hK K
  refine WC.rs fun K hK=>?_
  simp only [↓EJ,FY,simprocAttr,TS]
  refine hK _ ?_;clear hK K
  refine WC.ret ?_
  simp only [↓EJ,FY,simprocAttr,EQ,EF,Tryz.results127,TS]
  exact PSem.done (fn:=Tryz.f127) (s:=s31) (v:=⟨7,lo,hi,zr,zr,[],[]⟩) hx rfl (of_eq_true (by simp only [CL,PCL,TCL,DCL,FCL,RCL,and_self])) rfl
 obtain rfl:b8=false:=by simpa using h
 dsimp only at hx
 refine WC.r1 ?_
 simp only [↓EJ,FY,simprocAttr]
 refine CallX.mk (B1 (α:=Unit) (enc:=fun _=>.tuple []) (Gq ts s8 i8 4) rfl rfl (by simp only [CL,and_self]) (fun _=>by simp only [CL]) (fun v s' hv=>nomatch hv) (fun e s' he=>?_))
 cases he
 exact PSem.fails (fn:=Tryz.f127) (s:=s') (hx.trans (by simp only [F8])) rfl rfl
end Go.LexSem
