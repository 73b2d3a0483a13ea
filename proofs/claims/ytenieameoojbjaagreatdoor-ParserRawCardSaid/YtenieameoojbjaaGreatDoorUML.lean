/-
 Texts joined: ParV ParW ParX ParY ParZ.
-/
import Derived.Test.YtenieameoojbjaaGreatDoorUMK
set_option linter.unusedVariables false
set_option linter.unusedSimpArgs false
set_option linter.loopingSimpArgs false
-- CLOSERS: PCL,TCL,DCL,FCL,RCL
set_option maxHeartbeats 16000000
set_option maxRecDepth 8000
namespace Go.LexSem
open Go Go.V Go.Proofs Go.Num

/-! ### Statements as trees -/
inductive Sm where
 | mk (kind:Nat) (name func:List UInt8) (int:Int) (expr:Ex) (args:List Ex) (draw:Dr) (thn els:List Sm)
mutual
def smC:Sm→List PVal
 | .mk k nm fn i e al d th el=>.int .i64 k::.str nm::.str fn::.int .i64 i::(exC e ++ (Dv al::(drC d ++ [C3 th,C3 el])))
def smL:List Sm→List PVal
 | []=>[]
 | e::es=>.agg (smC e)::smL es
def C3:List Sm→PVal
 | []=>.nils
 | e::es=>.slc (.agg (smC e)::smL es)
end
def smV (e:Sm):PVal:=.agg (smC e)
theorem Zy:∀ es:List Sm,smL es=es.map smV
 | []=>by simp [smL]
 | e::es=>by simp [smL,Zy es,smV]
theorem smsV_nil:C3 []=.nils:=by simp [C3]
theorem P6 {es:List Sm} (h:es≠[]):C3 es=.slc (es.map smV):=by
 cases es with
 | nil=>exact absurd rfl h
 | cons e es=>simp [C3,Zy,smV]
theorem P7 (e:Sm):(smC e).length=25:=by cases e;simp [smC,N2,U8]
mutual
theorem Ig:∀ e:Sm,ClosedL (smC e)
 | .mk k nm fn i e al d th el=>by
   have h1:=Ct th
   have h2:=Ct el
   have h3:=G6 e
   obtain ⟨eo,ei,er,en,ea⟩:=e
   have:ClosedL (smC (.mk k nm fn i (.mk eo ei er en ea) al d th el))=True:=by simp only [smC,exC,drC,List.cons_append,List.nil_append,CL,PCL,eq_true h1,eq_true h2,and_self]
   exact of_eq_true this
theorem Q8:∀ es:List Sm,ClosedL (smL es)
 | []=>by simp only [smL];exact .nil
 | e::es=>by
   simp only [smL]
   exact .cons (.agg (Ig e)) (Q8 es)
theorem Ct:∀ es:List Sm,Closed (C3 es)
 | []=>by simp only [C3];exact fun _=>rfl
 | e::es=>by
   simp only [C3]
   exact .slc (.cons (.agg (Ig e)) (Q8 es))
end
theorem Cx (e:Sm):Closed (smV e):=.agg (Ig e)
theorem MCL:(∀ e,Closed (smV e)=True)∧(∀ e,ClosedL (smC e)=True)∧(∀ es,Closed (C3 es)=True)∧(∀ es:List Sm,ClosedL (es.map smV)=True) :=
 ⟨fun e=>eq_true (Cx e),fun e=>eq_true (Ig e),fun es=>eq_true (Ct es),fun es=>eq_true (ClosedL.map (fun e=>Cx e) es)⟩
theorem MRN:(∀ f e,Ba f (smC e)=smC e)∧(∀ f es,ren f (C3 es)=C3 es)∧(∀ f (es:List Sm),Ba f (es.map smV)=es.map smV) :=
 ⟨fun f e=>Ig e f,fun f es=>Ct es f,fun f es=>ClosedL.map (fun e=>Cx e) es f⟩
theorem MS:(∀ e,smV e=.agg (smC e))∧(∀ e,(smC e).length=25)∧(∀ e,List.take 25 (smC e)=smC e)∧(∀ e,List.drop 25 (smC e)=[])∧(∀ cs,(PVal.agg cs).solid=true)∧(∀ l,(C3 l).solid=true)∧(∀ l,(C3 l).cells=[C3 l]) :=
 ⟨fun _=>rfl,P7,fun e=>List.take_of_length_le (by rw [P7];exact Nat.le_refl _),fun e=>List.drop_of_length_le (by rw [P7];exact Nat.le_refl _),fun _=>rfl,
  fun l=>by cases l <;> simp only [C3] <;> rfl,fun l=>by cases l <;> simp only [C3] <;> rfl⟩
def ze:Ex:=.mk 0 0 zr [] []
def zd:Dr:=⟨0,0,0,zr,zr,[],[]⟩
def G5 (ts:List Tok) (s:PS):Bool:=decide ((cur ts s).1=1) && (decide ((nxt ts s).1=4) && decide ((nxt ts s).2.1=[40]))
mutual
def E4 (ts:List Tok):Nat→PS→PR Sm
 | 0,_=>.error Jq
 | n + 1,s=>bnd (Ak ts [105,102] s) fun b s=>match b with
   | true=>bnd (Hr ts s) fun e s=>bnd (Gz ts n s) fun th s=>bnd (Ak ts [101,108,115,101] s) fun b s=>match b with
     | true=>bnd (Gz ts n s) fun el s=>.ok (.mk 4 [] [] 0 e [] zd th el,s)
     | false=>.ok (.mk 4 [] [] 0 e [] zd th [],s)
   | false=>bnd (Ak ts [114,101,112,101,97,116] s) fun b s=>match b with
     | true=>bnd (Bu ts s) fun k s=>bnd (Gz ts n s) fun th s=>.ok (.mk 5 [] [] k ze [] zd th [],s)
     | false=>bnd (Ak ts [119,104,105,108,101] s) fun b s=>match b with
       | true=>bnd (Hr ts s) fun e s=>bnd (Gz ts n s) fun th s=>.ok (.mk 6 [] [] 0 e [] zd th [],s)
       | false=>bnd (Ak ts [111,98,115,101,114,118,101] s) fun b s=>match b with
         | true=>bnd (Hr ts s) fun e s=>bnd (Ah ts [[59]] s) fun _ s=>.ok (.mk 7 [] [] 0 e [] zd [] [],s)
         | false=>bnd (Ak ts [119,101,105,103,104,116] s) fun b s=>match b with
           | true=>bnd (Hr ts s) fun e s=>bnd (Ah ts [[59]] s) fun _ s=>.ok (.mk 8 [] [] 0 e [] zd [] [],s)
           | false=>bnd (C2 ts s) fun w s=>bnd (Ak ts [126] s) fun b s=>match b with
             | true=>bnd (Hs ts s) fun d s=>bnd (Ah ts [[59]] s) fun _ s=>.ok (.mk 2 w [] 0 ze [] d [] [],s)
             | false=>bnd (Ah ts [[58,61]] s) fun _ s=>match G5 ts s with
               | true=>bnd (C2 ts s) fun f s=>bnd (Ah ts [[40]] s) fun _ s=>match isP ts s [41] with
                 | true=>bnd (Ah ts [[41]] s) fun _ s=>bnd (Ah ts [[59]] s) fun _ s=>.ok (.mk 3 w f 0 ze [] zd [] [],s)
                 | false=>bnd (Iq ts s) fun l s=>bnd (Ah ts [[41]] s) fun _ s=>bnd (Ah ts [[59]] s) fun _ s=>.ok (.mk 3 w f 0 ze l zd [] [],s)
               | false=>bnd (Hr ts s) fun e s=>bnd (Ah ts [[59]] s) fun _ s=>.ok (.mk 1 w [] 0 e [] zd [] [],s)
def Gz (ts:List Tok):Nat→PS→PR (List Sm)
 | 0,_=>.error Jq
 | n + 1,s=>bnd (Ah ts [[123]] s) fun _ s=>bnd (Ek ts [125] n [] s) fun l s=>bnd (Ah ts [[125]] s) fun _ s=>.ok (l,s)
def Ek (ts:List Tok) (stop:List UInt8):Nat→List Sm→PS→PR (List Sm)
 | 0,_,_=>.error Jq
 | n + 1,acc,s=>match isP ts s stop with
   | true=>.ok (acc,s)
   | false=>bnd (E4 ts n s) fun t s=>Ek ts stop n (acc ++ [t]) s
end
structure SInv (ts:List Tok) (n:Nat):Prop where
 stmt:∀ {s e s'},PInv ts s→E4 ts n s=.ok (e,s')→Up ts s s'
 body:∀ {s e s'},PInv ts s→Gz ts n s=.ok (e,s')→Up ts s s'
 stmts:∀ {stop a s e s'},PInv ts s→Ek ts stop n a s=.ok (e,s')→Ge ts s s'
theorem Sg (ts:List Tok):∀ n,SInv ts n
 | 0=>by
   constructor <;> intros <;> rename_i h <;> simp only [E4,Gz,Ek] at h <;> cases h
 | n + 1=>by
   have H:=Sg ts n
   constructor
   ·intro s0 e s' i0 h
    rw [E4] at h
    obtain ⟨b,s1,h1,h⟩:=Ac h
    cases b
    rotate_left
    ·have a0:=Bm i0 h1
     obtain ⟨v0,t0,k0,h⟩:=Ac h
     have q0:=E2 a0.1 k0
     obtain ⟨v1,t1,k1,h⟩:=Ac h
     have q1:=H.body q0.1 k1
     obtain ⟨b,t9,k9,h⟩:=Ac h
     have q9:=A7 q1.1 k9
     cases b
     ·cases h;exact a0.trans (q0.ge.trans (q1.ge.trans q9))
     ·obtain ⟨v5,t5,k5,h⟩:=Ac h
      cases h
      exact a0.trans (q0.ge.trans (q1.ge.trans (q9.trans (H.body q9.1 k5).ge)))
    have g1:=A7 i0 h1
    refine g1.up ?_
    obtain ⟨b,s2,h2,h⟩:=Ac h
    cases b
    rotate_left
    ·have a1:=Bm g1.1 h2
     obtain ⟨v0,t0,k0,h⟩:=Ac h
     have q0:=Ey a1.1 k0
     obtain ⟨v1,t1,k1,h⟩:=Ac h
     have q1:=H.body q0.1 k1
     cases h
     exact a1.trans (q0.ge.trans (q1.ge))
    have g2:=A7 g1.1 h2
    refine g2.up ?_
    obtain ⟨b,s3,h3,h⟩:=Ac h
    cases b
    rotate_left
    ·have a2:=Bm g2.1 h3
     obtain ⟨v0,t0,k0,h⟩:=Ac h
     have q0:=E2 a2.1 k0
     obtain ⟨v1,t1,k1,h⟩:=Ac h
     have q1:=H.body q0.1 k1
     cases h
     exact a2.trans (q0.ge.trans (q1.ge))
    have g3:=A7 g2.1 h3
    refine g3.up ?_
    obtain ⟨b,s4,h4,h⟩:=Ac h
    cases b
    rotate_left
    ·have a3:=Bm g3.1 h4
     obtain ⟨v0,t0,k0,h⟩:=Ac h
     have q0:=E2 a3.1 k0
     obtain ⟨v1,t1,k1,h⟩:=Ac h
     have q1:=A6 q0.1 k1
     cases h
     exact a3.trans (q0.ge.trans (q1.ge))
    have g4:=A7 g3.1 h4
    refine g4.up ?_
    obtain ⟨b,s5,h5,h⟩:=Ac h
    cases b
    rotate_left
    ·have a4:=Bm g4.1 h5
     obtain ⟨v0,t0,k0,h⟩:=Ac h
     have q0:=E2 a4.1 k0
     obtain ⟨v1,t1,k1,h⟩:=Ac h
     have q1:=A6 q0.1 k1
     cases h
     exact a4.trans (q0.ge.trans (q1.ge))
    have g5:=A7 g4.1 h5
    refine g5.up ?_
    obtain ⟨w,s6,h6,h⟩:=Ac h
    have g6:=B9 g5.1 h6
    refine g6.trans ?_
    obtain ⟨b,s7,h7,h⟩:=Ac h
    have g7:=A7 g6.1 h7
    refine g7.trans ?_
    cases b
    rotate_left
    ·skip
     obtain ⟨v0,t0,k0,h⟩:=Ac h
     have q0:=Aam g7.1 k0
     obtain ⟨v1,t1,k1,h⟩:=Ac h
     have q1:=A6 q0.1 k1
     cases h
     exact q0.ge.trans q1.ge
    obtain ⟨u,s8,h8,h⟩:=Ac h
    have g8:=A6 g7.1 h8
    refine g8.ge.trans ?_
    split at h
    ·skip
     obtain ⟨v0,t0,k0,h⟩:=Ac h
     have q0:=B9 g8.1 k0
     obtain ⟨v1,t1,k1,h⟩:=Ac h
     have q1:=A6 q0.1 k1
     refine q0.ge.trans (q1.ge.trans ?_)
     split at h
     ·skip
      obtain ⟨v2,t2,k2,h⟩:=Ac h
      have q2:=A6 q1.1 k2
      obtain ⟨v3,t3,k3,h⟩:=Ac h
      have q3:=A6 q2.1 k3
      cases h
      exact q2.ge.trans q3.ge
     ·skip
      obtain ⟨v2,t2,k2,h⟩:=Ac h
      have q2:=Nz q1.1 k2
      obtain ⟨v3,t3,k3,h⟩:=Ac h
      have q3:=A6 q2.1 k3
      obtain ⟨v4,t4,k4,h⟩:=Ac h
      have q4:=A6 q3.1 k4
      cases h
      exact q2.ge.trans (q3.ge.trans q4.ge)
    ·skip
     obtain ⟨v0,t0,k0,h⟩:=Ac h
     have q0:=E2 g8.1 k0
     obtain ⟨v1,t1,k1,h⟩:=Ac h
     have q1:=A6 q0.1 k1
     cases h
     exact q0.ge.trans q1.ge
   ·intro s0 e s' i0 h
    rw [Gz] at h
    obtain ⟨_,s1,h1,h⟩:=Ac h
    obtain ⟨_,s2,h2,h⟩:=Ac h
    obtain ⟨_,s3,h3,h⟩:=Ac h
    cases h
    have g1:=A6 i0 h1
    have g2:=H.stmts g1.1 h2
    exact g1.trans (g2.trans (A6 g2.1 h3).ge)
   ·intro stop a s0 e s' i0 h
    rw [Ek] at h
    split at h
    ·cases h;exact Ge.refl i0
    ·obtain ⟨_,s1,h1,h⟩:=Ac h
     have g1:=H.stmt i0 h1
     exact g1.ge.trans (H.stmts g1.1 h)
end Go.LexSem
-- CLOSERS: PCL,TCL,DCL,FCL,RCL,MCL
set_option maxHeartbeats 32000000
set_option maxRecDepth 8000
namespace Go.LexSem
open Go Go.V Go.Proofs Go.Num

structure MAll (ts:List Tok) (n:Nat):Prop where
 stmt:∀ s,PInv ts s→3 * rem ts s + 1≤n→PSem 101 [] ts s (E4 ts n s) smV
 body:∀ s,PInv ts s→3 * rem ts s≤n→PSem 126 [] ts s (Gz ts n s) C3
theorem Aa9 (ts:List Tok) (n:Nat) (H:MAll ts n) (s0:PS) (i0:PInv ts s0) (hn:3 * rem ts s0 + 1≤n + 1):PSem 101 [] ts s0 (E4 ts (n + 1) s0) smV:=by
 have X:=Sg ts n
 obtain ⟨x,hx⟩:∃ x,x=E4 ts (n + 1) s0:=⟨_,rfl⟩
 rw [←hx]
 rw [E4] at hx
 unfold PSem
 refine FSem.en 118 Tryz.func101 ?_
 simp only [Aj]
 refine WC.go ?_
 refine WC.bs fun K0 hK0=>?_
 refine WC.rs fun K hK=>?_
 simp only [↓EJ,FY,simprocAttr]
 refine CallX.acc hx i0 fun b1 s1 h1 hx g1 i1=>?_
 have r1:=g1.rem
 simp only [↓EJ,FY,simprocAttr]
 refine hK _ ?_;clear hK K
 refine WC.cond rfl (fun h=>?_) fun h=>?_
 ·obtain rfl:b1=true:=by simpa using h
  dsimp only at hx
  have q1:=(Bm i0 h1).rem
  refine WC.rs fun K hK=>?_
  simp only [↓EJ,FY,simprocAttr]
  refine Af hx (Ir ts s1 i1) (by simp only [CL,PCL,TCL,DCL,FCL,RCL,MCL,and_self]) (fun v=>by simp only [CL,PCL,TCL,DCL,FCL,RCL,MCL,and_self]) fun e s11 h11 hx=>?_
  have g11:=E2 i1 h11
  have i11:=g11.1
  have r11:=g11.rem
  obtain ⟨eo,ei,⟨e1,e2,e3⟩,en,ea⟩:=e
  simp only [↓EJ,FY,simprocAttr,D5,MS,Bc]
  refine hK _ (Aa [0,2,3,4,5,6,7,8,9,20,25,35,45,55,86,96,107] ?_);clear hK K
  refine WC.rs fun K hK=>?_
  simp only [↓EJ,FY,simprocAttr]
  refine Af hx (H.body s11 i11 (by omega)) (by simp only [CL,PCL,TCL,DCL,FCL,RCL,MCL,and_self]) (fun v=>by simp only [CL,PCL,TCL,DCL,FCL,RCL,MCL,and_self]) fun th s12 h12 hx=>?_
  have g12:=X.body i11 h12
  have i12:=g12.1
  have r12:=g12.rem
  simp only [↓EJ,FY,simprocAttr,D5,MS,Bc]
  refine hK _ ?_;clear hK K
  refine Am fun K2 hK2=>?_
  refine WC.rs fun K hK=>?_
  simp only [↓EJ,FY,simprocAttr]
  refine CallX.acc hx i12 fun b13 s13 h13 hx g13 i13=>?_
  have r13:=g13.rem
  simp only [↓EJ,FY,simprocAttr]
  refine hK _ ?_;clear hK K
  refine WC.cond rfl (fun h=>?_) fun h=>?_
  ·obtain rfl:b13=true:=by simpa using h
   dsimp only at hx
   refine WC.r1 ?_
   simp only [↓EJ,FY,simprocAttr]
   refine Af hx (H.body s13 i13 (by omega)) (by simp only [CL,PCL,TCL,DCL,FCL,RCL,MCL,and_self]) (fun v=>by simp only [CL,PCL,TCL,DCL,FCL,RCL,MCL,and_self]) fun el s14 h14 hx=>?_
   have g14:=X.body i13 h14
   have i14:=g14.1
   have r14:=g14.rem
   simp only [↓EJ,FY,simprocAttr,D5,MS,Bc]
   refine hK2 _ ?_
   refine WC.rs fun K hK=>?_
   simp only [↓EJ,FY,simprocAttr,MS]
   refine hK _ (Aa [0,2,4,5,6,7,8,9,25,35,45,55,86,96,107] ?_);clear hK K
   refine WC.ret ?_
   simp only [↓EJ,FY,simprocAttr,EQ,EF,Tryz.results101,MS]
   exact PSem.done (fn:=Tryz.f101) (s:=s14) (v:=(.mk 4 [] [] 0 (.mk eo ei (e1,e2,e3) en ea) [] zd th el)) hx rfl (of_eq_true (by simp only [CL,PCL,TCL,DCL,FCL,RCL,MCL,and_self])) rfl
  ·obtain rfl:b13=false:=by simpa using h
   dsimp only at hx
   refine WC.skip (hK2 _ ?_)
   refine WC.rs fun K hK=>?_
   simp only [↓EJ,FY,simprocAttr,MS]
   refine hK _ ?_;clear hK K
   refine WC.ret ?_
   simp only [↓EJ,FY,simprocAttr,EQ,EF,Tryz.results101,MS]
   exact PSem.done (fn:=Tryz.f101) (s:=s13) (v:=(.mk 4 [] [] 0 (.mk eo ei (e1,e2,e3) en ea) [] zd th [])) hx rfl (of_eq_true (by simp only [CL,PCL,TCL,DCL,FCL,RCL,MCL,and_self])) rfl
 obtain rfl:b1=false:=by simpa using h
 dsimp only at hx
 refine WC.rs fun K hK=>?_
 simp only [↓EJ,FY,simprocAttr]
 refine CallX.acc hx i1 fun b2 s2 h2 hx g2 i2=>?_
 have r2:=g2.rem
 simp only [↓EJ,FY,simprocAttr]
 refine hK _ ?_;clear hK K
 refine WC.cond rfl (fun h=>?_) fun h=>?_
 ·obtain rfl:b2=true:=by simpa using h
  dsimp only at hx
  have q2:=(Bm i1 h2).rem
  refine WC.rs fun K hK=>?_
  simp only [↓EJ,FY,simprocAttr]
  refine Af hx (D2 ts s2 i2) (by simp only [CL,PCL,TCL,DCL,FCL,RCL,MCL,and_self]) (fun v=>by simp only [CL,PCL,TCL,DCL,FCL,RCL,MCL,and_self]) fun k s11 h11 hx=>?_
  have g11:=Ey i2 h11
  have i11:=g11.1
  have r11:=g11.rem
  simp only [↓EJ,FY,simprocAttr,MS]
  refine hK _ (Aa [0,2,4,5,6,7,8,9,35,45,55,86,96,107] ?_);clear hK K
  refine WC.rs fun K hK=>?_
  simp only [↓EJ,FY,simprocAttr]
  refine Af hx (H.body s11 i11 (by omega)) (by simp only [CL,PCL,TCL,DCL,FCL,RCL,MCL,and_self]) (fun v=>by simp only [CL,PCL,TCL,DCL,FCL,RCL,MCL,and_self]) fun th s12 h12 hx=>?_
  have g12:=X.body i11 h12
  have i12:=g12.1
  have r12:=g12.rem
  simp only [↓EJ,FY,simprocAttr,D5,MS,Bc]
  refine hK _ ?_;clear hK K
  refine WC.rs fun K hK=>?_
  simp only [↓EJ,FY,simprocAttr,MS]
  refine hK _ ?_;clear hK K
  refine WC.ret ?_
  simp only [↓EJ,FY,simprocAttr,EQ,EF,Tryz.results101,MS]
  exact PSem.done (fn:=Tryz.f101) (s:=s12) (v:=(.mk 5 [] [] k ze [] zd th [])) hx rfl (of_eq_true (by simp only [CL,PCL,TCL,DCL,FCL,RCL,MCL,and_self])) rfl
 obtain rfl:b2=false:=by simpa using h
 dsimp only at hx
 refine WC.rs fun K hK=>?_
 simp only [↓EJ,FY,simprocAttr]
 refine CallX.acc hx i2 fun b3 s3 h3 hx g3 i3=>?_
 have r3:=g3.rem
 simp only [↓EJ,FY,simprocAttr]
 refine hK _ (Aa [0,2,5,6,7,8,9,35,45,55,86,96,107] ?_);clear hK K
 refine WC.cond rfl (fun h=>?_) fun h=>?_
 ·obtain rfl:b3=true:=by simpa using h
  dsimp only at hx
  have q3:=(Bm i2 h3).rem
  refine WC.rs fun K hK=>?_
  simp only [↓EJ,FY,simprocAttr]
  refine Af hx (Ir ts s3 i3) (by simp only [CL,PCL,TCL,DCL,FCL,RCL,MCL,and_self]) (fun v=>by simp only [CL,PCL,TCL,DCL,FCL,RCL,MCL,and_self]) fun e s11 h11 hx=>?_
  have g11:=E2 i3 h11
  have i11:=g11.1
  have r11:=g11.rem
  obtain ⟨eo,ei,⟨e1,e2,e3⟩,en,ea⟩:=e
  simp only [↓EJ,FY,simprocAttr,D5,MS,Bc]
  refine hK _ ?_;clear hK K
  refine WC.rs fun K hK=>?_
  simp only [↓EJ,FY,simprocAttr]
  refine Af hx (H.body s11 i11 (by omega)) (by simp only [CL,PCL,TCL,DCL,FCL,RCL,MCL,and_self]) (fun v=>by simp only [CL,PCL,TCL,DCL,FCL,RCL,MCL,and_self]) fun th s12 h12 hx=>?_
  have g12:=X.body i11 h12
  have i12:=g12.1
  have r12:=g12.rem
  simp only [↓EJ,FY,simprocAttr,D5,MS,Bc]
  refine hK _ (Aa [0,2,5,6,7,8,9,45,55,86,96,107] ?_);clear hK K
  refine WC.rs fun K hK=>?_
  simp only [↓EJ,FY,simprocAttr,MS]
  refine hK _ ?_;clear hK K
  refine WC.ret ?_
  simp only [↓EJ,FY,simprocAttr,EQ,EF,Tryz.results101,MS]
  exact PSem.done (fn:=Tryz.f101) (s:=s12) (v:=(.mk 6 [] [] 0 (.mk eo ei (e1,e2,e3) en ea) [] zd th [])) hx rfl (of_eq_true (by simp only [CL,PCL,TCL,DCL,FCL,RCL,MCL,and_self])) rfl
 obtain rfl:b3=false:=by simpa using h
 dsimp only at hx
 refine WC.rs fun K hK=>?_
 simp only [↓EJ,FY,simprocAttr]
 refine CallX.acc hx i3 fun b4 s4 h4 hx g4 i4=>?_
 have r4:=g4.rem
 simp only [↓EJ,FY,simprocAttr]
 refine hK _ ?_;clear hK K
 refine WC.cond rfl (fun h=>?_) fun h=>?_
 ·obtain rfl:b4=true:=by simpa using h
  dsimp only at hx
  have q4:=(Bm i3 h4).rem
  refine WC.rs fun K hK=>?_
  simp only [↓EJ,FY,simprocAttr]
  refine Af hx (Ir ts s4 i4) (by simp only [CL,PCL,TCL,DCL,FCL,RCL,MCL,and_self]) (fun v=>by simp only [CL,PCL,TCL,DCL,FCL,RCL,MCL,and_self]) fun e s11 h11 hx=>?_
  have g11:=E2 i4 h11
  have i11:=g11.1
  have r11:=g11.rem
  obtain ⟨eo,ei,⟨e1,e2,e3⟩,en,ea⟩:=e
  simp only [↓EJ,FY,simprocAttr,D5,MS,Bc]
  refine hK _ (Aa [0,2,6,7,8,9,55,86,96,107] ?_);clear hK K
  refine A2 [1] fun K hK=>?_
  simp only [↓EJ,FY,simprocAttr,EZ]
  refine CallX.exp hx i11 fun u12 s12 h12 hx g12 i12=>?_
  have r12:=g12.rem
  simp only [↓EJ,FY,simprocAttr,EZ]
  refine hK _ ?_;clear hK K
  refine WC.rs fun K hK=>?_
  simp only [↓EJ,FY,simprocAttr,MS]
  refine hK _ ?_;clear hK K
  refine WC.ret ?_
  simp only [↓EJ,FY,simprocAttr,EQ,EF,Tryz.results101,MS]
  exact PSem.done (fn:=Tryz.f101) (s:=s12) (v:=(.mk 7 [] [] 0 (.mk eo ei (e1,e2,e3) en ea) [] zd [] [])) hx rfl (of_eq_true (by simp only [CL,PCL,TCL,DCL,FCL,RCL,MCL,and_self])) rfl
 obtain rfl:b4=false:=by simpa using h
 dsimp only at hx
 refine WC.rs fun K hK=>?_
 simp only [↓EJ,FY,simprocAttr]
 refine CallX.acc hx i4 fun b5 s5 h5 hx g5 i5=>?_
 have r5:=g5.rem
 simp only [↓EJ,FY,simprocAttr]
 refine hK _ (Aa [0,2,7,8,9,55,86,96,107] ?_);clear hK K
 refine WC.cond rfl (fun h=>?_) fun h=>?_
 ·obtain rfl:b5=true:=by simpa using h
  dsimp only at hx
  have q5:=(Bm i4 h5).rem
  refine WC.rs fun K hK=>?_
  simp only [↓EJ,FY,simprocAttr]
  refine Af hx (Ir ts s5 i5) (by simp only [CL,PCL,TCL,DCL,FCL,RCL,MCL,and_self]) (fun v=>by simp only [CL,PCL,TCL,DCL,FCL,RCL,MCL,and_self]) fun e s11 h11 hx=>?_
  have g11:=E2 i5 h11
  have i11:=g11.1
  have r11:=g11.rem
  obtain ⟨eo,ei,⟨e1,e2,e3⟩,en,ea⟩:=e
  simp only [↓EJ,FY,simprocAttr,D5,MS,Bc]
  refine hK _ ?_;clear hK K
  refine A2 [1] fun K hK=>?_
  simp only [↓EJ,FY,simprocAttr,EZ]
  refine CallX.exp hx i11 fun u12 s12 h12 hx g12 i12=>?_
  have r12:=g12.rem
  simp only [↓EJ,FY,simprocAttr,EZ]
  refine hK _ (Aa [0,2,7,8,9,86,96,107] ?_);clear hK K
  refine WC.rs fun K hK=>?_
  simp only [↓EJ,FY,simprocAttr,MS]
  refine hK _ ?_;clear hK K
  refine WC.ret ?_
  simp only [↓EJ,FY,simprocAttr,EQ,EF,Tryz.results101,MS]
  exact PSem.done (fn:=Tryz.f101) (s:=s12) (v:=(.mk 8 [] [] 0 (.mk eo ei (e1,e2,e3) en ea) [] zd [] [])) hx rfl (of_eq_true (by simp only [CL,PCL,TCL,DCL,FCL,RCL,MCL,and_self])) rfl
 obtain rfl:b5=false:=by simpa using h
 dsimp only at hx
 refine WC.skip (hK0 _ ?_)
 refine WC.rs fun K hK=>?_
 simp only [↓EJ,FY,simprocAttr]
 refine Af hx (C4 ts s5 i5) (by simp only [CL,PCL,TCL,DCL,FCL,RCL,MCL,and_self]) (fun v=>by simp only [CL,PCL,TCL,DCL,FCL,RCL,MCL,and_self]) fun w s11 h11 hx=>?_
 have g11:=B9 i5 h11
 have i11:=g11.1
 simp only [↓EJ,FY,simprocAttr,MS]
 refine hK _ ?_;clear hK K
 refine WC.bs fun K1 hK1=>?_
 refine WC.rs fun K hK=>?_
 simp only [↓EJ,FY,simprocAttr]
 refine CallX.acc hx i11 fun b12 s12 h12 hx g12 i12=>?_
 simp only [↓EJ,FY,simprocAttr]
 refine hK _ (Aa [0,2,8,9,86,96,107] ?_);clear hK K
 refine WC.cond rfl (fun h=>?_) fun h=>?_
 ·obtain rfl:b12=true:=by simpa using h
  dsimp only at hx
  refine WC.r1 ?_
  simp only [↓EJ,FY,simprocAttr]
  refine Af hx (draw_sem ts s12 i12) (by simp only [CL,PCL,TCL,DCL,FCL,RCL,MCL,and_self]) (fun v=>by simp only [CL,PCL,TCL,DCL,FCL,RCL,MCL,and_self]) fun d s13 h13 hx=>?_
  have g13:=Aam i12 h13
  have i13:=g13.1
  simp only [↓EJ,FY,simprocAttr,drV,drC,MS]
  refine hK1 _ ?_
  refine A2 [1] fun K hK=>?_
  simp only [↓EJ,FY,simprocAttr,EZ]
  refine CallX.exp hx i13 fun u14 s14 h14 hx g14 i14=>?_
  have r14:=g14.rem
  simp only [↓EJ,FY,simprocAttr,EZ]
  refine hK _ ?_;clear hK K
  refine WC.rs fun K hK=>?_
  simp only [↓EJ,FY,simprocAttr,MS]
  refine hK _ ?_;clear hK K
  refine WC.ret ?_
  simp only [↓EJ,FY,simprocAttr,EQ,EF,Tryz.results101,MS]
  exact PSem.done (fn:=Tryz.f101) (s:=s14) (v:=(.mk 2 w [] 0 ze [] d [] [])) hx rfl (of_eq_true (by simp only [CL,PCL,TCL,DCL,FCL,RCL,MCL,and_self])) rfl
 obtain rfl:b12=false:=by simpa using h
 dsimp only at hx
 refine A2 [1] fun K hK=>?_
 simp only [↓EJ,FY,simprocAttr,EZ]
 refine CallX.exp hx i12 fun u13 s13 h13 hx g13 i13=>?_
 have r13:=g13.rem
 simp only [↓EJ,FY,simprocAttr,EZ]
 refine hK _ (Aa [0,2,8,9,86,96] ?_);clear hK K
 refine WC.rs fun K hK=>?_
 simp only [↓EJ,FY,simprocAttr]
 refine CallX.mk (CallW.one (r:=.o 0) (Wz ts s13 i13) rfl (Ag ts s13) (Ag ts s13) (Cd _) (by simp [Ba,ren,A4]) ?_)
 simp only [↓EJ,FY,simprocAttr,Bn,tkv,tk]
 refine hK _ ?_;clear hK K
 refine Bt (X:=Bool) (fun b=>b=G5 ts s13) (fun b=>⟨[(86,.bool b),(8,.ptr (.l 1) 0 0),(2,.ptr (.l 0) 0 0),(0,.ptr (.o 0) 0 0)],[Bq ts s13],[.row [.agg [.int .i64 0,.str [],.str [],.int .i64 0,.int .i64 0,.int .i64 0,.bool false,.nils,.nils,.str [],.nils,.nils,.int .i64 0,.int .i64 0,.int .i64 0,.bool false,.nils,.nils,.bool false,.nils,.nils,.nils,.str [],.nils,.nils]] 25 61,.row [.agg [.int .i64 0,.str w,.str [],.int .i64 0,.int .i64 0,.int .i64 0,.bool false,.nils,.nils,.str [],.nils,.nils,.int .i64 0,.int .i64 0,.int .i64 0,.bool false,.nils,.nils,.bool false,.nils,.nils,.nils,.str [],.nils,.nils]] 25 61],[]⟩) ?_ ?_
 ·by_cases c1:(cur ts s13).1=1
  ·by_cases c2:(nxt ts s13).1=4
   ·refine WC.r1 ?_
    simp only [↓EJ,FY,simprocAttr,Bn,tkv,tk]
    refine CallX.mk (CallW.one (r:=.o 0) (F1 ts s13 i13) rfl (Ag ts s13) (Ag ts s13) (Cd _) (by simp [Ba,ren,A4]) ?_)
    simp only [↓EJ,FY,simprocAttr,Bn,tkv,tk,c1,c2,Int.cast_ofNat_Int,Bool.not_true,Bool.not_false]
    try simp only [EQ,simprocAttr]
    refine ⟨decide ((nxt ts s13).2.1=[40]),[0,1],by simp [G5,c1,c2],?_⟩
    exact Conv.all (by simp only [EC,simprocAttr,PRN])
   ·have j2:(((nxt ts s13).1:Nat):Int)=4↔False:=iff_false_intro (by omega)
    refine WC.r1 ?_
    simp only [↓EJ,FY,simprocAttr,Bn,tkv,tk]
    refine CallX.mk (CallW.one (r:=.o 0) (F1 ts s13 i13) rfl (Ag ts s13) (Ag ts s13) (Cd _) (by simp [Ba,ren,A4]) ?_)
    simp only [↓EJ,FY,simprocAttr,Bn,tkv,tk,c1,j2,Int.cast_ofNat_Int,Bool.not_true,Bool.not_false]
    try simp only [EQ,simprocAttr]
    refine ⟨false,[0,1],by simp [G5,c1,c2],?_⟩
    exact Conv.all (by simp only [EC,simprocAttr,PRN])
  ·have j1:(((cur ts s13).1:Nat):Int)=1↔False:=iff_false_intro (by omega)
   refine WC.r1 ?_
   simp only [↓EJ,FY,simprocAttr,Bn,tkv,tk]
   refine CallX.mk (CallW.one (r:=.o 0) (F1 ts s13 i13) rfl (Ag ts s13) (Ag ts s13) (Cd _) (by simp [Ba,ren,A4]) ?_)
   simp only [↓EJ,FY,simprocAttr,Bn,tkv,tk,j1,Int.cast_ofNat_Int,Bool.not_true,Bool.not_false]
   try simp only [EQ,simprocAttr]
   refine ⟨false,[0,1],by simp [G5,c1],?_⟩
   exact Conv.all (by simp only [EC,simprocAttr,PRN])
 rintro b hb
 rw [←hb] at hx
 clear hb
 refine WC.cond rfl (fun h=>?_) fun h=>?_
 ·obtain rfl:b=true:=by simpa using h
  dsimp only at hx
  refine WC.rs fun K hK=>?_
  simp only [↓EJ,FY,simprocAttr]
  refine Af hx (C4 ts s13 i13) (by simp only [CL,PCL,TCL,DCL,FCL,RCL,MCL,and_self]) (fun v=>by simp only [CL,PCL,TCL,DCL,FCL,RCL,MCL,and_self]) fun f s14 h14 hx=>?_
  have g14:=B9 i13 h14
  have i14:=g14.1
  simp only [↓EJ,FY,simprocAttr,MS]
  refine hK _ (Aa [0,2,8,86,96] ?_);clear hK K
  refine A2 [1] fun K hK=>?_
  simp only [↓EJ,FY,simprocAttr,EZ]
  refine CallX.exp hx i14 fun u15 s15 h15 hx g15 i15=>?_
  have r15:=g15.rem
  simp only [↓EJ,FY,simprocAttr,EZ]
  refine hK _ ?_;clear hK K
  refine Am fun K4 hK4=>?_
  cases hp:isP ts s15 [41] with
  | true =>
    simp only [hp] at hx
    refine WC.rs fun K hK=>?_
    simp only [↓EJ,FY,simprocAttr]
    refine CallX.mk (CallW.one (r:=.o 0) (D3 ts s15 i15 [41]) rfl (Ag ts s15) (Ag ts s15) (by simp only [CL]) (by simp [Ba,ren,A4]) ?_)
    rw [hp]
    simp only [↓EJ,FY,simprocAttr]
    refine hK _ ?_;clear hK K
    refine WC.cond rfl (fun h=>?_) fun h=>?_
    ·simp at h
    refine WC.skip (hK4 _ ?_)
    refine F9 [1] ?_
    simp only [↓EJ,FY,simprocAttr,EZ]
    refine CallX.exp hx i15 fun u16 s16 h16 hx g16 i16=>?_
    have r16:=g16.rem
    simp only [↓EJ,FY,simprocAttr,EZ]
    refine hK1 _ ?_
    refine A2 [1] fun K hK=>?_
    simp only [↓EJ,FY,simprocAttr,EZ]
    refine CallX.exp hx i16 fun u17 s17 h17 hx g17 i17=>?_
    have r17:=g17.rem
    simp only [↓EJ,FY,simprocAttr,EZ]
    refine hK _ (Aa [0,2,8,86] ?_);clear hK K
    refine WC.rs fun K hK=>?_
    simp only [↓EJ,FY,simprocAttr,MS]
    refine hK _ ?_;clear hK K
    refine WC.ret ?_
    simp only [↓EJ,FY,simprocAttr,EQ,EF,Tryz.results101,MS]
    exact PSem.done (fn:=Tryz.f101) (s:=s17) (v:=(.mk 3 w f 0 ze [] zd [] [])) hx rfl (of_eq_true (by simp only [CL,PCL,TCL,DCL,FCL,RCL,MCL,and_self])) rfl
  | false =>
    simp only [hp] at hx
    refine WC.rs fun K hK=>?_
    simp only [↓EJ,FY,simprocAttr]
    refine CallX.mk (CallW.one (r:=.o 0) (D3 ts s15 i15 [41]) rfl (Ag ts s15) (Ag ts s15) (by simp only [CL]) (by simp [Ba,ren,A4]) ?_)
    rw [hp]
    simp only [↓EJ,FY,simprocAttr]
    refine hK _ ?_;clear hK K
    refine WC.cond rfl (fun h=>?_) fun h=>?_
    rotate_left
    ·simp at h
    refine WC.r1 ?_
    simp only [↓EJ,FY,simprocAttr]
    refine Af hx (Tp ts s15 i15) (by simp only [CL,PCL,TCL,DCL,FCL,RCL,MCL,and_self]) (fun v=>by simp only [CL,PCL,TCL,DCL,FCL,RCL,MCL,and_self]) fun l s16 h16 hx=>?_
    have g16:=Nz i15 h16
    have i16:=g16.1
    simp only [↓EJ,FY,simprocAttr,D5,MS,Bc]
    refine hK4 _ ?_
    refine F9 [1] ?_
    simp only [↓EJ,FY,simprocAttr,EZ]
    refine CallX.exp hx i16 fun u17 s17 h17 hx g17 i17=>?_
    have r17:=g17.rem
    simp only [↓EJ,FY,simprocAttr,EZ]
    refine hK1 _ ?_
    refine A2 [1] fun K hK=>?_
    simp only [↓EJ,FY,simprocAttr,EZ]
    refine CallX.exp hx i17 fun u18 s18 h18 hx g18 i18=>?_
    have r18:=g18.rem
    simp only [↓EJ,FY,simprocAttr,EZ]
    refine hK _ (Aa [0,2,8,86] ?_);clear hK K
    refine WC.rs fun K hK=>?_
    simp only [↓EJ,FY,simprocAttr,MS]
    refine hK _ ?_;clear hK K
    refine WC.ret ?_
    simp only [↓EJ,FY,simprocAttr,EQ,EF,Tryz.results101,MS]
    exact PSem.done (fn:=Tryz.f101) (s:=s18) (v:=(.mk 3 w f 0 ze l zd [] [])) hx rfl (of_eq_true (by simp only [CL,PCL,TCL,DCL,FCL,RCL,MCL,and_self])) rfl
 ·obtain rfl:b=false:=by simpa using h
  dsimp only at hx
  refine WC.r1 ?_
  simp only [↓EJ,FY,simprocAttr]
  refine Af hx (Ir ts s13 i13) (by simp only [CL,PCL,TCL,DCL,FCL,RCL,MCL,and_self]) (fun v=>by simp only [CL,PCL,TCL,DCL,FCL,RCL,MCL,and_self]) fun e s14 h14 hx=>?_
  have g14:=E2 i13 h14
  have i14:=g14.1
  have r14:=g14.rem
  obtain ⟨eo,ei,⟨e1,e2,e3⟩,en,ea⟩:=e
  simp only [↓EJ,FY,simprocAttr,D5,MS,Bc]
  refine hK1 _ ?_
  refine A2 [1] fun K hK=>?_
  simp only [↓EJ,FY,simprocAttr,EZ]
  refine CallX.exp hx i14 fun u15 s15 h15 hx g15 i15=>?_
  have r15:=g15.rem
  simp only [↓EJ,FY,simprocAttr,EZ]
  refine hK _ ?_;clear hK K
  refine WC.rs fun K hK=>?_
  simp only [↓EJ,FY,simprocAttr,MS]
  refine hK _ ?_;clear hK K
  refine WC.ret ?_
  simp only [↓EJ,FY,simprocAttr,EQ,EF,Tryz.results101,MS]
  exact PSem.done (fn:=Tryz.f101) (s:=s15) (v:=(.mk 1 w [] 0 (.mk eo ei (e1,e2,e3) en ea) [] zd [] [])) hx rfl (of_eq_true (by simp only [CL,PCL,TCL,DCL,FCL,RCL,MCL,and_self])) rfl
end Go.LexSem
-- CLOSERS: PCL,TCL,DCL,FCL,RCL,MCL
set_option maxHeartbeats 32000000
-- NEST
set_option maxRecDepth 8000
namespace Go.LexSem
open Go Go.V Go.Proofs Go.Num

theorem body_step (ts:List Tok) (n:Nat) (H:∀ m,m≤n→MAll ts m) (s0:PS) (i0:PInv ts s0) (hn:3 * rem ts s0≤n + 1):PSem 126 [] ts s0 (Gz ts (n + 1) s0) C3:=by
 have X:=Sg ts n
 obtain ⟨x,hx⟩:∃ x,x=Gz ts (n + 1) s0:=⟨_,rfl⟩
 rw [←hx]
 rw [Gz] at hx
 unfold PSem
 refine FSem.en 19 Tryz.func126 ?_
 simp only [Aj]
 refine WC.go ?_
 refine WC.go ?_
 refine A2 [1] fun K hK=>?_
 simp only [↓EJ,FY,simprocAttr,EZ]
 repeat rw [Ae] at hx
 refine CallX.exp hx i0 fun u1 s1 h1 hx g1 i1=>?_
 have r1:=g1.rem
 simp only [↓EJ,FY,simprocAttr,EZ]
 refine hK _ ?_;clear hK K
 refine WC.bs fun K0 hK0=>?_
 refine WC.loop (X:=Nat × List Sm × PS) (fun y=>if y.2.1=[] then ⟨[(3,.nils),(0,.ptr (.o 0) 0 0)],[Bq ts y.2.2],[],[]⟩ else ⟨[(3,.ref (.l 0) 0 y.2.1.length),(0,.ptr (.o 0) 0 0)],[Bq ts y.2.2],[.row (y.2.1.map smV) 25 61],[]⟩)
  (fun y=>y.1≤n∧PInv ts y.2.2∧3 * rem ts y.2.2 + 2≤y.1∧y.2.1.length≤y.2.2.at_∧x=bnd (Ek ts [125] y.1 y.2.1 y.2.2) (fun l s=>bnd (Ah ts [[125]] s) fun _ s=>.ok (l,s))) (fun y=>y.1) (n,[],s1) [] ⟨Nat.le_refl _,i1,by dsimp only;omega,Nat.zero_le _,hx⟩ ?_ ?_
 ·dsimp only
  rw [if_pos rfl]
  exact Conv.all (by simp only [EC,simprocAttr,PRN])
 clear hx r1 g1 h1 i1
 rintro ⟨m,acc,s1⟩ ⟨hm,i1,hr,hlen,hx⟩
 dsimp only at hm i1 hr hlen hx ⊢
 have hle:=i1.le
 have hlt:=i1.lt
 obtain ⟨m,rfl⟩:∃ k,m=k + 1:=⟨m - 1,by omega⟩
 have Xm:=Sg ts m
 rw [Ek] at hx
 by_cases hne:acc=[]
 ·skip
  subst hne
  rw [if_pos rfl]
  refine Am fun K3 hK3=>?_
  cases hp:isP ts s1 [125] with
  | true =>
    simp only [hp,Ay] at hx
    refine WC.rs fun K hK=>?_
    simp only [↓EJ,FY,simprocAttr]
    refine CallX.mk (CallW.one (r:=.o 0) (D3 ts s1 i1 [125]) rfl (Ag ts s1) (Ag ts s1) (by simp only [CL]) (by simp [Ba,ren,A4]) ?_)
    rw [hp]
    simp only [↓EJ,FY,simprocAttr]
    refine hK _ ?_;clear hK K
    refine WC.cond rfl (fun h=>?_) fun h=>?_
    ·simp at h
    refine WC.exit (hK0 _ ?_)
    refine A2 [1] fun K hK=>?_
    simp only [↓EJ,FY,simprocAttr,EZ]
    repeat rw [Ae] at hx
    refine CallX.exp hx i1 fun u2 s2 h2 hx g2 i2=>?_
    simp only [↓EJ,FY,simprocAttr,EZ]
    refine hK _ (Aa [0,2,3] ?_);clear hK K
    refine WC.go ?_
    refine WC.ret ?_
    simp only [↓EJ,FY,simprocAttr,EQ,EF,Tryz.results126]
    exact PSem.done (fn:=Tryz.f126) (s:=s2) (v:=[]) hx rfl (of_eq_true (by simp only [CL,PCL,TCL,DCL,FCL,RCL,MCL,and_self])) rfl
  | false =>
    simp only [hp] at hx
    refine WC.rs fun K hK=>?_
    simp only [↓EJ,FY,simprocAttr]
    refine CallX.mk (CallW.one (r:=.o 0) (D3 ts s1 i1 [125]) rfl (Ag ts s1) (Ag ts s1) (by simp only [CL]) (by simp [Ba,ren,A4]) ?_)
    rw [hp]
    simp only [↓EJ,FY,simprocAttr]
    refine hK _ ?_;clear hK K
    refine WC.cond rfl (fun h=>?_) fun h=>?_
    rotate_left
    ·simp at h
    refine WC.skip (hK3 _ ?_)
    refine WC.b1 ?_
    refine F9 [3] ?_
    simp only [↓EJ,FY,simprocAttr,EZ]
    repeat rw [Ae] at hx
    refine Af hx ((H m (by omega)).stmt s1 i1 (by omega)) (by simp only [CL,PCL,TCL,DCL,FCL,RCL,MCL,and_self]) (fun v=>by simp only [CL,PCL,TCL,DCL,FCL,RCL,MCL,and_self]) fun t s3 h3 hx=>?_
    have g3:=Xm.stmt i1 h3
    have i3:=g3.1
    have r3:=g3.rem
    have a3:=g3.2
    simp only [↓EJ,FY,simprocAttr,EZ,MS]
    try simp only [EQ,simprocAttr]
    refine ⟨(m,[t],s3),[0],⟨by dsimp only;omega,i3,by dsimp only;omega,by simp only [List.length_append,List.length_cons,List.length_nil];omega,hx⟩,by dsimp only;omega,?_⟩
    dsimp only
    rw [if_neg (by simp)]
    exact Conv.all (by simp only [EC,simprocAttr,PRN,MRN,MS,Aw,List.map_append,List.map_cons,List.map_nil,List.length_append,List.length_cons,List.length_nil])
 ·skip
  rw [if_neg hne]
  refine Am fun K3 hK3=>?_
  cases hp:isP ts s1 [125] with
  | true =>
    simp only [hp,Ay] at hx
    refine WC.rs fun K hK=>?_
    simp only [↓EJ,FY,simprocAttr]
    refine CallX.mk (CallW.one (r:=.o 0) (D3 ts s1 i1 [125]) rfl (Ag ts s1) (Ag ts s1) (by simp only [CL]) (by simp [Ba,ren,A4]) ?_)
    rw [hp]
    simp only [↓EJ,FY,simprocAttr]
    refine hK _ ?_;clear hK K
    refine WC.cond rfl (fun h=>?_) fun h=>?_
    ·simp at h
    refine WC.exit (hK0 _ ?_)
    refine A2 [1] fun K hK=>?_
    simp only [↓EJ,FY,simprocAttr,EZ]
    repeat rw [Ae] at hx
    refine CallX.exp hx i1 fun u2 s2 h2 hx g2 i2=>?_
    simp only [↓EJ,FY,simprocAttr,EZ]
    refine hK _ (Aa [0,2,3] ?_);clear hK K
    refine WC.frz 3 0 rfl rfl (by simp) ?_
    refine WC.go ?_
    refine WC.ret ?_
    simp only [↓EJ,FY,simprocAttr,EQ,EF,Tryz.results126]
    have hp:PVal.slc (List.take acc.length (List.map smV acc))=C3 acc:=by rw [P6 hne,List.take_of_length_le (by simp)]
    rw [hp]
    exact PSem.done (fn:=Tryz.f126) (s:=s2) (v:=acc) hx rfl (of_eq_true (by simp only [CL,PCL,TCL,DCL,FCL,RCL,MCL,and_self])) rfl
  | false =>
    simp only [hp] at hx
    refine WC.rs fun K hK=>?_
    simp only [↓EJ,FY,simprocAttr]
    refine CallX.mk (CallW.one (r:=.o 0) (D3 ts s1 i1 [125]) rfl (Ag ts s1) (Ag ts s1) (by simp only [CL]) (by simp [Ba,ren,A4]) ?_)
    rw [hp]
    simp only [↓EJ,FY,simprocAttr]
    refine hK _ ?_;clear hK K
    refine WC.cond rfl (fun h=>?_) fun h=>?_
    rotate_left
    ·simp at h
    refine WC.skip (hK3 _ ?_)
    refine WC.b1 ?_
    refine F9 [3] ?_
    simp only [↓EJ,FY,simprocAttr,EZ]
    repeat rw [Ae] at hx
    refine Af hx ((H m (by omega)).stmt s1 i1 (by omega)) (by simp only [CL,PCL,TCL,DCL,FCL,RCL,MCL,and_self]) (fun v=>by simp only [CL,PCL,TCL,DCL,FCL,RCL,MCL,and_self]) fun t s3 h3 hx=>?_
    have g3:=Xm.stmt i1 h3
    have i3:=g3.1
    have r3:=g3.rem
    have a3:=g3.2
    simp only [↓EJ,FY,simprocAttr,EZ,MS]
    refine ⟨by rw [List.length_map],by omega,by omega,?_⟩
    try simp only [EQ,simprocAttr]
    refine ⟨(m,acc ++ [t],s3),[1],⟨by dsimp only;omega,i3,by dsimp only;omega,by simp only [List.length_append,List.length_cons,List.length_nil];omega,hx⟩,by dsimp only;omega,?_⟩
    dsimp only
    rw [if_neg (by simp)]
    exact Conv.all (by simp only [EC,simprocAttr,PRN,MRN,MS,Aw,List.map_append,List.map_cons,List.map_nil,List.length_append,List.length_cons,List.length_nil])
theorem mAll (ts:List Tok):∀ n,MAll ts n:=fun n=>by
 induction n using Nat.strongRecOn with
 | _ n ih =>
   cases n with
   | zero=>exact ⟨fun s _ h=>by omega,fun s i h=>by have:=i.lt;unfold rem at h;omega⟩
   | succ n=>exact ⟨fun s i h=>Aa9 ts n (ih n (by omega)) s i h,fun s i h=>body_step ts n (fun m hm=>ih m (by omega)) s i h⟩
def O9 (ts:List Tok) (s:PS):Nat:=3 * rem ts s + 2
def stmtG (ts:List Tok) (s:PS):PR Sm:=E4 ts (O9 ts s) s
theorem Wa (ts:List Tok) (s:PS) (i:PInv ts s) (m:Nat) (hm:3 * rem ts s + 1≤m):PSem 101 [] ts s (E4 ts m s) smV:=(mAll ts m).stmt s i hm
end Go.LexSem
-- CLOSERS: PCL,TCL,DCL,FCL,RCL,MCL,BCL
set_option maxHeartbeats 32000000
-- NEST
set_option maxRecDepth 8000
namespace Go.LexSem
open Go Go.V Go.Proofs Go.Num

/-! ### Blocks -/
def Dq (l:List De):PVal:=if l=[] then .nils else .slc (l.map deV)
theorem Di:Dq []=.nils:=rfl
theorem Ka {l:List De} (h:l≠[]):Dq l=.slc (l.map deV):=if_neg h
theorem Lp (l:List De):Closed (Dq l):=by
 unfold Dq
 split
 ·exact fun _=>rfl
 ·exact .slc (ClosedL.map (fun d=>F5 d) l)
theorem A3 (f:Ref→Ref) (l:List De):ren f (Dq l)=Dq l:=Lp l f
structure Bl where
 vars:List De
 body:List Sm
 result:List UInt8
def blV (b:Bl):PVal:=.tuple [Dq b.vars,C3 b.body,.str b.result]
theorem BCL:(∀ l,Closed (Dq l)=True)∧(∀ b,Closed (blV b)=True) :=
 ⟨fun l=>eq_true (Lp l),fun b=>by simp only [blV,CL,eq_true (Lp _),MCL,and_self]⟩
def Kf (ts:List Tok):Nat→List De→PS→PR (List De)
 | 0,_,_=>.error Jq
 | n + 1,acc,s=>bnd (Ak ts [118,97,114] s) fun b s=>match b with
   | false=>.ok (acc,s)
   | true=>bnd (N8 ts s) fun d s=>bnd (Ah ts [[59]] s) fun _ s=>Kf ts n (acc ++ [d]) s
def L7 (ts:List Tok) (vs:List De) (l:List Sm) (s:PS):PR Bl:=bnd (Ah ts [[114,101,116,117,114,110]] s) fun _ s=>bnd (C2 ts s) fun w s=>bnd (Ah ts [[59]] s) fun _ s=>.ok (⟨vs,l,w⟩,s)
def I8 (ts:List Tok) (vs:List De) (s:PS):PR Bl:=bnd (Ek ts [114,101,116,117,114,110] (O9 ts s) [] s) (L7 ts vs)
def Fs (ts:List Tok) (s:PS):PR Bl:=bnd (Kf ts (rem ts s + 1) [] s) (I8 ts)
theorem V3 {ts:List Tok}:∀ {n:Nat} {a l:List De} {s s':PS},PInv ts s→Kf ts n a s=.ok (l,s')→Ge ts s s'
 | 0,_,_,_,_,_,h=>by simp only [Kf] at h;cases h
 | n + 1,a,l,s,s',i,h=>by
   rw [Kf] at h
   obtain ⟨b,s1,h1,h⟩:=Ac h
   have g1:=A7 i h1
   cases b
   ·cases h;exact g1
   ·obtain ⟨_,s2,h2,h⟩:=Ac h
    obtain ⟨_,s3,h3,h⟩:=Ac h
    have g2:=F6 g1.1 h2
    have g3:=A6 g2.1 h3
    exact g1.trans (g2.ge.trans (g3.ge.trans (V3 g3.1 h)))
theorem Fd {ts:List Tok} {s s':PS} {b:Bl} (i:PInv ts s) (h:Fs ts s=.ok (b,s')):Up ts s s':=by
 unfold Fs at h
 obtain ⟨_,s1,h1,h⟩:=Ac h
 unfold I8 at h
 obtain ⟨_,s2,h2,h⟩:=Ac h
 unfold L7 at h
 obtain ⟨_,s3,h3,h⟩:=Ac h
 obtain ⟨_,s4,h4,h⟩:=Ac h
 obtain ⟨_,s5,h5,h⟩:=Ac h
 cases h
 have g1:=V3 i h1
 have g2:=(Sg ts _).stmts g1.1 h2
 have g3:=A6 g2.1 h3
 have g4:=B9 g3.1 h4
 exact g1.up (g2.up (g3.trans (g4.ge.trans (A6 g4.1 h5).ge)))
theorem Fm (ts:List Tok) (s0:PS) (i0:PInv ts s0):PSem 68 [] ts s0 (Fs ts s0) blV:=by
 obtain ⟨x,hx⟩:∃ x,x=Fs ts s0:=⟨_,rfl⟩
 rw [←hx]
 unfold Fs at hx
 unfold PSem
 refine FSem.en 34 Tryz.func68 ?_
 simp only [Aj]
 refine WC.go ?_
 refine Bt (X:=List De × PS) (fun y=>PInv ts y.2∧x=I8 ts y.1 y.2) (fun y=>⟨[(2,Dq y.1),(3,.nils),(4,.str []),(0,.ptr (.o 0) 0 0)],[Bq ts y.2],[],[]⟩) ?_ ?_
 ·refine WC.b1 ?_
  refine WC.loop (X:=Nat × List De × PS) (fun y=>if y.2.1=[] then ⟨[(2,.nils),(3,.nils),(4,.str []),(0,.ptr (.o 0) 0 0)],[Bq ts y.2.2],[],[]⟩ else ⟨[(2,.ref (.l 0) 0 y.2.1.length),(3,.nils),(4,.str []),(0,.ptr (.o 0) 0 0)],[Bq ts y.2.2],[.row (y.2.1.map deV) 6 75],[]⟩)
   (fun y=>PInv ts y.2.2∧rem ts y.2.2 + 1≤y.1∧y.2.1.length≤y.2.2.at_∧x=bnd (Kf ts y.1 y.2.1 y.2.2) (I8 ts)) (fun y=>y.1) (rem ts s0 + 1,[],s0) [] ⟨i0,Nat.le_refl _,Nat.zero_le _,hx⟩ ?_ ?_
  ·dsimp only
   rw [if_pos rfl]
   exact Conv.all (by simp only [EC,simprocAttr,PRN])
  clear hx
  rintro ⟨m,acc,s1⟩ ⟨i1,hr,hlen,hx⟩
  dsimp only at i1 hr hlen hx ⊢
  have hle:=i1.le
  have hlt:=i1.lt
  obtain ⟨m,rfl⟩:∃ k,m=k + 1:=⟨m - 1,by omega⟩
  rw [Kf] at hx
  by_cases hne:acc=[]
  ·skip
   subst hne
   rw [if_pos rfl]
   refine Am fun K3 hK3=>?_
   refine WC.rs fun K hK=>?_
   simp only [↓EJ,FY,simprocAttr]
   repeat rw [Ae] at hx
   refine CallX.acc hx i1 fun b2 s2 h2 hx g2 i2=>?_
   have r2:=g2.rem
   have a2:=g2.2
   simp only [↓EJ,FY,simprocAttr]
   refine hK _ ?_;clear hK K
   refine WC.cond rfl (fun h=>?_) fun h=>?_
   ·obtain rfl:b2=true:=by simpa using h
    dsimp only at hx
    have q2:=(Bm i1 h2).rem
    refine WC.skip (hK3 _ ?_)
    refine WC.b1 ?_
    refine A2 [3] fun K hK=>?_
    simp only [↓EJ,FY,simprocAttr,EZ]
    repeat rw [Ae] at hx
    refine Af hx (Ha ts s2 i2) (by simp only [CL,PCL,TCL,DCL,FCL,RCL,MCL,BCL,and_self]) (fun v=>by simp only [CL,PCL,TCL,DCL,FCL,RCL,MCL,BCL,and_self]) fun t s3 h3 hx=>?_
    have g3:=F6 i2 h3
    have i3:=g3.1
    have r3:=g3.rem
    have a3:=g3.2
    simp only [↓EJ,FY,simprocAttr,EZ,DS,MS]
    refine hK _ (Aa [0,2,3,4,6,17] ?_);clear hK K
    refine F9 [1] ?_
    simp only [↓EJ,FY,simprocAttr,EZ]
    repeat rw [Ae] at hx
    refine CallX.exp hx i3 fun u4 s4 h4 hx g4 i4=>?_
    have r4:=g4.rem
    have a4:=g4.2
    simp only [↓EJ,FY,simprocAttr,EZ]
    try simp only [EQ,simprocAttr]
    refine ⟨(m,[t],s4),[0],⟨i4,by dsimp only;omega,by simp only [List.length_append,List.length_cons,List.length_nil];omega,hx⟩,by dsimp only;omega,?_⟩
    dsimp only
    rw [if_neg (by simp)]
    exact Conv.all (by simp only [EC,simprocAttr,PRN,MRN,DRN,DS,Aw,List.map_append,List.map_cons,List.map_nil,List.length_append,List.length_cons,List.length_nil])
   ·obtain rfl:b2=false:=by simpa using h
    dsimp only at hx
    simp only [Ay] at hx
    refine WC.exit ?_
    simp only [EQ,reduceIte,Nat.reduceEqDiff]
    try simp only [EQ,reduceIte,Nat.reduceEqDiff]
    refine ⟨([],s2),[],⟨i2,hx⟩,?_⟩
    dsimp only
    rw [Di]
    exact Conv.all (by simp only [EC,simprocAttr,PRN])
  ·skip
   rw [if_neg hne]
   refine Am fun K3 hK3=>?_
   refine WC.rs fun K hK=>?_
   simp only [↓EJ,FY,simprocAttr]
   repeat rw [Ae] at hx
   refine CallX.acc hx i1 fun b2 s2 h2 hx g2 i2=>?_
   have r2:=g2.rem
   have a2:=g2.2
   simp only [↓EJ,FY,simprocAttr]
   refine hK _ ?_;clear hK K
   refine WC.cond rfl (fun h=>?_) fun h=>?_
   ·obtain rfl:b2=true:=by simpa using h
    dsimp only at hx
    have q2:=(Bm i1 h2).rem
    refine WC.skip (hK3 _ ?_)
    refine WC.b1 ?_
    refine A2 [3] fun K hK=>?_
    simp only [↓EJ,FY,simprocAttr,EZ]
    repeat rw [Ae] at hx
    refine Af hx (Ha ts s2 i2) (by simp only [CL,PCL,TCL,DCL,FCL,RCL,MCL,BCL,and_self]) (fun v=>by simp only [CL,PCL,TCL,DCL,FCL,RCL,MCL,BCL,and_self]) fun t s3 h3 hx=>?_
    have g3:=F6 i2 h3
    have i3:=g3.1
    have r3:=g3.rem
    have a3:=g3.2
    simp only [↓EJ,FY,simprocAttr,EZ,DS,MS]
    refine ⟨by rw [List.length_map],by omega,by omega,?_⟩
    refine hK _ (Aa [0,2,3,4,6,17] ?_);clear hK K
    refine F9 [1] ?_
    simp only [↓EJ,FY,simprocAttr,EZ]
    repeat rw [Ae] at hx
    refine CallX.exp hx i3 fun u4 s4 h4 hx g4 i4=>?_
    have r4:=g4.rem
    have a4:=g4.2
    simp only [↓EJ,FY,simprocAttr,EZ]
    try simp only [EQ,simprocAttr]
    refine ⟨(m,acc ++ [t],s4),[1],⟨i4,by dsimp only;omega,by simp only [List.length_append,List.length_cons,List.length_nil];omega,hx⟩,by dsimp only;omega,?_⟩
    dsimp only
    rw [if_neg (by simp)]
    exact Conv.all (by simp only [EC,simprocAttr,PRN,MRN,DRN,DS,Aw,List.map_append,List.map_cons,List.map_nil,List.length_append,List.length_cons,List.length_nil])
   ·obtain rfl:b2=false:=by simpa using h
    dsimp only at hx
    simp only [Ay] at hx
    refine WC.frz 2 0 rfl rfl (by simp) ?_
    refine WC.exit ?_
    simp only [EQ,reduceIte,Nat.reduceEqDiff]
    try simp only [EQ,reduceIte,Nat.reduceEqDiff]
    refine ⟨(acc,s2),[],⟨i2,hx⟩,?_⟩
    dsimp only
    rw [Ka hne]
    have ht:List.take acc.length (List.drop 0 (List.map deV acc))=List.map deV acc:=by rw [List.drop_zero,List.take_of_length_le (by simp)]
    rw [ht]
    exact Conv.all (by simp only [EC,simprocAttr,PRN,DRN])
 ·rintro ⟨vs,s1⟩ ⟨i1,hx1⟩
  dsimp only at i1 hx1 ⊢
  clear hx
  rename x=_=>hx
  unfold I8 at hx
  refine Bt (X:=List Sm × PS) (fun y=>PInv ts y.2∧x=L7 ts vs y.1 y.2) (fun y=>⟨[(3,C3 y.1),(2,Dq vs),(4,.str []),(0,.ptr (.o 0) 0 0)],[Bq ts y.2],[],[]⟩) ?_ ?_
  ·refine WC.b1 ?_
   refine WC.loop (X:=Nat × List Sm × PS) (fun y=>if y.2.1=[] then ⟨[(3,.nils),(2,Dq vs),(4,.str []),(0,.ptr (.o 0) 0 0)],[Bq ts y.2.2],[],[]⟩ else ⟨[(3,.ref (.l 0) 0 y.2.1.length),(2,Dq vs),(4,.str []),(0,.ptr (.o 0) 0 0)],[Bq ts y.2.2],[.row (y.2.1.map smV) 25 61],[]⟩)
    (fun y=>PInv ts y.2.2∧3 * rem ts y.2.2 + 2≤y.1∧y.2.1.length≤y.2.2.at_∧x=bnd (Ek ts [114,101,116,117,114,110] y.1 y.2.1 y.2.2) (L7 ts vs)) (fun y=>y.1) (O9 ts s1,[],s1) [] ⟨i1,Nat.le_refl _,Nat.zero_le _,hx⟩ ?_ ?_
   ·dsimp only
    rw [if_pos rfl]
    exact Conv.all (by simp only [EC,simprocAttr,PRN,A3])
   clear hx i1
   rintro ⟨m,acc,s1⟩ ⟨i1,hr,hlen,hx⟩
   dsimp only at i1 hr hlen hx ⊢
   have hle:=i1.le
   have hlt:=i1.lt
   obtain ⟨m,rfl⟩:∃ k,m=k + 1:=⟨m - 1,by omega⟩
   have Xm:=Sg ts m
   rw [Ek] at hx
   by_cases hne:acc=[]
   ·skip
    subst hne
    rw [if_pos rfl]
    refine Am fun K3 hK3=>?_
    cases hp:isP ts s1 [114,101,116,117,114,110] with
    | true =>
      simp only [hp,Ay] at hx
      refine WC.rs fun K hK=>?_
      simp only [↓EJ,FY,simprocAttr]
      refine CallX.mk (CallW.one (r:=.o 0) (D3 ts s1 i1 [114,101,116,117,114,110]) rfl (Ag ts s1) (Ag ts s1) (by simp only [CL]) (by simp [Ba,ren,A4]) ?_)
      rw [hp]
      simp only [↓EJ,FY,simprocAttr]
      refine hK _ ?_;clear hK K
      refine WC.cond rfl (fun h=>?_) fun h=>?_
      ·simp at h
      refine WC.exit ?_
      simp only [EQ,reduceIte,Nat.reduceEqDiff]
      try simp only [EQ,reduceIte,Nat.reduceEqDiff]
      refine ⟨([],s1),[],⟨i1,hx⟩,?_⟩
      dsimp only
      rw [smsV_nil]
      exact Conv.all (by simp only [EC,simprocAttr,PRN,A3])
    | false =>
      simp only [hp] at hx
      refine WC.rs fun K hK=>?_
      simp only [↓EJ,FY,simprocAttr]
      refine CallX.mk (CallW.one (r:=.o 0) (D3 ts s1 i1 [114,101,116,117,114,110]) rfl (Ag ts s1) (Ag ts s1) (by simp only [CL]) (by simp [Ba,ren,A4]) ?_)
      rw [hp]
      simp only [↓EJ,FY,simprocAttr]
      refine hK _ ?_;clear hK K
      refine WC.cond rfl (fun h=>?_) fun h=>?_
      rotate_left
      ·simp at h
      refine WC.skip (hK3 _ ?_)
      refine WC.b1 ?_
      refine F9 [3] ?_
      simp only [↓EJ,FY,simprocAttr,EZ]
      repeat rw [Ae] at hx
      refine Af hx (Wa ts s1 i1 m (by omega)) (by simp only [CL,PCL,TCL,DCL,FCL,RCL,MCL,BCL,and_self]) (fun v=>by simp only [CL,PCL,TCL,DCL,FCL,RCL,MCL,BCL,and_self]) fun t s3 h3 hx=>?_
      have g3:=Xm.stmt i1 h3
      have i3:=g3.1
      have r3:=g3.rem
      have a3:=g3.2
      simp only [↓EJ,FY,simprocAttr,EZ,MS]
      try simp only [EQ,simprocAttr]
      refine ⟨(m,[t],s3),[0],⟨i3,by dsimp only;omega,by simp only [List.length_append,List.length_cons,List.length_nil];omega,hx⟩,by dsimp only;omega,?_⟩
      dsimp only
      rw [if_neg (by simp)]
      exact Conv.all (by simp only [EC,simprocAttr,PRN,MRN,MS,A3,Aw,List.map_append,List.map_cons,List.map_nil,List.length_append,List.length_cons,List.length_nil])
   ·skip
    rw [if_neg hne]
    refine Am fun K3 hK3=>?_
    cases hp:isP ts s1 [114,101,116,117,114,110] with
    | true =>
      simp only [hp,Ay] at hx
      refine WC.rs fun K hK=>?_
      simp only [↓EJ,FY,simprocAttr]
      refine CallX.mk (CallW.one (r:=.o 0) (D3 ts s1 i1 [114,101,116,117,114,110]) rfl (Ag ts s1) (Ag ts s1) (by simp only [CL]) (by simp [Ba,ren,A4]) ?_)
      rw [hp]
      simp only [↓EJ,FY,simprocAttr]
      refine hK _ ?_;clear hK K
      refine WC.cond rfl (fun h=>?_) fun h=>?_
      ·simp at h
      refine WC.frz 3 0 rfl rfl (by simp) ?_
      refine WC.exit ?_
      simp only [EQ,reduceIte,Nat.reduceEqDiff]
      try simp only [EQ,reduceIte,Nat.reduceEqDiff]
      refine ⟨(acc,s1),[],⟨i1,hx⟩,?_⟩
      dsimp only
      rw [P6 hne]
      have ht:List.take acc.length (List.drop 0 (List.map smV acc))=List.map smV acc:=by rw [List.drop_zero,List.take_of_length_le (by simp)]
      rw [ht]
      exact Conv.all (by simp only [EC,simprocAttr,PRN,MRN,A3])
    | false =>
      simp only [hp] at hx
      refine WC.rs fun K hK=>?_
      simp only [↓EJ,FY,simprocAttr]
      refine CallX.mk (CallW.one (r:=.o 0) (D3 ts s1 i1 [114,101,116,117,114,110]) rfl (Ag ts s1) (Ag ts s1) (by simp only [CL]) (by simp [Ba,ren,A4]) ?_)
      rw [hp]
      simp only [↓EJ,FY,simprocAttr]
      refine hK _ ?_;clear hK K
      refine WC.cond rfl (fun h=>?_) fun h=>?_
      rotate_left
      ·simp at h
      refine WC.skip (hK3 _ ?_)
      refine WC.b1 ?_
      refine F9 [3] ?_
      simp only [↓EJ,FY,simprocAttr,EZ]
      repeat rw [Ae] at hx
      refine Af hx (Wa ts s1 i1 m (by omega)) (by simp only [CL,PCL,TCL,DCL,FCL,RCL,MCL,BCL,and_self]) (fun v=>by simp only [CL,PCL,TCL,DCL,FCL,RCL,MCL,BCL,and_self]) fun t s3 h3 hx=>?_
      have g3:=Xm.stmt i1 h3
      have i3:=g3.1
      have r3:=g3.rem
      have a3:=g3.2
      simp only [↓EJ,FY,simprocAttr,EZ,MS]
      refine ⟨by rw [List.length_map],by omega,by omega,?_⟩
      try simp only [EQ,simprocAttr]
      refine ⟨(m,acc ++ [t],s3),[1],⟨i3,by dsimp only;omega,by simp only [List.length_append,List.length_cons,List.length_nil];omega,hx⟩,by dsimp only;omega,?_⟩
      dsimp only
      rw [if_neg (by simp)]
      exact Conv.all (by simp only [EC,simprocAttr,PRN,MRN,MS,A3,Aw,List.map_append,List.map_cons,List.map_nil,List.length_append,List.length_cons,List.length_nil])
  ·rintro ⟨l,s2⟩ ⟨i2,hx2⟩
   dsimp only at i2 hx2 ⊢
   clear hx
   rename x=_=>hx
   unfold L7 at hx
   refine A2 [1] fun K hK=>?_
   simp only [↓EJ,FY,simprocAttr,EZ]
   repeat rw [Ae] at hx
   refine CallX.exp hx i2 fun u3 s3 h3 hx g3 i3=>?_
   simp only [↓EJ,FY,simprocAttr,EZ]
   refine hK _ (Aa [0,2,3,4] ?_);clear hK K
   refine WC.rs fun K hK=>?_
   simp only [↓EJ,FY,simprocAttr]
   repeat rw [Ae] at hx
   refine Af hx (C4 ts s3 i3) (by simp only [CL,PCL,TCL,DCL,FCL,RCL,MCL,BCL,and_self]) (fun v=>by simp only [CL,PCL,TCL,DCL,FCL,RCL,MCL,BCL,and_self]) fun w s4 h4 hx=>?_
   have g4:=B9 i3 h4
   have i4:=g4.1
   simp only [↓EJ,FY,simprocAttr]
   refine hK _ ?_;clear hK K
   refine A2 [1] fun K hK=>?_
   simp only [↓EJ,FY,simprocAttr,EZ]
   repeat rw [Ae] at hx
   refine CallX.exp hx i4 fun u5 s5 h5 hx g5 i5=>?_
   simp only [↓EJ,FY,simprocAttr,EZ]
   refine hK _ ?_;clear hK K
   refine WC.go (Aa [0,2,3,4] ?_)
   refine WC.ret ?_
   simp only [↓EJ,FY,simprocAttr,EQ,EF,Tryz.results68]
   exact PSem.done (fn:=Tryz.f68) (s:=s5) (v:=⟨vs,l,w⟩) hx rfl (of_eq_true (by simp only [CL,PCL,TCL,DCL,FCL,RCL,MCL,BCL,and_self])) rfl
end Go.LexSem
-- CLOSERS: PCL,TCL,DCL,FCL,RCL,MCL,BCL,GCL
set_option maxHeartbeats 64000000
set_option maxRecDepth 8000
namespace Go.LexSem
open Go Go.V Go.Proofs Go.Num

/-! ### Programs -/
structure Fn where
 name:List UInt8
 args:List De
 vars:List De
 body:List Sm
 result:List UInt8
def fnC (f:Fn):List PVal:=[.str f.name,Dq f.args,Dq f.vars,C3 f.body,.str f.result]
def fnV (f:Fn):PVal:=.agg (fnC f)
def D4 (l:List Fn):PVal:=if l=[] then .nils else .slc (l.map fnV)
def Cs (l:List (List UInt8)):PVal:=if l=[] then .nils else .slc (l.map .str)
theorem Ip:D4 []=.nils:=rfl
theorem L5 {l:List Fn} (h:l≠[]):D4 l=.slc (l.map fnV):=if_neg h
theorem Om:Cs []=.nils:=rfl
theorem Q5 {l:List (List UInt8)} (h:l≠[]):Cs l=.slc (l.map .str):=if_neg h
theorem Dh (f:Fn):Closed (fnV f):=of_eq_true (by simp only [fnV,fnC,CL,BCL,MCL,and_self])
theorem Pm (l:List Fn):ClosedL (l.map fnV):=ClosedL.map (fun d=>Dh d) l
theorem Ll (l:List Fn):Closed (D4 l):=by
 unfold D4
 split
 ·exact fun _=>rfl
 ·exact .slc (Pm l)
theorem Jx (l:List (List UInt8)):Closed (Cs l):=by
 unfold Cs
 split
 ·exact fun _=>rfl
 ·exact .slc (ClosedL.map (fun t=>fun _=>rfl) l)
theorem Bi:(∀ l,(Dq l).solid=true)∧(∀ l,(Dq l).cells=[Dq l]):=by
 constructor <;> intro l <;> unfold Dq <;> split <;> rfl
theorem PGR:(∀ f l,ren f (D4 l)=D4 l)∧(∀ f l,ren f (Cs l)=Cs l)∧(∀ f (l:List Fn),Ba f (l.map fnV)=l.map fnV):=⟨fun f l=>Ll l f,fun f l=>Jx l f,fun f l=>Pm l f⟩
theorem PGS:(∀ d,fnV d=.agg (fnC d))∧(∀ d,fnC d=[.str d.name,Dq d.args,Dq d.vars,C3 d.body,.str d.result]):=⟨fun _=>rfl,fun _=>rfl⟩
structure Pg where
 params:List (List UInt8)
 funcs:List Fn
 queries:List Fn
 vars:List De
 body:List Sm
 result:List UInt8
def pgC (p:Pg):List PVal:=[Cs p.params,D4 p.funcs,D4 p.queries,Dq p.vars,C3 p.body,.str p.result]
def pgV (p:Pg):PVal:=.agg (pgC p)
theorem GCL:(∀ l,Closed (D4 l)=True)∧(∀ l,Closed (Cs l)=True)∧(∀ p,Closed (pgV p)=True) :=
 ⟨fun l=>eq_true (Ll l),fun l=>eq_true (Jx l),fun p=>by simp only [pgV,pgC,CL,eq_true (Ll _),eq_true (Jx _),BCL,MCL,and_self]⟩
def Gt (ts:List Tok):Nat→List De→PS→PR (List De)
 | 0,_,_=>.error Jq
 | n + 1,acc,s=>bnd (Ak ts [44] s) fun b s=>match b with
   | false=>.ok (acc,s)
   | true=>bnd (N8 ts s) fun d s=>Gt ts n (acc ++ [d]) s
def Fo (ts:List Tok) (w:List UInt8) (al:List De) (s:PS):PR Fn:=bnd (Ah ts [[41],[123]] s) fun _ s=>bnd (Fs ts s) fun b s=>bnd (Ah ts [[125]] s) fun _ s=>.ok (⟨w,al,b.vars,b.body,b.result⟩,s)
def Nw (ts:List Tok) (s:PS):PR Fn:=bnd (C2 ts s) fun w s=>bnd (Ah ts [[40]] s) fun _ s=>match isP ts s [41] with
 | true=>Fo ts w [] s
 | false=>bnd (bnd (N8 ts s) fun d s=>Gt ts (rem ts s + 1) [d] s) (Fo ts w)
def J1 (ts:List Tok) (s:PS):PR Fn:=bnd (C2 ts s) fun w s=>bnd (Ah ts [[123]] s) fun _ s=>bnd (Fs ts s) fun b s=>bnd (Ah ts [[125]] s) fun _ s=>.ok (⟨w,[],b.vars,b.body,b.result⟩,s)
def Gy (ts:List Tok):Nat→List Fn→List Fn→PS→PR (List Fn × List Fn)
 | 0,_,_,_=>.error Jq
 | n + 1,F,Q,s=>bnd (Ak ts [102,117,110,99] s) fun b s=>match b with
   | true=>bnd (Nw ts s) fun f s=>Gy ts n (F ++ [f]) Q s
   | false=>bnd (Ak ts [113,117,101,114,121] s) fun b s=>match b with
     | true=>bnd (J1 ts s) fun f s=>Gy ts n F (Q ++ [f]) s
     | false=>.ok ((F,Q),s)
def Hw (ts:List Tok):Nat→List (List UInt8)→PS→PR (List (List UInt8))
 | 0,_,_=>.error Jq
 | n + 1,acc,s=>bnd (Ak ts [112,97,114,97,109] s) fun b s=>match b with
   | false=>.ok (acc,s)
   | true=>bnd (C2 ts s) fun w s=>bnd (Ah ts [[59]] s) fun _ s=>Hw ts n (acc ++ [w]) s
def Fr (ts:List Tok) (ps:List (List UInt8)) (FQ:List Fn × List Fn) (s:PS):PR Pg:=bnd (Fs ts s) fun b s=>if (cur ts s).1≠5 then .error (Gr (cur ts s) 4) else .ok (⟨ps,FQ.1,FQ.2,b.vars,b.body,b.result⟩,s)
def Lf (ts:List Tok) (ps:List (List UInt8)) (s:PS):PR Pg:=bnd (Gy ts (rem ts s + 1) [] [] s) (Fr ts ps)
def Hp (ts:List Tok) (s:PS):PR Pg:=bnd (Hw ts (rem ts s + 1) [] s) (Lf ts)
end Go.LexSem
