/-
 Texts joined: PaAF.
-/
import Derived.Test.YtenieameoojbjaaGreatDoorUMN
set_option linter.unusedVariables false
set_option linter.unusedSimpArgs false
set_option linter.loopingSimpArgs false
-- CLOSERS: PCL,TCL,DCL,FCL,RCL,MCL,BCL,GCL
set_option maxHeartbeats 16000000
set_option maxRecDepth 8000
namespace Go.LexSem
open Go Go.V Go.Proofs Go.Num

/-- The same, in a form that can be reckoned. -/
def parseN (s:List UInt8):Except Er Pg :=
 match Mx (s.length + 1) s 0 1 1 [] with
 | (ts,l,c)=>if c≠0 then .error (l,c) else match Hp ts ⟨0,0⟩ with
   | .error e=>.error e
   | .ok (p,_)=>.ok p
theorem Wu {s:List UInt8} (hs:s.length≤8192):Ew s=parseN s:=by
 have h:Bx s=Mx (s.length + 1) s 0 1 1 []:=Q3 hs rfl
 unfold Ew parseN
 rw [h]
 generalize Mx (s.length + 1) s 0 1 1 []=r
 obtain ⟨ts,l,c⟩:=r
 rfl
def awA:List UInt8:=[118,97,114,32,120,58,32,98,111,111,108,59,32,120,32,126,32,102,108,105,112,40,49,47,51,41,59,32,114,101,116,117,114,110,32,120,59]
def awB:List UInt8:=[114,101,116,117,114,110,32,120]
def awP:Pg:=⟨[],[],[],[⟨[120],.mk 1 0 0 0 []⟩],[.mk 2 [120] [] 0 ze [] ⟨1,0,0,zr,zr,[.mk 3 0 (false,1,3) [] []],[]⟩ [] []],[120]⟩
theorem awA_eq:Ew awA=.ok awP:=(Wu (by decide)).trans (by kernel_rfl)
theorem awB_eq:Ew awB=.error ((1,9),4):=(Wu (by decide)).trans (by kernel_rfl)
theorem resV_ok {s:List UInt8} {p:Pg} (h:Ew s=.ok p):Ws (Ew s)=.tuple [pgV p,Mu 0 0,.int .i64 0]:=by rw [h];rfl
theorem resV_er {s:List UInt8} {e:Er} (h:Ew s=.error e):Ws (Ew s)=.tuple [pgV zpg,Mu e.1.1 e.1.2,.int .i64 (e.2:Nat)]:=by rw [h];rfl
theorem zpg_V:pgV zpg=.agg [.nils,.nils,.nils,.nils,.nils,.str []]:=by simp [pgV,pgC,zpg,Cs,D4,Dq,C3]
theorem awP_V:∃ d st,pgV awP=.agg [.nils,.nils,.nils,.slc [d],.slc [.agg st],.str [120]]∧d.cells.length=6∧st.length=25∧st[0]? = some (.int .i64 2) :=
 ⟨deV ⟨[120],.mk 1 0 0 0 []⟩,smC (.mk 2 [120] [] 0 ze [] ⟨1,0,0,zr,zr,[.mk 3 0 (false,1,3) [] []],[]⟩ [] []),by simp [pgV,pgC,awP,Cs,D4,Dq,C3,smL],by rw [show (deV _).cells=deC _ from rfl,Qj],P7 _,by simp [smC]⟩
theorem Tv:FSem C 9 [] [] fun r st=>r=.ret (.bool true)∧st=[]:=by
 have hA:=Oo awA
 have hB:=Oo awB
 rw [resV_ok awA_eq] at hA
 rw [resV_er awB_eq,zpg_V] at hB
 have cA:Closed (pgV awP):=of_eq_true (GCL.2.2 awP)
 obtain ⟨d,st,hV,hd,hst,h0⟩:=awP_V
 rw [hV] at hA cA
 have cA':(ClosedL [d]∧ClosedL st):=by
  simp only [CL,true_and,and_true] at cA
  exact ⟨by simp only [CL,cA.1,and_self],cA.2⟩
 unfold awA at hA
 unfold awB at hB
 unfold Mu at hA hB
 refine FSem.en 48 Tryz.func9 ?_
 simp only [Aj]
 refine WC.go ?_
 refine WC.rs fun K hK=>?_
 simp only [↓EJ,FY,simprocAttr]
 refine CallX.mk (CallW.pure hA (by simp only [CL,and_self]) (by simp only [CL,eq_true cA'.1,eq_true cA'.2,and_self]) ?_)
 simp only [↓EJ,FY,simprocAttr]
 refine hK _ (Aa [0,1,3,5,6] ?_);clear hK K
 refine WC.rs fun K hK=>?_
 simp only [↓EJ,FY,simprocAttr]
 refine Bg hB ?_
 simp only [↓EJ,FY,simprocAttr]
 refine hK _ (Aa [0,1,3,5,6] ?_);clear hK K
 refine WC.rs fun K hK=>?_
 simp only [↓EJ,FY,simprocAttr,List.length_cons,List.length_nil,gi_0,hst,h0,Int.cast_ofNat_Int]
 refine hK _ (Aa [0] ?_);clear hK K
 refine WC.ret ?_
 simp only [↓EJ,FY,simprocAttr,EQ,EF,Tryz.results9]
 exact Dt (by simp only [CL]) rfl
end Go.LexSem
