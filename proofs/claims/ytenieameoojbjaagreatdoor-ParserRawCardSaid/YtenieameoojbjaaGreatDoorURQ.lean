/-
 Texts joined: RpC.
-/
import Derived.Test.YtenieameoojbjaaGreatDoorURP
import Derived.Test.YtenieameoojbjaaGreatDoorURO
import Derived.Test.YtenieameoojbjaaGreatDoorURG
set_option linter.unusedVariables false
set_option linter.unusedSimpArgs false
set_option linter.loopingSimpArgs false
-- TIGHT
-- CLOSERS: PCL,TCL,DCL,FCL,RCL,MCL,BCL,GCL
set_option maxHeartbeats 32000000
set_option maxRecDepth 8000
namespace Go.LexSem
open Go Go.V Go.Proofs Go.Num

theorem zpgOk:Wt zpg=true:=rfl
/-- What a parse hands back: a program, a place, a code. -/
theorem resV_form (s:List UInt8):∃ (p:Pg) (l c:Int) (e:Nat),Ws (Ew s)=.tuple [pgV p,.agg [.int .i64 l,.int .i64 c],.int .i64 e]∧Wt p=true:=by
 cases h:Ew s with
 | error q=>exact ⟨zpg,q.1.1,q.1.2,q.2,rfl,zpgOk⟩
 | ok p=>exact ⟨p,0,0,0,rfl,parse_ok h⟩
theorem pgV_ex2 (p:Pg):∃ cs,pgV p=.agg cs∧cs.length=6∧ClosedL cs:=⟨pgC p,rfl,rfl,by
 have h:=GCL.2.2 p
 rw [pgV] at h
 have:Closed (.agg (pgC p))=ClosedL (pgC p):=CL.2.2.2.2.2.2.2.2.2.2.2.2.1 _
 rw [this] at h
 exact of_eq_true h⟩
theorem Lh (s:List UInt8):FSem C 10 [.str s] [] fun r st=>r=.ret (.bool true)∧st=[]:=by
 have h1:=Oo s
 have h2:=Yk fracR_all s
 obtain ⟨p,l,c,e,hr,hp⟩:=resV_form s
 rw [hr] at h1 h2
 have hs:=Wh p hp
 obtain ⟨cs,hcs,hl6,hcl⟩:=pgV_ex2 p
 rw [hcs] at h1 h2 hs
 have hd6:List.drop 6 cs=[]:=List.drop_of_length_le (by omega)
 have ht6:List.take 6 cs=cs:=List.take_of_length_le (by omega)
 have hee:((e:Int)=(e:Int))=True:=eq_true rfl
 refine FSem.en 34 Tryz.func10 ?_
 simp only [Aj]
 refine WC.go ?_
 refine WC.rs fun K hK=>?_
 simp only [↓EJ,FY,simprocAttr]
 refine CallX.mk (CallW.pure h1 (by simp only [CL,and_self]) (by simp only [CL,eq_true hcl,and_self]) ?_)
 simp only [↓EJ,FY,simprocAttr,hl6,hd6,ht6]
 refine hK _ (Aa [0,2,3,4,5,6,7,8] ?_);clear hK K
 refine WC.rs fun K hK=>?_
 simp only [↓EJ,FY,simprocAttr]
 refine CallX.mk (CallW.pure h2 (by simp only [CL,and_self]) (by simp only [CL,eq_true hcl,and_self]) ?_)
 simp only [↓EJ,FY,simprocAttr,hl6,hd6,ht6]
 refine hK _ (Aa [2,3,4,5,6,7,8] ?_);clear hK K
 refine WC.rs fun K hK=>?_
 simp only [↓EJ,FY,simprocAttr,hl6,hd6,ht6,hee,Bool.not_true,Bool.not_false]
 refine CallX.mk (CallW.pure hs (by simp only [CL,eq_true hcl,and_self]) (by simp only [CL]) ?_)
 simp only [↓EJ,FY,simprocAttr]
 refine hK _ (Aa [2] ?_);clear hK K
 refine WC.ret ?_
 simp only [↓EJ,FY,simprocAttr,EQ,EF,Tryz.results10]
 exact Dt (by simp only [CL]) rfl
theorem parserRaw_sem (s:List UInt8):FSem C 3 [.str s] [] fun r st=>r=.ret (.bool true)∧st=[]:=by
 refine FSem.en 23 Tryz.func3 ?_
 simp only [Aj]
 refine WC.go ?_
 refine Am fun K1 hK1=>?_
 refine WC.go ?_
 refine WC.cond rfl (fun h=>?_) fun h=>?_
 ·refine WC.rs fun K hK=>?_
  simp only [↓EJ,FY,simprocAttr]
  refine Bg Tv ?_
  simp only [↓EJ,FY,simprocAttr]
  refine hK _ ?_;clear hK K
  refine WC.ret ?_
  simp only [↓EJ,FY,simprocAttr,EQ,EF,Tryz.results3]
  exact Dt (by simp only [CL]) rfl
 have hlen:s.length≤400:=by simp at h;omega
 refine WC.skip (hK1 _ ?_)
 refine WC.rs fun K hK=>?_
 simp only [↓EJ,FY,simprocAttr,Bool.not_true,Bool.not_false]
 refine Bg (Lh s) ?_
 simp only [↓EJ,FY,simprocAttr,Bool.not_true,Bool.not_false,List.length_append,List.length_cons,List.length_nil]
 refine ⟨by omega,?_⟩
 refine Bg (Lh _) ?_
 simp only [↓EJ,FY,simprocAttr,Bool.not_true,Bool.not_false,List.length_append,List.length_cons,List.length_nil]
 refine ⟨by omega,by omega,?_⟩
 refine Bg (Lh _) ?_
 simp only [↓EJ,FY,simprocAttr,Bool.not_true,Bool.not_false]
 refine Bg Tv ?_
 simp only [↓EJ,FY,simprocAttr]
 refine hK _ (Aa [2] ?_);clear hK K
 refine WC.ret ?_
 simp only [↓EJ,FY,simprocAttr,EQ,EF,Tryz.results3]
 exact Dt (by simp only [CL]) rfl
end Go.LexSem
