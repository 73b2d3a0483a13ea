import Derived.Test.YtednoahjadghnaaDoorLFacts
set_option linter.unusedSimpArgs false
set_option linter.unusedVariables false
set_option linter.loopingSimpArgs false
namespace Go.LexSem
open Go Go.V Go.Proofs

/-! ### bytes -/
def blankI (x : Int) : Bool := decide (x = 32) || (decide (x = 9) || decide (x = 10))
def digitI (x : Int) : Bool := decide (48 ≤ x) && decide (x ≤ 57)
def letterI (x : Int) : Bool := (decide (97 ≤ x) && decide (x ≤ 122)) || ((decide (65 ≤ x) && decide (x ≤ 90)) || decide (x = 95))

theorem digit_sem (x : Int) : FSem C 29 [.int .u8 x] [] fun r st => r = .ret (.bool (digitI x)) ∧ st = [] := by
  refine FSem.enter' (C := C) (n := 9) Tryd.func29 rfl rfl ok_29 (by simp) ?_
  simp only [argEnv]
  refine WC.rs fun K hK => ?_
  simp (maxSteps := 1000000) only [↓yld_succ, ↓yld_zero, EV, EO, ED, ↓EW, ↓EI, EB, EP, EL, tyq_4, bool_4, tz_4, tyq_5, inq_5, tz_5, Nat.reduceAdd, Nat.reduceSub, Nat.reduceMul, Nat.reduceLT, Nat.reduceLeDiff, Nat.reduceEqDiff, Int.reduceToNat, Int.reduceLE, Int.reduceLT, Int.reduceEq, Int.reduceNeg, reduceCtorEq, reduceIte, decide_true, decide_false, List.forall_mem_cons, List.not_mem_nil, false_implies, implies_true, Bool.and_true, Bool.true_and, and_self, Nat.sub_zero, Nat.zero_add, Nat.add_zero]
  refine hK _ ?_; try clear hK K
  refine WC.trim [0, 2] ?_
  simp only [ET, Nat.reduceEqDiff, reduceIte]
  refine WC.rs fun K hK => ?_
  simp (maxSteps := 1000000) only [↓yld_succ, ↓yld_zero, EV, EO, ED, ↓EW, ↓EI, EB, EP, EL, tyq_4, bool_4, tz_4, tyq_5, inq_5, tz_5, Nat.reduceAdd, Nat.reduceSub, Nat.reduceMul, Nat.reduceLT, Nat.reduceLeDiff, Nat.reduceEqDiff, Int.reduceToNat, Int.reduceLE, Int.reduceLT, Int.reduceEq, Int.reduceNeg, reduceCtorEq, reduceIte, decide_true, decide_false, List.forall_mem_cons, List.not_mem_nil, false_implies, implies_true, Bool.and_true, Bool.true_and, and_self, Nat.sub_zero, Nat.zero_add, Nat.add_zero]
  repeat' ((first | refine gW_split (fun h => ?_) (fun h => ?_) | refine gP_split (fun h => ?_) (fun h => ?_)) <;> simp (maxSteps := 1000000) only [↓yld_succ, ↓yld_zero, EV, EO, ED, ↓EW, ↓EI, EB, EP, EL, tyq_4, bool_4, tz_4, tyq_5, inq_5, tz_5, Nat.reduceAdd, Nat.reduceSub, Nat.reduceMul, Nat.reduceLT, Nat.reduceLeDiff, Nat.reduceEqDiff, Int.reduceToNat, Int.reduceLE, Int.reduceLT, Int.reduceEq, Int.reduceNeg, reduceCtorEq, reduceIte, decide_true, decide_false, List.forall_mem_cons, List.not_mem_nil, false_implies, implies_true, Bool.and_true, Bool.true_and, and_self, Nat.sub_zero, Nat.zero_add, Nat.add_zero, h, Bool.not_true, Bool.not_false])
  all_goals
    refine hK _ ?_; try clear hK K
    refine WC.trim [0, 2] ?_
    simp only [ET, Nat.reduceEqDiff, reduceIte]
    refine WC.ret ?_
    simp (maxSteps := 1000000) only [↓yld_succ, ↓yld_zero, EV, EO, ED, ↓EW, ↓EI, EB, EP, EL, tyq_4, bool_4, tz_4, tyq_5, inq_5, tz_5, Nat.reduceAdd, Nat.reduceSub, Nat.reduceMul, Nat.reduceLT, Nat.reduceLeDiff, Nat.reduceEqDiff, Int.reduceToNat, Int.reduceLE, Int.reduceLT, Int.reduceEq, Int.reduceNeg, reduceCtorEq, reduceIte, decide_true, decide_false, List.forall_mem_cons, List.not_mem_nil, false_implies, implies_true, Bool.and_true, Bool.true_and, and_self, Nat.sub_zero, Nat.zero_add, Nat.add_zero, EQ, FnQ, Tryd.results29, wResL, tup, List.reverse_cons, List.reverse_nil, true_and]
    refine endsPure (by simp only [CL]) ?_
    simp [digitI, h]

theorem refDigit_sem (x : Int) : FSem C 33 [.int .u8 x] [] fun r st => r = .ret (.bool (digitI x)) ∧ st = [] := by
  refine FSem.enter' (C := C) (n := 9) Tryd.func33 rfl rfl ok_33 (by simp) ?_
  simp only [argEnv]
  refine WC.rs fun K hK => ?_
  simp (maxSteps := 1000000) only [↓yld_succ, ↓yld_zero, EV, EO, ED, ↓EW, ↓EI, EB, EP, EL, tyq_4, bool_4, tz_4, tyq_5, inq_5, tz_5, Nat.reduceAdd, Nat.reduceSub, Nat.reduceMul, Nat.reduceLT, Nat.reduceLeDiff, Nat.reduceEqDiff, Int.reduceToNat, Int.reduceLE, Int.reduceLT, Int.reduceEq, Int.reduceNeg, reduceCtorEq, reduceIte, decide_true, decide_false, List.forall_mem_cons, List.not_mem_nil, false_implies, implies_true, Bool.and_true, Bool.true_and, and_self, Nat.sub_zero, Nat.zero_add, Nat.add_zero]
  refine hK _ ?_; try clear hK K
  refine WC.trim [0, 2] ?_
  simp only [ET, Nat.reduceEqDiff, reduceIte]
  refine WC.rs fun K hK => ?_
  simp (maxSteps := 1000000) only [↓yld_succ, ↓yld_zero, EV, EO, ED, ↓EW, ↓EI, EB, EP, EL, tyq_4, bool_4, tz_4, tyq_5, inq_5, tz_5, Nat.reduceAdd, Nat.reduceSub, Nat.reduceMul, Nat.reduceLT, Nat.reduceLeDiff, Nat.reduceEqDiff, Int.reduceToNat, Int.reduceLE, Int.reduceLT, Int.reduceEq, Int.reduceNeg, reduceCtorEq, reduceIte, decide_true, decide_false, List.forall_mem_cons, List.not_mem_nil, false_implies, implies_true, Bool.and_true, Bool.true_and, and_self, Nat.sub_zero, Nat.zero_add, Nat.add_zero]
  repeat' ((first | refine gW_split (fun h => ?_) (fun h => ?_) | refine gP_split (fun h => ?_) (fun h => ?_)) <;> simp (maxSteps := 1000000) only [↓yld_succ, ↓yld_zero, EV, EO, ED, ↓EW, ↓EI, EB, EP, EL, tyq_4, bool_4, tz_4, tyq_5, inq_5, tz_5, Nat.reduceAdd, Nat.reduceSub, Nat.reduceMul, Nat.reduceLT, Nat.reduceLeDiff, Nat.reduceEqDiff, Int.reduceToNat, Int.reduceLE, Int.reduceLT, Int.reduceEq, Int.reduceNeg, reduceCtorEq, reduceIte, decide_true, decide_false, List.forall_mem_cons, List.not_mem_nil, false_implies, implies_true, Bool.and_true, Bool.true_and, and_self, Nat.sub_zero, Nat.zero_add, Nat.add_zero, h, Bool.not_true, Bool.not_false])
  all_goals
    refine hK _ ?_; try clear hK K
    refine WC.trim [0, 2] ?_
    simp only [ET, Nat.reduceEqDiff, reduceIte]
    refine WC.ret ?_
    simp (maxSteps := 1000000) only [↓yld_succ, ↓yld_zero, EV, EO, ED, ↓EW, ↓EI, EB, EP, EL, tyq_4, bool_4, tz_4, tyq_5, inq_5, tz_5, Nat.reduceAdd, Nat.reduceSub, Nat.reduceMul, Nat.reduceLT, Nat.reduceLeDiff, Nat.reduceEqDiff, Int.reduceToNat, Int.reduceLE, Int.reduceLT, Int.reduceEq, Int.reduceNeg, reduceCtorEq, reduceIte, decide_true, decide_false, List.forall_mem_cons, List.not_mem_nil, false_implies, implies_true, Bool.and_true, Bool.true_and, and_self, Nat.sub_zero, Nat.zero_add, Nat.add_zero, EQ, FnQ, Tryd.results33, wResL, tup, List.reverse_cons, List.reverse_nil, true_and]
    refine endsPure (by simp only [CL]) ?_
    simp [digitI, h]

theorem blank_sem (x : Int) : FSem C 18 [.int .u8 x] [] fun r st => r = .ret (.bool (blankI x)) ∧ st = [] := by
  refine FSem.enter' (C := C) (n := 13) Tryd.func18 rfl rfl ok_18 (by simp) ?_
  simp only [argEnv]
  refine WC.rs fun K hK => ?_
  simp (maxSteps := 1000000) only [↓yld_succ, ↓yld_zero, EV, EO, ED, ↓EW, ↓EI, EB, EP, EL, tyq_4, bool_4, tz_4, tyq_5, inq_5, tz_5, Nat.reduceAdd, Nat.reduceSub, Nat.reduceMul, Nat.reduceLT, Nat.reduceLeDiff, Nat.reduceEqDiff, Int.reduceToNat, Int.reduceLE, Int.reduceLT, Int.reduceEq, Int.reduceNeg, reduceCtorEq, reduceIte, decide_true, decide_false, List.forall_mem_cons, List.not_mem_nil, false_implies, implies_true, Bool.and_true, Bool.true_and, and_self, Nat.sub_zero, Nat.zero_add, Nat.add_zero]
  refine hK _ ?_; try clear hK K
  refine WC.trim [0, 2] ?_
  simp only [ET, Nat.reduceEqDiff, reduceIte]
  refine WC.rs fun K hK => ?_
  simp (maxSteps := 1000000) only [↓yld_succ, ↓yld_zero, EV, EO, ED, ↓EW, ↓EI, EB, EP, EL, tyq_4, bool_4, tz_4, tyq_5, inq_5, tz_5, Nat.reduceAdd, Nat.reduceSub, Nat.reduceMul, Nat.reduceLT, Nat.reduceLeDiff, Nat.reduceEqDiff, Int.reduceToNat, Int.reduceLE, Int.reduceLT, Int.reduceEq, Int.reduceNeg, reduceCtorEq, reduceIte, decide_true, decide_false, List.forall_mem_cons, List.not_mem_nil, false_implies, implies_true, Bool.and_true, Bool.true_and, and_self, Nat.sub_zero, Nat.zero_add, Nat.add_zero]
  repeat' ((first | refine gW_split (fun h => ?_) (fun h => ?_) | refine gP_split (fun h => ?_) (fun h => ?_)) <;> simp (maxSteps := 1000000) only [↓yld_succ, ↓yld_zero, EV, EO, ED, ↓EW, ↓EI, EB, EP, EL, tyq_4, bool_4, tz_4, tyq_5, inq_5, tz_5, Nat.reduceAdd, Nat.reduceSub, Nat.reduceMul, Nat.reduceLT, Nat.reduceLeDiff, Nat.reduceEqDiff, Int.reduceToNat, Int.reduceLE, Int.reduceLT, Int.reduceEq, Int.reduceNeg, reduceCtorEq, reduceIte, decide_true, decide_false, List.forall_mem_cons, List.not_mem_nil, false_implies, implies_true, Bool.and_true, Bool.true_and, and_self, Nat.sub_zero, Nat.zero_add, Nat.add_zero, h, Bool.not_true, Bool.not_false])
  all_goals
    refine hK _ ?_; try clear hK K
    refine WC.trim [0, 2] ?_
    simp only [ET, Nat.reduceEqDiff, reduceIte]
    refine WC.ret ?_
    simp (maxSteps := 1000000) only [↓yld_succ, ↓yld_zero, EV, EO, ED, ↓EW, ↓EI, EB, EP, EL, tyq_4, bool_4, tz_4, tyq_5, inq_5, tz_5, Nat.reduceAdd, Nat.reduceSub, Nat.reduceMul, Nat.reduceLT, Nat.reduceLeDiff, Nat.reduceEqDiff, Int.reduceToNat, Int.reduceLE, Int.reduceLT, Int.reduceEq, Int.reduceNeg, reduceCtorEq, reduceIte, decide_true, decide_false, List.forall_mem_cons, List.not_mem_nil, false_implies, implies_true, Bool.and_true, Bool.true_and, and_self, Nat.sub_zero, Nat.zero_add, Nat.add_zero, EQ, FnQ, Tryd.results18, wResL, tup, List.reverse_cons, List.reverse_nil, true_and]
    refine endsPure (by simp only [CL]) ?_
    simp_all [blankI]

theorem refLetter_sem (x : Int) : FSem C 32 [.int .u8 x] [] fun r st => r = .ret (.bool (letterI x)) ∧ st = [] := by
  refine FSem.enter' (C := C) (n := 21) Tryd.func32 rfl rfl ok_32 (by simp) ?_
  simp only [argEnv]
  refine WC.rs fun K hK => ?_
  simp (maxSteps := 1000000) only [↓yld_succ, ↓yld_zero, EV, EO, ED, ↓EW, ↓EI, EB, EP, EL, tyq_4, bool_4, tz_4, tyq_5, inq_5, tz_5, Nat.reduceAdd, Nat.reduceSub, Nat.reduceMul, Nat.reduceLT, Nat.reduceLeDiff, Nat.reduceEqDiff, Int.reduceToNat, Int.reduceLE, Int.reduceLT, Int.reduceEq, Int.reduceNeg, reduceCtorEq, reduceIte, decide_true, decide_false, List.forall_mem_cons, List.not_mem_nil, false_implies, implies_true, Bool.and_true, Bool.true_and, and_self, Nat.sub_zero, Nat.zero_add, Nat.add_zero]
  refine hK _ ?_; try clear hK K
  refine WC.trim [0, 2] ?_
  simp only [ET, Nat.reduceEqDiff, reduceIte]
  refine WC.rs fun K hK => ?_
  simp (maxSteps := 1000000) only [↓yld_succ, ↓yld_zero, EV, EO, ED, ↓EW, ↓EI, EB, EP, EL, tyq_4, bool_4, tz_4, tyq_5, inq_5, tz_5, Nat.reduceAdd, Nat.reduceSub, Nat.reduceMul, Nat.reduceLT, Nat.reduceLeDiff, Nat.reduceEqDiff, Int.reduceToNat, Int.reduceLE, Int.reduceLT, Int.reduceEq, Int.reduceNeg, reduceCtorEq, reduceIte, decide_true, decide_false, List.forall_mem_cons, List.not_mem_nil, false_implies, implies_true, Bool.and_true, Bool.true_and, and_self, Nat.sub_zero, Nat.zero_add, Nat.add_zero]
  repeat' ((first | refine gW_split (fun h => ?_) (fun h => ?_) | refine gP_split (fun h => ?_) (fun h => ?_)) <;> simp (maxSteps := 1000000) only [↓yld_succ, ↓yld_zero, EV, EO, ED, ↓EW, ↓EI, EB, EP, EL, tyq_4, bool_4, tz_4, tyq_5, inq_5, tz_5, Nat.reduceAdd, Nat.reduceSub, Nat.reduceMul, Nat.reduceLT, Nat.reduceLeDiff, Nat.reduceEqDiff, Int.reduceToNat, Int.reduceLE, Int.reduceLT, Int.reduceEq, Int.reduceNeg, reduceCtorEq, reduceIte, decide_true, decide_false, List.forall_mem_cons, List.not_mem_nil, false_implies, implies_true, Bool.and_true, Bool.true_and, and_self, Nat.sub_zero, Nat.zero_add, Nat.add_zero, h, Bool.not_true, Bool.not_false])
  all_goals
    refine hK _ ?_; try clear hK K
    refine WC.trim [0, 2] ?_
    simp only [ET, Nat.reduceEqDiff, reduceIte]
    refine WC.ret ?_
    simp (maxSteps := 1000000) only [↓yld_succ, ↓yld_zero, EV, EO, ED, ↓EW, ↓EI, EB, EP, EL, tyq_4, bool_4, tz_4, tyq_5, inq_5, tz_5, Nat.reduceAdd, Nat.reduceSub, Nat.reduceMul, Nat.reduceLT, Nat.reduceLeDiff, Nat.reduceEqDiff, Int.reduceToNat, Int.reduceLE, Int.reduceLT, Int.reduceEq, Int.reduceNeg, reduceCtorEq, reduceIte, decide_true, decide_false, List.forall_mem_cons, List.not_mem_nil, false_implies, implies_true, Bool.and_true, Bool.true_and, and_self, Nat.sub_zero, Nat.zero_add, Nat.add_zero, EQ, FnQ, Tryd.results32, wResL, tup, List.reverse_cons, List.reverse_nil, true_and]
    refine endsPure (by simp only [CL]) ?_
    simp_all [letterI] <;> (rw [Bool.eq_iff_iff]; simp; omega)

theorem comment_sem (x : Int) : FSem C 21 [.int .u8 x] [] fun r st => r = .ret (.bool (!decide (x = 10))) ∧ st = [] := by
  refine FSem.enter' (C := C) (n := 5) Tryd.func21 rfl rfl ok_21 (by simp) ?_
  simp only [argEnv]
  refine WC.rs fun K hK => ?_
  simp (maxSteps := 1000000) only [↓yld_succ, ↓yld_zero, EV, EO, ED, ↓EW, ↓EI, EB, EP, EL, tyq_4, bool_4, tz_4, tyq_5, inq_5, tz_5, Nat.reduceAdd, Nat.reduceSub, Nat.reduceMul, Nat.reduceLT, Nat.reduceLeDiff, Nat.reduceEqDiff, Int.reduceToNat, Int.reduceLE, Int.reduceLT, Int.reduceEq, Int.reduceNeg, reduceCtorEq, reduceIte, decide_true, decide_false, List.forall_mem_cons, List.not_mem_nil, false_implies, implies_true, Bool.and_true, Bool.true_and, and_self, Nat.sub_zero, Nat.zero_add, Nat.add_zero]
  refine hK _ ?_; try clear hK K
  refine WC.trim [0, 2] ?_
  simp only [ET, Nat.reduceEqDiff, reduceIte]
  refine WC.rs fun K hK => ?_
  simp (maxSteps := 1000000) only [↓yld_succ, ↓yld_zero, EV, EO, ED, ↓EW, ↓EI, EB, EP, EL, tyq_4, bool_4, tz_4, tyq_5, inq_5, tz_5, Nat.reduceAdd, Nat.reduceSub, Nat.reduceMul, Nat.reduceLT, Nat.reduceLeDiff, Nat.reduceEqDiff, Int.reduceToNat, Int.reduceLE, Int.reduceLT, Int.reduceEq, Int.reduceNeg, reduceCtorEq, reduceIte, decide_true, decide_false, List.forall_mem_cons, List.not_mem_nil, false_implies, implies_true, Bool.and_true, Bool.true_and, and_self, Nat.sub_zero, Nat.zero_add, Nat.add_zero]
  refine hK _ ?_; try clear hK K
  refine WC.trim [0, 2] ?_
  simp only [ET, Nat.reduceEqDiff, reduceIte]
  refine WC.ret ?_
  simp (maxSteps := 1000000) only [↓yld_succ, ↓yld_zero, EV, EO, ED, ↓EW, ↓EI, EB, EP, EL, tyq_4, bool_4, tz_4, tyq_5, inq_5, tz_5, Nat.reduceAdd, Nat.reduceSub, Nat.reduceMul, Nat.reduceLT, Nat.reduceLeDiff, Nat.reduceEqDiff, Int.reduceToNat, Int.reduceLE, Int.reduceLT, Int.reduceEq, Int.reduceNeg, reduceCtorEq, reduceIte, decide_true, decide_false, List.forall_mem_cons, List.not_mem_nil, false_implies, implies_true, Bool.and_true, Bool.true_and, and_self, Nat.sub_zero, Nat.zero_add, Nat.add_zero, EQ, FnQ, Tryd.results21, wResL, tup, List.reverse_cons, List.reverse_nil, true_and]
  exact endsPure (by simp only [CL]) rfl

/-- The reader. -/
def rd (s : List UInt8) (a l c : Int) : Blk := .row [.agg [.str s, .int .i64 a, .int .i64 l, .int .i64 c]] 4 47
theorem rd_closed (s : List UInt8) (a l c : Int) : ClosedB (rd s a l c) := fun f => rfl

theorem pos_sem (s : List UInt8) (a l c : Int) : FSem C 17 [.ptr (.o 0) 0 0] [rd s a l c] fun r st => r = .ret (.agg [.int .i64 l, .int .i64 c]) ∧ st = [rd s a l c] := by
  refine FSem.enter' (C := C) (n := 12) Tryd.func17 rfl rfl ok_17 (by simp) ?_
  simp only [argEnv]
  refine WC.rs fun K hK => ?_
  simp (maxSteps := 1000000) only [↓yld_succ, ↓yld_zero, EV, EO, ED, ↓EW, ↓EI, EB, EP, EL, tyq_0, tz_0, tyq_3, inq_3, tz_3, tyq_32, fq_32_0, fq_32_1, bq_32, feq_32, tz_32, tyq_45, ptq_45, tz_45, tyq_47, fq_47_0, fq_47_1, fq_47_2, fq_47_3, bq_47, feq_47, tz_47, Nat.reduceAdd, Nat.reduceSub, Nat.reduceMul, Nat.reduceLT, Nat.reduceLeDiff, Nat.reduceEqDiff, Int.reduceToNat, Int.reduceLE, Int.reduceLT, Int.reduceEq, Int.reduceNeg, reduceCtorEq, reduceIte, decide_true, decide_false, List.forall_mem_cons, List.not_mem_nil, false_implies, implies_true, Bool.and_true, Bool.true_and, and_self, Nat.sub_zero, Nat.zero_add, Nat.add_zero]
  refine hK _ ?_; try clear hK K
  refine WC.trim [0, 2] ?_
  simp only [ET, Nat.reduceEqDiff, reduceIte]
  refine WC.ds [⟨0, 0, false, []⟩, ⟨1, 0, false, []⟩, ⟨2, 0, false, []⟩, ⟨3, 0, false, []⟩, ⟨4, 0, false, []⟩, ⟨5, 0, false, []⟩, ⟨6, 0, false, []⟩, ⟨7, 0, false, []⟩, ⟨8, 0, false, []⟩, ⟨9, 1, false, []⟩] [0, 1, 3, 7, 0, 16, 48, 112, 255, 511] mo (by kernel_rfl) (by simp only [EPl, List.getElem?_cons_zero, List.getElem?_cons_succ]; rfl) fun K hK => ?_
  simp (maxSteps := 1000000) only [↓yld_succ, ↓yld_zero, EV, EO, ED, ↓EW, ↓EI, EB, EP, EL, tyq_0, tz_0, tyq_3, inq_3, tz_3, tyq_32, fq_32_0, fq_32_1, bq_32, feq_32, tz_32, tyq_45, ptq_45, tz_45, tyq_47, fq_47_0, fq_47_1, fq_47_2, fq_47_3, bq_47, feq_47, tz_47, Nat.reduceAdd, Nat.reduceSub, Nat.reduceMul, Nat.reduceLT, Nat.reduceLeDiff, Nat.reduceEqDiff, Int.reduceToNat, Int.reduceLE, Int.reduceLT, Int.reduceEq, Int.reduceNeg, reduceCtorEq, reduceIte, decide_true, decide_false, List.forall_mem_cons, List.not_mem_nil, false_implies, implies_true, Bool.and_true, Bool.true_and, and_self, Nat.sub_zero, Nat.zero_add, Nat.add_zero, rd]
  refine hK _ ?_; try clear hK K
  refine WC.trim [0, 2] ?_
  simp only [ET, Nat.reduceEqDiff, reduceIte]
  refine WC.ret ?_
  simp (maxSteps := 1000000) only [↓yld_succ, ↓yld_zero, EV, EO, ED, ↓EW, ↓EI, EB, EP, EL, tyq_0, tz_0, tyq_3, inq_3, tz_3, tyq_32, fq_32_0, fq_32_1, bq_32, feq_32, tz_32, tyq_45, ptq_45, tz_45, tyq_47, fq_47_0, fq_47_1, fq_47_2, fq_47_3, bq_47, feq_47, tz_47, Nat.reduceAdd, Nat.reduceSub, Nat.reduceMul, Nat.reduceLT, Nat.reduceLeDiff, Nat.reduceEqDiff, Int.reduceToNat, Int.reduceLE, Int.reduceLT, Int.reduceEq, Int.reduceNeg, reduceCtorEq, reduceIte, decide_true, decide_false, List.forall_mem_cons, List.not_mem_nil, false_implies, implies_true, Bool.and_true, Bool.true_and, and_self, Nat.sub_zero, Nat.zero_add, Nat.add_zero, EQ, FnQ, Tryd.results17, wResL, tup, List.reverse_cons, List.reverse_nil, true_and]
  exact EndsIn.plain (by simp only [CL, and_self]) (fun k hk => by simp only [List.mem_singleton] at hk; subst hk; exact rd_closed s a l c) ⟨rfl, rfl⟩
end Go.LexSem
