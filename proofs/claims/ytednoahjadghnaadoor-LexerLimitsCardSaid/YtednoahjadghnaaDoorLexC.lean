import Derived.Test.YtednoahjadghnaaDoorLexB
set_option linter.unusedSimpArgs false
set_option linter.unusedVariables false
set_option linter.loopingSimpArgs false
namespace Go.LexSem
open Go Go.V Go.Proofs

theorem hasPrefix0_sem (s p : List UInt8) : FSem C 38 [.str s, .str p] [] fun r st => r = .ret (.bool (decide (p.length ≤ s.length) && decide (s.take p.length = p))) ∧ st = [] := by
  refine FSem.enter' (C := C) (n := 18) Tryd.func38 rfl rfl ok_38 (by simp) ?_
  simp only [argEnv]
  refine WC.rs fun K hK => ?_
  simp (maxSteps := 1000000) only [↓yld_succ, ↓yld_zero, EV, EO, ED, ↓EW, ↓EI, EB, EP, EL, tyq_3, inq_3, tz_3, tyq_4, bool_4, tz_4, tyq_9, str_9, tz_9, Nat.reduceAdd, Nat.reduceSub, Nat.reduceMul, Nat.reduceLT, Nat.reduceLeDiff, Nat.reduceEqDiff, Int.reduceToNat, Int.reduceLE, Int.reduceLT, Int.reduceEq, Int.reduceNeg, reduceCtorEq, reduceIte, decide_true, decide_false, List.forall_mem_cons, List.not_mem_nil, false_implies, implies_true, Bool.and_true, Bool.true_and, and_self, Nat.sub_zero, Nat.zero_add, Nat.add_zero]
  refine hK _ ?_; try clear hK K
  refine WC.trim [0, 1, 4] ?_
  simp only [ET, Nat.reduceEqDiff, reduceIte]
  refine WC.rs fun K hK => ?_
  simp (maxSteps := 1000000) only [↓yld_succ, ↓yld_zero, EV, EO, ED, ↓EW, ↓EI, EB, EP, EL, tyq_3, inq_3, tz_3, tyq_4, bool_4, tz_4, tyq_9, str_9, tz_9, Nat.reduceAdd, Nat.reduceSub, Nat.reduceMul, Nat.reduceLT, Nat.reduceLeDiff, Nat.reduceEqDiff, Int.reduceToNat, Int.reduceLE, Int.reduceLT, Int.reduceEq, Int.reduceNeg, reduceCtorEq, reduceIte, decide_true, decide_false, List.forall_mem_cons, List.not_mem_nil, false_implies, implies_true, Bool.and_true, Bool.true_and, and_self, Nat.sub_zero, Nat.zero_add, Nat.add_zero]
  repeat' ((first | refine gW_split (fun h => ?_) (fun h => ?_) | refine gP_split (fun h => ?_) (fun h => ?_)) <;> simp (maxSteps := 1000000) only [↓yld_succ, ↓yld_zero, EV, EO, ED, ↓EW, ↓EI, EB, EP, EL, tyq_3, inq_3, tz_3, tyq_4, bool_4, tz_4, tyq_9, str_9, tz_9, Nat.reduceAdd, Nat.reduceSub, Nat.reduceMul, Nat.reduceLT, Nat.reduceLeDiff, Nat.reduceEqDiff, Int.reduceToNat, Int.reduceLE, Int.reduceLT, Int.reduceEq, Int.reduceNeg, reduceCtorEq, reduceIte, decide_true, decide_false, List.forall_mem_cons, List.not_mem_nil, false_implies, implies_true, Bool.and_true, Bool.true_and, and_self, Nat.sub_zero, Nat.zero_add, Nat.add_zero, h, Bool.not_true, Bool.not_false])
  · have hl : p.length ≤ s.length := by simp at h; omega
    repeat refine ⟨by omega, ?_⟩
    refine hK _ ?_; try clear hK K
    refine WC.trim [0, 1, 4] ?_
    simp only [ET, Nat.reduceEqDiff, reduceIte]
    refine WC.ret ?_
    simp (maxSteps := 1000000) only [↓yld_succ, ↓yld_zero, EV, EO, ED, ↓EW, ↓EI, EB, EP, EL, tyq_3, inq_3, tz_3, tyq_4, bool_4, tz_4, tyq_9, str_9, tz_9, Nat.reduceAdd, Nat.reduceSub, Nat.reduceMul, Nat.reduceLT, Nat.reduceLeDiff, Nat.reduceEqDiff, Int.reduceToNat, Int.reduceLE, Int.reduceLT, Int.reduceEq, Int.reduceNeg, reduceCtorEq, reduceIte, decide_true, decide_false, List.forall_mem_cons, List.not_mem_nil, false_implies, implies_true, Bool.and_true, Bool.true_and, and_self, Nat.sub_zero, Nat.zero_add, Nat.add_zero, EQ, FnQ, Tryd.results38, wResL, tup, List.reverse_cons, List.reverse_nil, true_and]
    refine endsPure (by simp only [CL]) ?_
    simp [hl]
  · have hl : ¬ p.length ≤ s.length := by simp at h; omega
    refine hK _ ?_; try clear hK K
    refine WC.trim [0, 1, 4] ?_
    simp only [ET, Nat.reduceEqDiff, reduceIte]
    refine WC.ret ?_
    simp (maxSteps := 1000000) only [↓yld_succ, ↓yld_zero, EV, EO, ED, ↓EW, ↓EI, EB, EP, EL, tyq_3, inq_3, tz_3, tyq_4, bool_4, tz_4, tyq_9, str_9, tz_9, Nat.reduceAdd, Nat.reduceSub, Nat.reduceMul, Nat.reduceLT, Nat.reduceLeDiff, Nat.reduceEqDiff, Int.reduceToNat, Int.reduceLE, Int.reduceLT, Int.reduceEq, Int.reduceNeg, reduceCtorEq, reduceIte, decide_true, decide_false, List.forall_mem_cons, List.not_mem_nil, false_implies, implies_true, Bool.and_true, Bool.true_and, and_self, Nat.sub_zero, Nat.zero_add, Nat.add_zero, EQ, FnQ, Tryd.results38, wResL, tup, List.reverse_cons, List.reverse_nil, true_and]
    refine endsPure (by simp only [CL]) ?_
    simp [hl]

theorem hasPrefix_sem (s p : List UInt8) : FSem C 31 [.str s, .str p] [] fun r st => r = .ret (.bool (decide (p.length ≤ s.length) && decide (s.take p.length = p))) ∧ st = [] := by
  refine FSem.enter' (C := C) (n := 8) Tryd.func31 rfl rfl ok_31 (by simp) ?_
  simp only [argEnv]
  refine WC.rs fun K hK => ?_
  simp (maxSteps := 1000000) only [↓yld_succ, ↓yld_zero, EV, EO, ED, ↓EW, ↓EI, EB, EP, EL, tyq_4, bool_4, tz_4, tyq_9, str_9, tz_9, Nat.reduceAdd, Nat.reduceSub, Nat.reduceMul, Nat.reduceLT, Nat.reduceLeDiff, Nat.reduceEqDiff, Int.reduceToNat, Int.reduceLE, Int.reduceLT, Int.reduceEq, Int.reduceNeg, reduceCtorEq, reduceIte, decide_true, decide_false, List.forall_mem_cons, List.not_mem_nil, false_implies, implies_true, Bool.and_true, Bool.true_and, and_self, Nat.sub_zero, Nat.zero_add, Nat.add_zero]
  refine hK _ ?_; try clear hK K
  refine WC.trim [0, 1, 4] ?_
  simp only [ET, Nat.reduceEqDiff, reduceIte]
  refine WC.rs fun K hK => ?_
  simp (maxSteps := 1000000) only [↓yld_succ, ↓yld_zero, EV, EO, ED, ↓EW, ↓EI, EB, EP, EL, tyq_4, bool_4, tz_4, tyq_9, str_9, tz_9, Nat.reduceAdd, Nat.reduceSub, Nat.reduceMul, Nat.reduceLT, Nat.reduceLeDiff, Nat.reduceEqDiff, Int.reduceToNat, Int.reduceLE, Int.reduceLT, Int.reduceEq, Int.reduceNeg, reduceCtorEq, reduceIte, decide_true, decide_false, List.forall_mem_cons, List.not_mem_nil, false_implies, implies_true, Bool.and_true, Bool.true_and, and_self, Nat.sub_zero, Nat.zero_add, Nat.add_zero]
  refine CallX.mk (CallW.pure (hasPrefix0_sem s p) (by simp only [CL, and_self]) (by simp only [CL]) ?_)
  simp (maxSteps := 1000000) only [↓yld_succ, ↓yld_zero, EV, EO, ED, ↓EW, ↓EI, EB, EP, EL, tyq_4, bool_4, tz_4, tyq_9, str_9, tz_9, Nat.reduceAdd, Nat.reduceSub, Nat.reduceMul, Nat.reduceLT, Nat.reduceLeDiff, Nat.reduceEqDiff, Int.reduceToNat, Int.reduceLE, Int.reduceLT, Int.reduceEq, Int.reduceNeg, reduceCtorEq, reduceIte, decide_true, decide_false, List.forall_mem_cons, List.not_mem_nil, false_implies, implies_true, Bool.and_true, Bool.true_and, and_self, Nat.sub_zero, Nat.zero_add, Nat.add_zero]
  refine hK _ ?_; try clear hK K
  refine WC.trim [0, 1, 4] ?_
  simp only [ET, Nat.reduceEqDiff, reduceIte]
  refine WC.ret ?_
  simp (maxSteps := 1000000) only [↓yld_succ, ↓yld_zero, EV, EO, ED, ↓EW, ↓EI, EB, EP, EL, tyq_4, bool_4, tz_4, tyq_9, str_9, tz_9, Nat.reduceAdd, Nat.reduceSub, Nat.reduceMul, Nat.reduceLT, Nat.reduceLeDiff, Nat.reduceEqDiff, Int.reduceToNat, Int.reduceLE, Int.reduceLT, Int.reduceEq, Int.reduceNeg, reduceCtorEq, reduceIte, decide_true, decide_false, List.forall_mem_cons, List.not_mem_nil, false_implies, implies_true, Bool.and_true, Bool.true_and, and_self, Nat.sub_zero, Nat.zero_add, Nat.add_zero, EQ, FnQ, Tryd.results31, wResL, tup, List.reverse_cons, List.reverse_nil, true_and]
  exact endsPure (by simp only [CL]) rfl

/-- A letter, a digit or an underscore: what a word is made of. -/
def wordI (dg : Bool) (x : Int) : Bool := decide (x = 95) || ((decide (97 ≤ x) && decide (x ≤ 122)) || ((decide (65 ≤ x) && decide (x ≤ 90)) || (dg && digitI x)))

theorem has_sem (dg : Bool) (x : Int) : FSem C 26 [.agg [.bool dg], .int .u8 x] [] fun r st => r = .ret (.bool (wordI dg x)) ∧ st = [] := by
  refine FSem.enter' (C := C) (n := 31) Tryd.func26 rfl rfl ok_26 (by simp) ?_
  simp only [argEnv]
  refine WC.rs fun K hK => ?_
  simp (maxSteps := 1000000) only [↓yld_succ, ↓yld_zero, EV, EO, ED, ↓EW, ↓EI, EB, EP, EL, tyq_0, tz_0, tyq_4, bool_4, tz_4, tyq_5, inq_5, tz_5, tyq_60, fq_60_0, bq_60, feq_60, tz_60, Nat.reduceAdd, Nat.reduceSub, Nat.reduceMul, Nat.reduceLT, Nat.reduceLeDiff, Nat.reduceEqDiff, Int.reduceToNat, Int.reduceLE, Int.reduceLT, Int.reduceEq, Int.reduceNeg, reduceCtorEq, reduceIte, decide_true, decide_false, List.forall_mem_cons, List.not_mem_nil, false_implies, implies_true, Bool.and_true, Bool.true_and, and_self, Nat.sub_zero, Nat.zero_add, Nat.add_zero]
  refine hK _ ?_; try clear hK K
  refine WC.trim [0, 1, 2, 4] ?_
  simp only [ET, Nat.reduceEqDiff, reduceIte]
  refine WC.rs fun K hK => ?_
  simp (maxSteps := 1000000) only [↓yld_succ, ↓yld_zero, EV, EO, ED, ↓EW, ↓EI, EB, EP, EL, tyq_0, tz_0, tyq_4, bool_4, tz_4, tyq_5, inq_5, tz_5, tyq_60, fq_60_0, bq_60, feq_60, tz_60, Nat.reduceAdd, Nat.reduceSub, Nat.reduceMul, Nat.reduceLT, Nat.reduceLeDiff, Nat.reduceEqDiff, Int.reduceToNat, Int.reduceLE, Int.reduceLT, Int.reduceEq, Int.reduceNeg, reduceCtorEq, reduceIte, decide_true, decide_false, List.forall_mem_cons, List.not_mem_nil, false_implies, implies_true, Bool.and_true, Bool.true_and, and_self, Nat.sub_zero, Nat.zero_add, Nat.add_zero]
  repeat' ((first | refine gW_split (fun h => ?_) (fun h => ?_) | refine gP_split (fun h => ?_) (fun h => ?_) | refine CallX.mk (CallW.pure (digit_sem x) (by simp only [CL, and_self]) (by simp only [CL]) ?_)) <;> (try simp (maxSteps := 1000000) only [↓yld_succ, ↓yld_zero, EV, EO, ED, ↓EW, ↓EI, EB, EP, EL, tyq_0, tz_0, tyq_4, bool_4, tz_4, tyq_5, inq_5, tz_5, tyq_60, fq_60_0, bq_60, feq_60, tz_60, Nat.reduceAdd, Nat.reduceSub, Nat.reduceMul, Nat.reduceLT, Nat.reduceLeDiff, Nat.reduceEqDiff, Int.reduceToNat, Int.reduceLE, Int.reduceLT, Int.reduceEq, Int.reduceNeg, reduceCtorEq, reduceIte, decide_true, decide_false, List.forall_mem_cons, List.not_mem_nil, false_implies, implies_true, Bool.and_true, Bool.true_and, and_self, Nat.sub_zero, Nat.zero_add, Nat.add_zero, h, Bool.not_true, Bool.not_false]))
  all_goals
    refine hK _ ?_; try clear hK K
    refine WC.trim [0, 1, 2, 4] ?_
    simp only [ET, Nat.reduceEqDiff, reduceIte]
    refine WC.ret ?_
    simp (maxSteps := 1000000) only [↓yld_succ, ↓yld_zero, EV, EO, ED, ↓EW, ↓EI, EB, EP, EL, tyq_0, tz_0, tyq_4, bool_4, tz_4, tyq_5, inq_5, tz_5, tyq_60, fq_60_0, bq_60, feq_60, tz_60, Nat.reduceAdd, Nat.reduceSub, Nat.reduceMul, Nat.reduceLT, Nat.reduceLeDiff, Nat.reduceEqDiff, Int.reduceToNat, Int.reduceLE, Int.reduceLT, Int.reduceEq, Int.reduceNeg, reduceCtorEq, reduceIte, decide_true, decide_false, List.forall_mem_cons, List.not_mem_nil, false_implies, implies_true, Bool.and_true, Bool.true_and, and_self, Nat.sub_zero, Nat.zero_add, Nat.add_zero, EQ, FnQ, Tryd.results26, wResL, tup, List.reverse_cons, List.reverse_nil, true_and]
    refine endsPure (by simp only [CL]) ?_
    simp_all [wordI, digitI] <;> first | omega | (rw [Bool.eq_iff_iff]; simp; omega)

/-- Where a run of bytes that p likes ends. -/
def runTo (p : Int → Bool) (s : List UInt8) : Nat → Nat → Nat
  | 0, t => t
  | f + 1, t => if t < s.length ∧ p (gb s t) = true then runTo p s f (t + 1) else t
theorem runTo_ge (p : Int → Bool) (s : List UInt8) : ∀ f t, t ≤ runTo p s f t
  | 0, t => Nat.le_refl _
  | f + 1, t => by
    unfold runTo
    split
    · exact Nat.le_trans (Nat.le_succ _) (runTo_ge p s f (t + 1))
    · exact Nat.le_refl _
theorem runTo_le (p : Int → Bool) (s : List UInt8) : ∀ f t, t ≤ s.length → runTo p s f t ≤ s.length
  | 0, t, h => h
  | f + 1, t, h => by
    unfold runTo
    split
    · rename_i hc; exact runTo_le p s f (t + 1) hc.1
    · exact h

theorem run_sem (s : List UInt8) (hs : s.length ≤ 8192) (a l c : Nat) (ha : a ≤ s.length) (g : Nat) (first : List PVal) (hf : ClosedL first) (p : Int → Bool)
    (hp : ∀ x, FSem C g (first ++ [.int .u8 x]) [] fun r st => r = .ret (.bool (p x)) ∧ st = []) :
    FSem C 20 [.ptr (.o 0) 0 0, .fn (.func g) first []] [rd s a l c] fun r st => r = .ret (.str ((s.drop a).take (runTo p s (s.length - a) a - a))) ∧ st = [rd s a l c] := by
  refine FSem.enter' (C := C) (n := 39) Tryd.func20 rfl rfl ok_20 (by simp) ?_
  simp only [argEnv]
  refine WC.rs fun K hK => ?_
  simp (maxSteps := 1000000) only [↓yld_succ, ↓yld_zero, EV, EO, ED, ↓EW, ↓EI, EB, EP, EL, tyq_0, tz_0, tyq_3, inq_3, tz_3, tyq_4, bool_4, tz_4, tyq_5, inq_5, tz_5, tyq_9, str_9, tz_9, tyq_45, ptq_45, tz_45, tyq_47, fq_47_0, fq_47_1, fq_47_2, fq_47_3, bq_47, feq_47, tz_47, tyq_58, tz_58, Nat.reduceAdd, Nat.reduceSub, Nat.reduceMul, Nat.reduceLT, Nat.reduceLeDiff, Nat.reduceEqDiff, Int.reduceToNat, Int.reduceLE, Int.reduceLT, Int.reduceEq, Int.reduceNeg, reduceCtorEq, reduceIte, decide_true, decide_false, List.forall_mem_cons, List.not_mem_nil, false_implies, implies_true, Bool.and_true, Bool.true_and, and_self, Nat.sub_zero, Nat.zero_add, Nat.add_zero]
  refine hK _ ?_; try clear hK K
  refine WC.trim [0, 1, 4, 5, 26] ?_
  simp only [ET, Nat.reduceEqDiff, reduceIte]
  refine WC.rs fun K hK => ?_
  simp (maxSteps := 1000000) only [↓yld_succ, ↓yld_zero, EV, EO, ED, ↓EW, ↓EI, EB, EP, EL, tyq_0, tz_0, tyq_3, inq_3, tz_3, tyq_4, bool_4, tz_4, tyq_5, inq_5, tz_5, tyq_9, str_9, tz_9, tyq_45, ptq_45, tz_45, tyq_47, fq_47_0, fq_47_1, fq_47_2, fq_47_3, bq_47, feq_47, tz_47, tyq_58, tz_58, Nat.reduceAdd, Nat.reduceSub, Nat.reduceMul, Nat.reduceLT, Nat.reduceLeDiff, Nat.reduceEqDiff, Int.reduceToNat, Int.reduceLE, Int.reduceLT, Int.reduceEq, Int.reduceNeg, reduceCtorEq, reduceIte, decide_true, decide_false, List.forall_mem_cons, List.not_mem_nil, false_implies, implies_true, Bool.and_true, Bool.true_and, and_self, Nat.sub_zero, Nat.zero_add, Nat.add_zero, rd]
  refine hK _ ?_; try clear hK K
  refine WC.trim [0, 1, 4, 5, 26] ?_
  simp only [ET, Nat.reduceEqDiff, reduceIte]
  refine WC.bs fun KB hKB => ?_
  refine WC.loop (X := Nat) (fun t => ⟨[(5, .int .i64 t), (4, .str []), (0, .ptr (.o 0) 0 0), (1, .fn (.func g) first [])], [rd s a l c], [], []⟩)
    (fun t => a ≤ t ∧ t ≤ s.length ∧ runTo p s (s.length - t) t = runTo p s (s.length - a) a) (fun t => s.length - t) a [] ⟨Nat.le_refl _, ha, rfl⟩ ?_ ?_
  · refine ⟨by simp, by simp (maxSteps := 1000000) only [↓yld_succ, ↓yld_zero, EV, EO, ED, ↓EW, ↓EI, EB, EP, EL, tyq_0, tz_0, tyq_3, inq_3, tz_3, tyq_4, bool_4, tz_4, tyq_5, inq_5, tz_5, tyq_9, str_9, tz_9, tyq_45, ptq_45, tz_45, tyq_47, fq_47_0, fq_47_1, fq_47_2, fq_47_3, bq_47, feq_47, tz_47, tyq_58, tz_58, Nat.reduceAdd, Nat.reduceSub, Nat.reduceMul, Nat.reduceLT, Nat.reduceLeDiff, Nat.reduceEqDiff, Int.reduceToNat, Int.reduceLE, Int.reduceLT, Int.reduceEq, Int.reduceNeg, reduceCtorEq, reduceIte, decide_true, decide_false, List.forall_mem_cons, List.not_mem_nil, false_implies, implies_true, Bool.and_true, Bool.true_and, and_self, Nat.sub_zero, Nat.zero_add, Nat.add_zero, ER, and_self, rd, hf _], by simp (maxSteps := 1000000) only [↓yld_succ, ↓yld_zero, EV, EO, ED, ↓EW, ↓EI, EB, EP, EL, tyq_0, tz_0, tyq_3, inq_3, tz_3, tyq_4, bool_4, tz_4, tyq_5, inq_5, tz_5, tyq_9, str_9, tz_9, tyq_45, ptq_45, tz_45, tyq_47, fq_47_0, fq_47_1, fq_47_2, fq_47_3, bq_47, feq_47, tz_47, tyq_58, tz_58, Nat.reduceAdd, Nat.reduceSub, Nat.reduceMul, Nat.reduceLT, Nat.reduceLeDiff, Nat.reduceEqDiff, Int.reduceToNat, Int.reduceLE, Int.reduceLT, Int.reduceEq, Int.reduceNeg, reduceCtorEq, reduceIte, decide_true, decide_false, List.forall_mem_cons, List.not_mem_nil, false_implies, implies_true, Bool.and_true, Bool.true_and, and_self, Nat.sub_zero, Nat.zero_add, Nat.add_zero, ER, rd, hf _], by simp (maxSteps := 1000000) only [↓yld_succ, ↓yld_zero, EV, EO, ED, ↓EW, ↓EI, EB, EP, EL, tyq_0, tz_0, tyq_3, inq_3, tz_3, tyq_4, bool_4, tz_4, tyq_5, inq_5, tz_5, tyq_9, str_9, tz_9, tyq_45, ptq_45, tz_45, tyq_47, fq_47_0, fq_47_1, fq_47_2, fq_47_3, bq_47, feq_47, tz_47, tyq_58, tz_58, Nat.reduceAdd, Nat.reduceSub, Nat.reduceMul, Nat.reduceLT, Nat.reduceLeDiff, Nat.reduceEqDiff, Int.reduceToNat, Int.reduceLE, Int.reduceLT, Int.reduceEq, Int.reduceNeg, reduceCtorEq, reduceIte, decide_true, decide_false, List.forall_mem_cons, List.not_mem_nil, false_implies, implies_true, Bool.and_true, Bool.true_and, and_self, Nat.sub_zero, Nat.zero_add, Nat.add_zero, ER, pick, rd, hf _], rfl⟩
  · rintro t ⟨h1, h2, h3⟩
    refine WC.sK fun K2 hK2 => ?_
    refine WC.rs fun K hK => ?_
    simp (maxSteps := 1000000) only [↓yld_succ, ↓yld_zero, EV, EO, ED, ↓EW, ↓EI, EB, EP, EL, tyq_0, tz_0, tyq_3, inq_3, tz_3, tyq_4, bool_4, tz_4, tyq_5, inq_5, tz_5, tyq_9, str_9, tz_9, tyq_45, ptq_45, tz_45, tyq_47, fq_47_0, fq_47_1, fq_47_2, fq_47_3, bq_47, feq_47, tz_47, tyq_58, tz_58, Nat.reduceAdd, Nat.reduceSub, Nat.reduceMul, Nat.reduceLT, Nat.reduceLeDiff, Nat.reduceEqDiff, Int.reduceToNat, Int.reduceLE, Int.reduceLT, Int.reduceEq, Int.reduceNeg, reduceCtorEq, reduceIte, decide_true, decide_false, List.forall_mem_cons, List.not_mem_nil, false_implies, implies_true, Bool.and_true, Bool.true_and, and_self, Nat.sub_zero, Nat.zero_add, Nat.add_zero, rd]
    refine gW_split (fun h => ?_) (fun h => ?_)
    · have hlt : t < s.length := by simp at h; omega
      simp (maxSteps := 1000000) only [↓yld_succ, ↓yld_zero, EV, EO, ED, ↓EW, ↓EI, EB, EP, EL, tyq_0, tz_0, tyq_3, inq_3, tz_3, tyq_4, bool_4, tz_4, tyq_5, inq_5, tz_5, tyq_9, str_9, tz_9, tyq_45, ptq_45, tz_45, tyq_47, fq_47_0, fq_47_1, fq_47_2, fq_47_3, bq_47, feq_47, tz_47, tyq_58, tz_58, Nat.reduceAdd, Nat.reduceSub, Nat.reduceMul, Nat.reduceLT, Nat.reduceLeDiff, Nat.reduceEqDiff, Int.reduceToNat, Int.reduceLE, Int.reduceLT, Int.reduceEq, Int.reduceNeg, reduceCtorEq, reduceIte, decide_true, decide_false, List.forall_mem_cons, List.not_mem_nil, false_implies, implies_true, Bool.and_true, Bool.true_and, and_self, Nat.sub_zero, Nat.zero_add, Nat.add_zero, h]
      repeat refine ⟨by omega, ?_⟩
      refine CallX.mk (CallW.pure (hp _) (ClosedL.append hf (by simp only [CL, and_self])) (by simp only [CL]) ?_)
      simp (maxSteps := 1000000) only [↓yld_succ, ↓yld_zero, EV, EO, ED, ↓EW, ↓EI, EB, EP, EL, tyq_0, tz_0, tyq_3, inq_3, tz_3, tyq_4, bool_4, tz_4, tyq_5, inq_5, tz_5, tyq_9, str_9, tz_9, tyq_45, ptq_45, tz_45, tyq_47, fq_47_0, fq_47_1, fq_47_2, fq_47_3, bq_47, feq_47, tz_47, tyq_58, tz_58, Nat.reduceAdd, Nat.reduceSub, Nat.reduceMul, Nat.reduceLT, Nat.reduceLeDiff, Nat.reduceEqDiff, Int.reduceToNat, Int.reduceLE, Int.reduceLT, Int.reduceEq, Int.reduceNeg, reduceCtorEq, reduceIte, decide_true, decide_false, List.forall_mem_cons, List.not_mem_nil, false_implies, implies_true, Bool.and_true, Bool.true_and, and_self, Nat.sub_zero, Nat.zero_add, Nat.add_zero]
      refine hK _ ?_; try clear hK K
      refine WC.trim [0, 1, 4, 5, 26] ?_
      simp only [ET, Nat.reduceEqDiff, reduceIte]
      refine WC.cond (c := .tmp 26) rfl (fun h => ?_) (fun h => ?_)
      · refine WC.skip ?_
        simp only [EQ]
        refine hK2 _ ?_; try clear hK2 K2
        refine WC.b1 ?_
        refine WC.r1 ?_
        simp (maxSteps := 1000000) (disch := omega) only [↓yld_succ, ↓yld_zero, EV, EO, ED, ↓EW, ↓EI, EB, EP, EL, tyq_0, tz_0, tyq_3, inq_3, tz_3, tyq_4, bool_4, tz_4, tyq_5, inq_5, tz_5, tyq_9, str_9, tz_9, tyq_45, ptq_45, tz_45, tyq_47, fq_47_0, fq_47_1, fq_47_2, fq_47_3, bq_47, feq_47, tz_47, tyq_58, tz_58, Nat.reduceAdd, Nat.reduceSub, Nat.reduceMul, Nat.reduceLT, Nat.reduceLeDiff, Nat.reduceEqDiff, Int.reduceToNat, Int.reduceLE, Int.reduceLT, Int.reduceEq, Int.reduceNeg, reduceCtorEq, reduceIte, decide_true, decide_false, List.forall_mem_cons, List.not_mem_nil, false_implies, implies_true, Bool.and_true, Bool.true_and, and_self, Nat.sub_zero, Nat.zero_add, Nat.add_zero, w64]
        try simp only [EQ, reduceIte, Nat.reduceEqDiff]
        refine ⟨t + 1, [], ⟨by omega, by omega, ?_⟩, by omega, ?_⟩
        · rw [← h3, show s.length - t = (s.length - (t + 1)) + 1 by omega]
          conv => rhs; unfold runTo
          rw [if_pos ⟨hlt, h⟩]
        · refine ⟨by simp, by simp (maxSteps := 1000000) only [↓yld_succ, ↓yld_zero, EV, EO, ED, ↓EW, ↓EI, EB, EP, EL, tyq_0, tz_0, tyq_3, inq_3, tz_3, tyq_4, bool_4, tz_4, tyq_5, inq_5, tz_5, tyq_9, str_9, tz_9, tyq_45, ptq_45, tz_45, tyq_47, fq_47_0, fq_47_1, fq_47_2, fq_47_3, bq_47, feq_47, tz_47, tyq_58, tz_58, Nat.reduceAdd, Nat.reduceSub, Nat.reduceMul, Nat.reduceLT, Nat.reduceLeDiff, Nat.reduceEqDiff, Int.reduceToNat, Int.reduceLE, Int.reduceLT, Int.reduceEq, Int.reduceNeg, reduceCtorEq, reduceIte, decide_true, decide_false, List.forall_mem_cons, List.not_mem_nil, false_implies, implies_true, Bool.and_true, Bool.true_and, and_self, Nat.sub_zero, Nat.zero_add, Nat.add_zero, ER, and_self, rd, Int.natCast_add, hf _], by simp (maxSteps := 1000000) only [↓yld_succ, ↓yld_zero, EV, EO, ED, ↓EW, ↓EI, EB, EP, EL, tyq_0, tz_0, tyq_3, inq_3, tz_3, tyq_4, bool_4, tz_4, tyq_5, inq_5, tz_5, tyq_9, str_9, tz_9, tyq_45, ptq_45, tz_45, tyq_47, fq_47_0, fq_47_1, fq_47_2, fq_47_3, bq_47, feq_47, tz_47, tyq_58, tz_58, Nat.reduceAdd, Nat.reduceSub, Nat.reduceMul, Nat.reduceLT, Nat.reduceLeDiff, Nat.reduceEqDiff, Int.reduceToNat, Int.reduceLE, Int.reduceLT, Int.reduceEq, Int.reduceNeg, reduceCtorEq, reduceIte, decide_true, decide_false, List.forall_mem_cons, List.not_mem_nil, false_implies, implies_true, Bool.and_true, Bool.true_and, and_self, Nat.sub_zero, Nat.zero_add, Nat.add_zero, ER, rd, Int.natCast_add, hf _], by simp (maxSteps := 1000000) only [↓yld_succ, ↓yld_zero, EV, EO, ED, ↓EW, ↓EI, EB, EP, EL, tyq_0, tz_0, tyq_3, inq_3, tz_3, tyq_4, bool_4, tz_4, tyq_5, inq_5, tz_5, tyq_9, str_9, tz_9, tyq_45, ptq_45, tz_45, tyq_47, fq_47_0, fq_47_1, fq_47_2, fq_47_3, bq_47, feq_47, tz_47, tyq_58, tz_58, Nat.reduceAdd, Nat.reduceSub, Nat.reduceMul, Nat.reduceLT, Nat.reduceLeDiff, Nat.reduceEqDiff, Int.reduceToNat, Int.reduceLE, Int.reduceLT, Int.reduceEq, Int.reduceNeg, reduceCtorEq, reduceIte, decide_true, decide_false, List.forall_mem_cons, List.not_mem_nil, false_implies, implies_true, Bool.and_true, Bool.true_and, and_self, Nat.sub_zero, Nat.zero_add, Nat.add_zero, ER, pick, rd, Int.natCast_add, hf _], rfl⟩
      · refine WC.exit ?_
        simp only [EQ, reduceIte, Nat.reduceEqDiff]
        refine hKB _ ?_; clear hK2 K2 hKB KB
        have hend : runTo p s (s.length - a) a = t := by
          rw [← h3, show s.length - t = (s.length - (t + 1)) + 1 by omega]
          unfold runTo
          rw [if_neg (by simp [h])]
        refine WC.ds [⟨0, 0, false, []⟩, ⟨1, 0, false, []⟩, ⟨2, 0, false, []⟩, ⟨3, 0, false, []⟩, ⟨4, 0, false, []⟩, ⟨5, 0, false, []⟩, ⟨6, 0, false, []⟩, ⟨7, 0, false, []⟩, ⟨8, 0, false, []⟩, ⟨9, 0, false, []⟩, ⟨10, 0, false, []⟩] [0, 1, 3, 7, 0, 16, 48, 112, 0, 511, 1023] mo (by kernel_rfl) (by simp only [EPl, List.getElem?_cons_zero, List.getElem?_cons_succ]; rfl) fun K hK => ?_
        simp (maxSteps := 1000000) only [↓yld_succ, ↓yld_zero, EV, EO, ED, ↓EW, ↓EI, EB, EP, EL, tyq_0, tz_0, tyq_3, inq_3, tz_3, tyq_4, bool_4, tz_4, tyq_5, inq_5, tz_5, tyq_9, str_9, tz_9, tyq_45, ptq_45, tz_45, tyq_47, fq_47_0, fq_47_1, fq_47_2, fq_47_3, bq_47, feq_47, tz_47, tyq_58, tz_58, Nat.reduceAdd, Nat.reduceSub, Nat.reduceMul, Nat.reduceLT, Nat.reduceLeDiff, Nat.reduceEqDiff, Int.reduceToNat, Int.reduceLE, Int.reduceLT, Int.reduceEq, Int.reduceNeg, reduceCtorEq, reduceIte, decide_true, decide_false, List.forall_mem_cons, List.not_mem_nil, false_implies, implies_true, Bool.and_true, Bool.true_and, and_self, Nat.sub_zero, Nat.zero_add, Nat.add_zero, rd]
        repeat refine ⟨by omega, ?_⟩
        refine hK _ ?_; try clear hK K
        refine WC.trim [0, 1, 4, 5, 26] ?_
        simp only [ET, Nat.reduceEqDiff, reduceIte]
        refine WC.ret ?_
        simp (maxSteps := 1000000) only [↓yld_succ, ↓yld_zero, EV, EO, ED, ↓EW, ↓EI, EB, EP, EL, tyq_0, tz_0, tyq_3, inq_3, tz_3, tyq_4, bool_4, tz_4, tyq_5, inq_5, tz_5, tyq_9, str_9, tz_9, tyq_45, ptq_45, tz_45, tyq_47, fq_47_0, fq_47_1, fq_47_2, fq_47_3, bq_47, feq_47, tz_47, tyq_58, tz_58, Nat.reduceAdd, Nat.reduceSub, Nat.reduceMul, Nat.reduceLT, Nat.reduceLeDiff, Nat.reduceEqDiff, Int.reduceToNat, Int.reduceLE, Int.reduceLT, Int.reduceEq, Int.reduceNeg, reduceCtorEq, reduceIte, decide_true, decide_false, List.forall_mem_cons, List.not_mem_nil, false_implies, implies_true, Bool.and_true, Bool.true_and, and_self, Nat.sub_zero, Nat.zero_add, Nat.add_zero, EQ, FnQ, Tryd.results20, wResL, tup, List.reverse_cons, List.reverse_nil, true_and]
        rw [hend]
        exact endsSame (by simp only [CL, and_self]) (closedBs_cons (fun f => rfl) closedBs_nil) ⟨rfl, rfl⟩
    · have hge : s.length ≤ t := by simp at h; omega
      have hend : runTo p s (s.length - a) a = t := by
        rw [← h3, show s.length - t = 0 by omega]; rfl
      simp (maxSteps := 1000000) only [↓yld_succ, ↓yld_zero, EV, EO, ED, ↓EW, ↓EI, EB, EP, EL, tyq_0, tz_0, tyq_3, inq_3, tz_3, tyq_4, bool_4, tz_4, tyq_5, inq_5, tz_5, tyq_9, str_9, tz_9, tyq_45, ptq_45, tz_45, tyq_47, fq_47_0, fq_47_1, fq_47_2, fq_47_3, bq_47, feq_47, tz_47, tyq_58, tz_58, Nat.reduceAdd, Nat.reduceSub, Nat.reduceMul, Nat.reduceLT, Nat.reduceLeDiff, Nat.reduceEqDiff, Int.reduceToNat, Int.reduceLE, Int.reduceLT, Int.reduceEq, Int.reduceNeg, reduceCtorEq, reduceIte, decide_true, decide_false, List.forall_mem_cons, List.not_mem_nil, false_implies, implies_true, Bool.and_true, Bool.true_and, and_self, Nat.sub_zero, Nat.zero_add, Nat.add_zero, h, Bool.not_true]
      refine hK _ ?_; try clear hK K
      refine WC.trim [0, 1, 4, 5, 26] ?_
      simp only [ET, Nat.reduceEqDiff, reduceIte]
      refine WC.cond (c := .tmp 26) rfl (fun h => ?_) (fun h => ?_)
      · cases h
      · refine WC.exit ?_
        simp only [EQ, reduceIte, Nat.reduceEqDiff]
        refine hKB _ ?_; clear hK2 K2 hKB KB
        refine WC.ds [⟨0, 0, false, []⟩, ⟨1, 0, false, []⟩, ⟨2, 0, false, []⟩, ⟨3, 0, false, []⟩, ⟨4, 0, false, []⟩, ⟨5, 0, false, []⟩, ⟨6, 0, false, []⟩, ⟨7, 0, false, []⟩, ⟨8, 0, false, []⟩, ⟨9, 0, false, []⟩, ⟨10, 0, false, []⟩] [0, 1, 3, 7, 0, 16, 48, 112, 0, 511, 1023] mo (by kernel_rfl) (by simp only [EPl, List.getElem?_cons_zero, List.getElem?_cons_succ]; rfl) fun K hK => ?_
        simp (maxSteps := 1000000) only [↓yld_succ, ↓yld_zero, EV, EO, ED, ↓EW, ↓EI, EB, EP, EL, tyq_0, tz_0, tyq_3, inq_3, tz_3, tyq_4, bool_4, tz_4, tyq_5, inq_5, tz_5, tyq_9, str_9, tz_9, tyq_45, ptq_45, tz_45, tyq_47, fq_47_0, fq_47_1, fq_47_2, fq_47_3, bq_47, feq_47, tz_47, tyq_58, tz_58, Nat.reduceAdd, Nat.reduceSub, Nat.reduceMul, Nat.reduceLT, Nat.reduceLeDiff, Nat.reduceEqDiff, Int.reduceToNat, Int.reduceLE, Int.reduceLT, Int.reduceEq, Int.reduceNeg, reduceCtorEq, reduceIte, decide_true, decide_false, List.forall_mem_cons, List.not_mem_nil, false_implies, implies_true, Bool.and_true, Bool.true_and, and_self, Nat.sub_zero, Nat.zero_add, Nat.add_zero, rd]
        repeat refine ⟨by omega, ?_⟩
        refine hK _ ?_; try clear hK K
        refine WC.trim [0, 1, 4, 5, 26] ?_
        simp only [ET, Nat.reduceEqDiff, reduceIte]
        refine WC.ret ?_
        simp (maxSteps := 1000000) only [↓yld_succ, ↓yld_zero, EV, EO, ED, ↓EW, ↓EI, EB, EP, EL, tyq_0, tz_0, tyq_3, inq_3, tz_3, tyq_4, bool_4, tz_4, tyq_5, inq_5, tz_5, tyq_9, str_9, tz_9, tyq_45, ptq_45, tz_45, tyq_47, fq_47_0, fq_47_1, fq_47_2, fq_47_3, bq_47, feq_47, tz_47, tyq_58, tz_58, Nat.reduceAdd, Nat.reduceSub, Nat.reduceMul, Nat.reduceLT, Nat.reduceLeDiff, Nat.reduceEqDiff, Int.reduceToNat, Int.reduceLE, Int.reduceLT, Int.reduceEq, Int.reduceNeg, reduceCtorEq, reduceIte, decide_true, decide_false, List.forall_mem_cons, List.not_mem_nil, false_implies, implies_true, Bool.and_true, Bool.true_and, and_self, Nat.sub_zero, Nat.zero_add, Nat.add_zero, EQ, FnQ, Tryd.results20, wResL, tup, List.reverse_cons, List.reverse_nil, true_and]
        rw [hend]
        exact endsSame (by simp only [CL, and_self]) (closedBs_cons (fun f => rfl) closedBs_nil) ⟨rfl, rfl⟩
end Go.LexSem
