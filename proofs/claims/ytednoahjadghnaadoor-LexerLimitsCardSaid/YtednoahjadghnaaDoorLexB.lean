import Derived.Test.YtednoahjadghnaaDoorLexA
set_option linter.unusedSimpArgs false
set_option linter.unusedVariables false
set_option linter.loopingSimpArgs false
namespace Go.LexSem
open Go Go.V Go.Proofs

/-- The reader k bytes on. -/
def adv (s : List UInt8) : Nat → Nat × Nat × Nat → Nat × Nat × Nat
  | 0, p => p
  | k + 1, (a, l, c) => adv s k (if gb s a = 10 then (a + 1, l + 1, 1) else (a + 1, l, c + 1))

theorem step_sem (s : List UInt8) (hs : s.length ≤ 8192) (k a l c : Nat) (hk : a + k ≤ s.length) (hl : l ≤ a + 1) (hc : c ≤ a + 1) :
    FSem C 19 [.ptr (.o 0) 0 0, .int .i64 k] [rd s a l c] fun r st => r = .ret (.tuple []) ∧ st = [rd s (adv s k (a, l, c)).1 (adv s k (a, l, c)).2.1 (adv s k (a, l, c)).2.2] := by
  refine FSem.enter' (C := C) (n := 43) Tryd.func19 rfl rfl ok_19 (by simp) ?_
  simp only [argEnv]
  refine WC.rs fun K hK => ?_
  simp (maxSteps := 1000000) only [↓yld_succ, ↓yld_zero, EV, EO, ED, ↓EW, ↓EI, EB, EP, EL, tyq_0, tz_0, tyq_3, inq_3, tz_3, tyq_4, bool_4, tz_4, tyq_5, inq_5, tz_5, tyq_9, str_9, tz_9, tyq_45, ptq_45, tz_45, tyq_47, fq_47_0, fq_47_1, fq_47_2, fq_47_3, bq_47, feq_47, tz_47, Nat.reduceAdd, Nat.reduceSub, Nat.reduceMul, Nat.reduceLT, Nat.reduceLeDiff, Nat.reduceEqDiff, Int.reduceToNat, Int.reduceLE, Int.reduceLT, Int.reduceEq, Int.reduceNeg, reduceCtorEq, reduceIte, decide_true, decide_false, List.forall_mem_cons, List.not_mem_nil, false_implies, implies_true, Bool.and_true, Bool.true_and, and_self, Nat.sub_zero, Nat.zero_add, Nat.add_zero]
  refine hK _ ?_; try clear hK K
  refine WC.trim [0, 1, 4, 5, 6, 23] ?_
  simp only [ET, Nat.reduceEqDiff, reduceIte]
  refine WC.b1 ?_
  refine WC.loop (X := Nat × Nat × Nat × Nat) (fun x => ⟨[(5, .int .i64 (x.1 : Nat)), (4, .int .i64 k), (0, .ptr (.o 0) 0 0)], [rd s x.2.1 x.2.2.1 x.2.2.2], [], []⟩)
    (fun x => x.1 ≤ k ∧ x.2.1 = a + x.1 ∧ x.2.2.1 ≤ x.2.1 + 1 ∧ x.2.2.2 ≤ x.2.1 + 1 ∧ adv s (k - x.1) (x.2.1, x.2.2.1, x.2.2.2) = adv s k (a, l, c)) (fun x => k - x.1) (0, a, l, c) [] ⟨by omega, rfl, hl, hc, rfl⟩ ?_ ?_
  · refine ⟨by simp, by simp (maxSteps := 1000000) only [↓yld_succ, ↓yld_zero, EV, EO, ED, ↓EW, ↓EI, EB, EP, EL, tyq_0, tz_0, tyq_3, inq_3, tz_3, tyq_4, bool_4, tz_4, tyq_5, inq_5, tz_5, tyq_9, str_9, tz_9, tyq_45, ptq_45, tz_45, tyq_47, fq_47_0, fq_47_1, fq_47_2, fq_47_3, bq_47, feq_47, tz_47, Nat.reduceAdd, Nat.reduceSub, Nat.reduceMul, Nat.reduceLT, Nat.reduceLeDiff, Nat.reduceEqDiff, Int.reduceToNat, Int.reduceLE, Int.reduceLT, Int.reduceEq, Int.reduceNeg, reduceCtorEq, reduceIte, decide_true, decide_false, List.forall_mem_cons, List.not_mem_nil, false_implies, implies_true, Bool.and_true, Bool.true_and, and_self, Nat.sub_zero, Nat.zero_add, Nat.add_zero, ER, and_self, rd], by simp (maxSteps := 1000000) only [↓yld_succ, ↓yld_zero, EV, EO, ED, ↓EW, ↓EI, EB, EP, EL, tyq_0, tz_0, tyq_3, inq_3, tz_3, tyq_4, bool_4, tz_4, tyq_5, inq_5, tz_5, tyq_9, str_9, tz_9, tyq_45, ptq_45, tz_45, tyq_47, fq_47_0, fq_47_1, fq_47_2, fq_47_3, bq_47, feq_47, tz_47, Nat.reduceAdd, Nat.reduceSub, Nat.reduceMul, Nat.reduceLT, Nat.reduceLeDiff, Nat.reduceEqDiff, Int.reduceToNat, Int.reduceLE, Int.reduceLT, Int.reduceEq, Int.reduceNeg, reduceCtorEq, reduceIte, decide_true, decide_false, List.forall_mem_cons, List.not_mem_nil, false_implies, implies_true, Bool.and_true, Bool.true_and, and_self, Nat.sub_zero, Nat.zero_add, Nat.add_zero, ER, rd], by simp (maxSteps := 1000000) only [↓yld_succ, ↓yld_zero, EV, EO, ED, ↓EW, ↓EI, EB, EP, EL, tyq_0, tz_0, tyq_3, inq_3, tz_3, tyq_4, bool_4, tz_4, tyq_5, inq_5, tz_5, tyq_9, str_9, tz_9, tyq_45, ptq_45, tz_45, tyq_47, fq_47_0, fq_47_1, fq_47_2, fq_47_3, bq_47, feq_47, tz_47, Nat.reduceAdd, Nat.reduceSub, Nat.reduceMul, Nat.reduceLT, Nat.reduceLeDiff, Nat.reduceEqDiff, Int.reduceToNat, Int.reduceLE, Int.reduceLT, Int.reduceEq, Int.reduceNeg, reduceCtorEq, reduceIte, decide_true, decide_false, List.forall_mem_cons, List.not_mem_nil, false_implies, implies_true, Bool.and_true, Bool.true_and, and_self, Nat.sub_zero, Nat.zero_add, Nat.add_zero, ER, pick, rd], rfl⟩
  · rintro ⟨i, a', l', c'⟩ ⟨hi, ha, hl', hc', had⟩
    dsimp only at hi ha hl' hc' had ⊢
    subst ha
    refine WC.rs fun K hK => ?_
    simp (maxSteps := 1000000) only [↓yld_succ, ↓yld_zero, EV, EO, ED, ↓EW, ↓EI, EB, EP, EL, tyq_0, tz_0, tyq_3, inq_3, tz_3, tyq_4, bool_4, tz_4, tyq_5, inq_5, tz_5, tyq_9, str_9, tz_9, tyq_45, ptq_45, tz_45, tyq_47, fq_47_0, fq_47_1, fq_47_2, fq_47_3, bq_47, feq_47, tz_47, Nat.reduceAdd, Nat.reduceSub, Nat.reduceMul, Nat.reduceLT, Nat.reduceLeDiff, Nat.reduceEqDiff, Int.reduceToNat, Int.reduceLE, Int.reduceLT, Int.reduceEq, Int.reduceNeg, reduceCtorEq, reduceIte, decide_true, decide_false, List.forall_mem_cons, List.not_mem_nil, false_implies, implies_true, Bool.and_true, Bool.true_and, and_self, Nat.sub_zero, Nat.zero_add, Nat.add_zero]
    refine hK _ ?_; try clear hK K
    refine WC.trim [0, 1, 4, 5, 6, 23] ?_
    simp only [ET, Nat.reduceEqDiff, reduceIte]
    refine WC.cs (c := .tmp 6) rfl fun K2 hK2 => ⟨fun h => ?_, fun h => ?_⟩
    · refine WC.skip ?_
      simp only [EQ]
      refine hK2 _ ?_; try clear hK2 K2
      have hik : i < k := by simpa using h
      refine WC.bs fun K2 hK2 => ?_
      refine WC.rs fun K hK => ?_
      simp (maxSteps := 1000000) (disch := omega) only [↓yld_succ, ↓yld_zero, EV, EO, ED, ↓EW, ↓EI, EB, EP, EL, tyq_0, tz_0, tyq_3, inq_3, tz_3, tyq_4, bool_4, tz_4, tyq_5, inq_5, tz_5, tyq_9, str_9, tz_9, tyq_45, ptq_45, tz_45, tyq_47, fq_47_0, fq_47_1, fq_47_2, fq_47_3, bq_47, feq_47, tz_47, Nat.reduceAdd, Nat.reduceSub, Nat.reduceMul, Nat.reduceLT, Nat.reduceLeDiff, Nat.reduceEqDiff, Int.reduceToNat, Int.reduceLE, Int.reduceLT, Int.reduceEq, Int.reduceNeg, reduceCtorEq, reduceIte, decide_true, decide_false, List.forall_mem_cons, List.not_mem_nil, false_implies, implies_true, Bool.and_true, Bool.true_and, and_self, Nat.sub_zero, Nat.zero_add, Nat.add_zero, w64, rd]
      refine hK _ ?_; try clear hK K
      refine WC.trim [0, 1, 4, 5, 6, 23] ?_
      simp only [ET, Nat.reduceEqDiff, reduceIte]
      refine WC.sK fun K3 hK3 => ?_
      refine WC.ds [⟨0, 0, false, []⟩, ⟨1, 0, false, []⟩, ⟨2, 0, false, []⟩, ⟨3, 0, false, []⟩, ⟨4, 0, false, []⟩, ⟨5, 0, false, []⟩, ⟨6, 0, false, []⟩, ⟨7, 0, false, []⟩, ⟨8, 0, false, []⟩, ⟨9, 0, false, []⟩] [0, 1, 3, 7, 0, 16, 48, 112, 255, 511] mo (by kernel_rfl) (by simp only [EPl, List.getElem?_cons_zero, List.getElem?_cons_succ]; rfl) fun K hK => ?_
      simp (maxSteps := 1000000) (disch := omega) only [↓yld_succ, ↓yld_zero, EV, EO, ED, ↓EW, ↓EI, EB, EP, EL, tyq_0, tz_0, tyq_3, inq_3, tz_3, tyq_4, bool_4, tz_4, tyq_5, inq_5, tz_5, tyq_9, str_9, tz_9, tyq_45, ptq_45, tz_45, tyq_47, fq_47_0, fq_47_1, fq_47_2, fq_47_3, bq_47, feq_47, tz_47, Nat.reduceAdd, Nat.reduceSub, Nat.reduceMul, Nat.reduceLT, Nat.reduceLeDiff, Nat.reduceEqDiff, Int.reduceToNat, Int.reduceLE, Int.reduceLT, Int.reduceEq, Int.reduceNeg, reduceCtorEq, reduceIte, decide_true, decide_false, List.forall_mem_cons, List.not_mem_nil, false_implies, implies_true, Bool.and_true, Bool.true_and, and_self, Nat.sub_zero, Nat.zero_add, Nat.add_zero, w64]
      refine ⟨by omega, by omega, ?_⟩
      refine hK _ ?_; try clear hK K
      refine WC.trim [0, 1, 4, 5, 6, 23] ?_
      simp only [ET, Nat.reduceEqDiff, reduceIte]
      refine WC.cond (c := .tmp 23) rfl (fun h => ?_) (fun h => ?_)
      · have h10 : gb s (a + i) = 10 := by simpa using h
        refine WC.r1 ?_
        simp (maxSteps := 1000000) (disch := omega) only [↓yld_succ, ↓yld_zero, EV, EO, ED, ↓EW, ↓EI, EB, EP, EL, tyq_0, tz_0, tyq_3, inq_3, tz_3, tyq_4, bool_4, tz_4, tyq_5, inq_5, tz_5, tyq_9, str_9, tz_9, tyq_45, ptq_45, tz_45, tyq_47, fq_47_0, fq_47_1, fq_47_2, fq_47_3, bq_47, feq_47, tz_47, Nat.reduceAdd, Nat.reduceSub, Nat.reduceMul, Nat.reduceLT, Nat.reduceLeDiff, Nat.reduceEqDiff, Int.reduceToNat, Int.reduceLE, Int.reduceLT, Int.reduceEq, Int.reduceNeg, reduceCtorEq, reduceIte, decide_true, decide_false, List.forall_mem_cons, List.not_mem_nil, false_implies, implies_true, Bool.and_true, Bool.true_and, and_self, Nat.sub_zero, Nat.zero_add, Nat.add_zero, w64]
        try simp only [EQ, reduceIte, Nat.reduceEqDiff]
        refine hK3 _ ?_; try clear hK3 K3
        refine WC.r1 ?_
        simp (maxSteps := 1000000) (disch := omega) only [↓yld_succ, ↓yld_zero, EV, EO, ED, ↓EW, ↓EI, EB, EP, EL, tyq_0, tz_0, tyq_3, inq_3, tz_3, tyq_4, bool_4, tz_4, tyq_5, inq_5, tz_5, tyq_9, str_9, tz_9, tyq_45, ptq_45, tz_45, tyq_47, fq_47_0, fq_47_1, fq_47_2, fq_47_3, bq_47, feq_47, tz_47, Nat.reduceAdd, Nat.reduceSub, Nat.reduceMul, Nat.reduceLT, Nat.reduceLeDiff, Nat.reduceEqDiff, Int.reduceToNat, Int.reduceLE, Int.reduceLT, Int.reduceEq, Int.reduceNeg, reduceCtorEq, reduceIte, decide_true, decide_false, List.forall_mem_cons, List.not_mem_nil, false_implies, implies_true, Bool.and_true, Bool.true_and, and_self, Nat.sub_zero, Nat.zero_add, Nat.add_zero, w64]
        try simp only [EQ, reduceIte, Nat.reduceEqDiff]
        refine hK2 _ ?_; try clear hK2 K2
        refine WC.r1 ?_
        simp (maxSteps := 1000000) (disch := omega) only [↓yld_succ, ↓yld_zero, EV, EO, ED, ↓EW, ↓EI, EB, EP, EL, tyq_0, tz_0, tyq_3, inq_3, tz_3, tyq_4, bool_4, tz_4, tyq_5, inq_5, tz_5, tyq_9, str_9, tz_9, tyq_45, ptq_45, tz_45, tyq_47, fq_47_0, fq_47_1, fq_47_2, fq_47_3, bq_47, feq_47, tz_47, Nat.reduceAdd, Nat.reduceSub, Nat.reduceMul, Nat.reduceLT, Nat.reduceLeDiff, Nat.reduceEqDiff, Int.reduceToNat, Int.reduceLE, Int.reduceLT, Int.reduceEq, Int.reduceNeg, reduceCtorEq, reduceIte, decide_true, decide_false, List.forall_mem_cons, List.not_mem_nil, false_implies, implies_true, Bool.and_true, Bool.true_and, and_self, Nat.sub_zero, Nat.zero_add, Nat.add_zero, w64]
        try simp only [EQ, reduceIte, Nat.reduceEqDiff]
        refine ⟨(i + 1, a + i + 1, l' + 1, 1), [], ⟨by dsimp only; omega, by dsimp only; omega, by dsimp only; omega, by dsimp only; omega, ?_⟩, by dsimp only; omega, ?_⟩
        · rw [← had, show k - i = (k - (i + 1)) + 1 by omega]
          simp only [adv, h10, if_true]
        · refine ⟨by simp, by simp (maxSteps := 1000000) only [↓yld_succ, ↓yld_zero, EV, EO, ED, ↓EW, ↓EI, EB, EP, EL, tyq_0, tz_0, tyq_3, inq_3, tz_3, tyq_4, bool_4, tz_4, tyq_5, inq_5, tz_5, tyq_9, str_9, tz_9, tyq_45, ptq_45, tz_45, tyq_47, fq_47_0, fq_47_1, fq_47_2, fq_47_3, bq_47, feq_47, tz_47, Nat.reduceAdd, Nat.reduceSub, Nat.reduceMul, Nat.reduceLT, Nat.reduceLeDiff, Nat.reduceEqDiff, Int.reduceToNat, Int.reduceLE, Int.reduceLT, Int.reduceEq, Int.reduceNeg, reduceCtorEq, reduceIte, decide_true, decide_false, List.forall_mem_cons, List.not_mem_nil, false_implies, implies_true, Bool.and_true, Bool.true_and, and_self, Nat.sub_zero, Nat.zero_add, Nat.add_zero, ER, and_self, rd, Int.natCast_add], by simp (maxSteps := 1000000) only [↓yld_succ, ↓yld_zero, EV, EO, ED, ↓EW, ↓EI, EB, EP, EL, tyq_0, tz_0, tyq_3, inq_3, tz_3, tyq_4, bool_4, tz_4, tyq_5, inq_5, tz_5, tyq_9, str_9, tz_9, tyq_45, ptq_45, tz_45, tyq_47, fq_47_0, fq_47_1, fq_47_2, fq_47_3, bq_47, feq_47, tz_47, Nat.reduceAdd, Nat.reduceSub, Nat.reduceMul, Nat.reduceLT, Nat.reduceLeDiff, Nat.reduceEqDiff, Int.reduceToNat, Int.reduceLE, Int.reduceLT, Int.reduceEq, Int.reduceNeg, reduceCtorEq, reduceIte, decide_true, decide_false, List.forall_mem_cons, List.not_mem_nil, false_implies, implies_true, Bool.and_true, Bool.true_and, and_self, Nat.sub_zero, Nat.zero_add, Nat.add_zero, ER, rd, Int.natCast_add], by simp (maxSteps := 1000000) only [↓yld_succ, ↓yld_zero, EV, EO, ED, ↓EW, ↓EI, EB, EP, EL, tyq_0, tz_0, tyq_3, inq_3, tz_3, tyq_4, bool_4, tz_4, tyq_5, inq_5, tz_5, tyq_9, str_9, tz_9, tyq_45, ptq_45, tz_45, tyq_47, fq_47_0, fq_47_1, fq_47_2, fq_47_3, bq_47, feq_47, tz_47, Nat.reduceAdd, Nat.reduceSub, Nat.reduceMul, Nat.reduceLT, Nat.reduceLeDiff, Nat.reduceEqDiff, Int.reduceToNat, Int.reduceLE, Int.reduceLT, Int.reduceEq, Int.reduceNeg, reduceCtorEq, reduceIte, decide_true, decide_false, List.forall_mem_cons, List.not_mem_nil, false_implies, implies_true, Bool.and_true, Bool.true_and, and_self, Nat.sub_zero, Nat.zero_add, Nat.add_zero, ER, pick, rd, Int.natCast_add], rfl⟩
      · have h10 : ¬ gb s (a + i) = 10 := by simpa using h
        refine WC.skip ?_
        simp only [EQ]
        refine hK3 _ ?_; try clear hK3 K3
        refine WC.r1 ?_
        simp (maxSteps := 1000000) (disch := omega) only [↓yld_succ, ↓yld_zero, EV, EO, ED, ↓EW, ↓EI, EB, EP, EL, tyq_0, tz_0, tyq_3, inq_3, tz_3, tyq_4, bool_4, tz_4, tyq_5, inq_5, tz_5, tyq_9, str_9, tz_9, tyq_45, ptq_45, tz_45, tyq_47, fq_47_0, fq_47_1, fq_47_2, fq_47_3, bq_47, feq_47, tz_47, Nat.reduceAdd, Nat.reduceSub, Nat.reduceMul, Nat.reduceLT, Nat.reduceLeDiff, Nat.reduceEqDiff, Int.reduceToNat, Int.reduceLE, Int.reduceLT, Int.reduceEq, Int.reduceNeg, reduceCtorEq, reduceIte, decide_true, decide_false, List.forall_mem_cons, List.not_mem_nil, false_implies, implies_true, Bool.and_true, Bool.true_and, and_self, Nat.sub_zero, Nat.zero_add, Nat.add_zero, w64]
        try simp only [EQ, reduceIte, Nat.reduceEqDiff]
        refine hK2 _ ?_; try clear hK2 K2
        refine WC.r1 ?_
        simp (maxSteps := 1000000) (disch := omega) only [↓yld_succ, ↓yld_zero, EV, EO, ED, ↓EW, ↓EI, EB, EP, EL, tyq_0, tz_0, tyq_3, inq_3, tz_3, tyq_4, bool_4, tz_4, tyq_5, inq_5, tz_5, tyq_9, str_9, tz_9, tyq_45, ptq_45, tz_45, tyq_47, fq_47_0, fq_47_1, fq_47_2, fq_47_3, bq_47, feq_47, tz_47, Nat.reduceAdd, Nat.reduceSub, Nat.reduceMul, Nat.reduceLT, Nat.reduceLeDiff, Nat.reduceEqDiff, Int.reduceToNat, Int.reduceLE, Int.reduceLT, Int.reduceEq, Int.reduceNeg, reduceCtorEq, reduceIte, decide_true, decide_false, List.forall_mem_cons, List.not_mem_nil, false_implies, implies_true, Bool.and_true, Bool.true_and, and_self, Nat.sub_zero, Nat.zero_add, Nat.add_zero, w64]
        try simp only [EQ, reduceIte, Nat.reduceEqDiff]
        refine ⟨(i + 1, a + i + 1, l', c' + 1), [], ⟨by dsimp only; omega, by dsimp only; omega, by dsimp only; omega, by dsimp only; omega, ?_⟩, by dsimp only; omega, ?_⟩
        · rw [← had, show k - i = (k - (i + 1)) + 1 by omega]
          simp only [adv, h10, if_false]
        · refine ⟨by simp, by simp (maxSteps := 1000000) only [↓yld_succ, ↓yld_zero, EV, EO, ED, ↓EW, ↓EI, EB, EP, EL, tyq_0, tz_0, tyq_3, inq_3, tz_3, tyq_4, bool_4, tz_4, tyq_5, inq_5, tz_5, tyq_9, str_9, tz_9, tyq_45, ptq_45, tz_45, tyq_47, fq_47_0, fq_47_1, fq_47_2, fq_47_3, bq_47, feq_47, tz_47, Nat.reduceAdd, Nat.reduceSub, Nat.reduceMul, Nat.reduceLT, Nat.reduceLeDiff, Nat.reduceEqDiff, Int.reduceToNat, Int.reduceLE, Int.reduceLT, Int.reduceEq, Int.reduceNeg, reduceCtorEq, reduceIte, decide_true, decide_false, List.forall_mem_cons, List.not_mem_nil, false_implies, implies_true, Bool.and_true, Bool.true_and, and_self, Nat.sub_zero, Nat.zero_add, Nat.add_zero, ER, and_self, rd, Int.natCast_add], by simp (maxSteps := 1000000) only [↓yld_succ, ↓yld_zero, EV, EO, ED, ↓EW, ↓EI, EB, EP, EL, tyq_0, tz_0, tyq_3, inq_3, tz_3, tyq_4, bool_4, tz_4, tyq_5, inq_5, tz_5, tyq_9, str_9, tz_9, tyq_45, ptq_45, tz_45, tyq_47, fq_47_0, fq_47_1, fq_47_2, fq_47_3, bq_47, feq_47, tz_47, Nat.reduceAdd, Nat.reduceSub, Nat.reduceMul, Nat.reduceLT, Nat.reduceLeDiff, Nat.reduceEqDiff, Int.reduceToNat, Int.reduceLE, Int.reduceLT, Int.reduceEq, Int.reduceNeg, reduceCtorEq, reduceIte, decide_true, decide_false, List.forall_mem_cons, List.not_mem_nil, false_implies, implies_true, Bool.and_true, Bool.true_and, and_self, Nat.sub_zero, Nat.zero_add, Nat.add_zero, ER, rd, Int.natCast_add], by simp (maxSteps := 1000000) only [↓yld_succ, ↓yld_zero, EV, EO, ED, ↓EW, ↓EI, EB, EP, EL, tyq_0, tz_0, tyq_3, inq_3, tz_3, tyq_4, bool_4, tz_4, tyq_5, inq_5, tz_5, tyq_9, str_9, tz_9, tyq_45, ptq_45, tz_45, tyq_47, fq_47_0, fq_47_1, fq_47_2, fq_47_3, bq_47, feq_47, tz_47, Nat.reduceAdd, Nat.reduceSub, Nat.reduceMul, Nat.reduceLT, Nat.reduceLeDiff, Nat.reduceEqDiff, Int.reduceToNat, Int.reduceLE, Int.reduceLT, Int.reduceEq, Int.reduceNeg, reduceCtorEq, reduceIte, decide_true, decide_false, List.forall_mem_cons, List.not_mem_nil, false_implies, implies_true, Bool.and_true, Bool.true_and, and_self, Nat.sub_zero, Nat.zero_add, Nat.add_zero, ER, pick, rd, Int.natCast_add], rfl⟩
    · have hik : i = k := by simp at h; omega
      refine WC.exit ?_
      simp only [EQ, reduceIte, Nat.reduceEqDiff]
      simp only [FnQ, Tryd.results19, wResL, tup, List.reverse_nil, true_and]
      subst hik
      rw [Nat.sub_self] at had
      simp only [adv] at had
      rw [← had]
      exact EndsIn.plain (by simp only [CL, and_self]) (fun b hb => by simp only [List.mem_singleton] at hb; subst hb; exact rd_closed _ _ _ _) ⟨rfl, rfl⟩
end Go.LexSem
