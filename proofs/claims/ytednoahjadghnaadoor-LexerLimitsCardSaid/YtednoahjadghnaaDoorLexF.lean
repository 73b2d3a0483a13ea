import Derived.Test.YtednoahjadghnaaDoorLexE
set_option linter.unusedSimpArgs false
set_option linter.unusedVariables false
set_option linter.loopingSimpArgs false
namespace Go.LexSem
open Go Go.V Go.Proofs

def pl (l c : Nat) : PVal := .agg [.int .i64 l, .int .i64 c]

theorem move_sem (s : List UInt8) (hs : s.length ≤ 8192) (l c : Nat) (hl : l ≤ 100000) (hc : c ≤ 100000) :
    FSem C 24 [pl l c, .str s] [] fun r st => r = .ret (pl (adv s s.length (0, l, c)).2.1 (adv s s.length (0, l, c)).2.2) ∧ st = [] := by
  refine FSem.enter' (C := C) (n := 25) Tryd.func24 rfl rfl ok_24 (by simp) ?_
  simp only [argEnv]
  refine WC.rs fun K hK => ?_
  simp (maxSteps := 1000000) only [↓yld_succ, ↓yld_zero, EV, EO, ED, ↓EW, ↓EI, EB, EP, EL, tyq_0, tz_0, tyq_3, inq_3, tz_3, tyq_4, bool_4, tz_4, tyq_5, inq_5, tz_5, tyq_9, str_9, tz_9, tyq_32, fq_32_0, fq_32_1, bq_32, feq_32, tz_32, Nat.reduceAdd, Nat.reduceSub, Nat.reduceMul, Nat.reduceLT, Nat.reduceLeDiff, Nat.reduceEqDiff, Int.reduceToNat, Int.reduceLE, Int.reduceLT, Int.reduceEq, Int.reduceNeg, reduceCtorEq, reduceIte, decide_true, decide_false, List.forall_mem_cons, List.not_mem_nil, false_implies, implies_true, Bool.and_true, Bool.true_and, and_self, Nat.sub_zero, Nat.zero_add, Nat.add_zero, pl]
  refine hK _ ?_; try clear hK K
  refine WC.trim [0, 1, 2, 4, 5, 9, 19] ?_
  simp only [ET, Nat.reduceEqDiff, reduceIte]
  refine WC.sK fun K1 hK1 => ?_
  refine WC.rs fun K hK => ?_
  simp (maxSteps := 1000000) only [↓yld_succ, ↓yld_zero, EV, EO, ED, ↓EW, ↓EI, EB, EP, EL, tyq_0, tz_0, tyq_3, inq_3, tz_3, tyq_4, bool_4, tz_4, tyq_5, inq_5, tz_5, tyq_9, str_9, tz_9, tyq_32, fq_32_0, fq_32_1, bq_32, feq_32, tz_32, Nat.reduceAdd, Nat.reduceSub, Nat.reduceMul, Nat.reduceLT, Nat.reduceLeDiff, Nat.reduceEqDiff, Int.reduceToNat, Int.reduceLE, Int.reduceLT, Int.reduceEq, Int.reduceNeg, reduceCtorEq, reduceIte, decide_true, decide_false, List.forall_mem_cons, List.not_mem_nil, false_implies, implies_true, Bool.and_true, Bool.true_and, and_self, Nat.sub_zero, Nat.zero_add, Nat.add_zero]
  refine hK _ ?_; try clear hK K
  refine WC.trim [0, 1, 2, 4, 5, 9, 19] ?_
  simp only [ET, Nat.reduceEqDiff, reduceIte]
  refine WC.b1 ?_
  refine WC.loop (X := Nat × Nat × Nat) (fun x => ⟨[(5, .int .i64 (x.1 : Nat)), (4, .ptr (.l 1) 0 0), (2, .ptr (.l 0) 0 0), (1, .str s)], [], [.row [.agg [.int .i64 (x.2.1 : Nat), .int .i64 (x.2.2 : Nat)]] 2 32, .row [.agg [.int .i64 0, .int .i64 0]] 2 32], []⟩)
    (fun x => x.1 ≤ s.length ∧ x.2.1 ≤ l + x.1 ∧ x.2.2 ≤ c + x.1 + 1 ∧ adv s (s.length - x.1) (x.1, x.2.1, x.2.2) = adv s s.length (0, l, c)) (fun x => s.length - x.1) (0, l, c) [0, 1] ⟨Nat.zero_le _, Nat.le_refl _, Nat.le_succ _, rfl⟩ ?_ ?_
  · refine ⟨by simp, by simp (maxSteps := 1000000) only [↓yld_succ, ↓yld_zero, EV, EO, ED, ↓EW, ↓EI, EB, EP, EL, tyq_0, tz_0, tyq_3, inq_3, tz_3, tyq_4, bool_4, tz_4, tyq_5, inq_5, tz_5, tyq_9, str_9, tz_9, tyq_32, fq_32_0, fq_32_1, bq_32, feq_32, tz_32, Nat.reduceAdd, Nat.reduceSub, Nat.reduceMul, Nat.reduceLT, Nat.reduceLeDiff, Nat.reduceEqDiff, Int.reduceToNat, Int.reduceLE, Int.reduceLT, Int.reduceEq, Int.reduceNeg, reduceCtorEq, reduceIte, decide_true, decide_false, List.forall_mem_cons, List.not_mem_nil, false_implies, implies_true, Bool.and_true, Bool.true_and, and_self, Nat.sub_zero, Nat.zero_add, Nat.add_zero, ER, and_self], by simp (maxSteps := 1000000) only [↓yld_succ, ↓yld_zero, EV, EO, ED, ↓EW, ↓EI, EB, EP, EL, tyq_0, tz_0, tyq_3, inq_3, tz_3, tyq_4, bool_4, tz_4, tyq_5, inq_5, tz_5, tyq_9, str_9, tz_9, tyq_32, fq_32_0, fq_32_1, bq_32, feq_32, tz_32, Nat.reduceAdd, Nat.reduceSub, Nat.reduceMul, Nat.reduceLT, Nat.reduceLeDiff, Nat.reduceEqDiff, Int.reduceToNat, Int.reduceLE, Int.reduceLT, Int.reduceEq, Int.reduceNeg, reduceCtorEq, reduceIte, decide_true, decide_false, List.forall_mem_cons, List.not_mem_nil, false_implies, implies_true, Bool.and_true, Bool.true_and, and_self, Nat.sub_zero, Nat.zero_add, Nat.add_zero, ER], by simp (maxSteps := 1000000) only [↓yld_succ, ↓yld_zero, EV, EO, ED, ↓EW, ↓EI, EB, EP, EL, tyq_0, tz_0, tyq_3, inq_3, tz_3, tyq_4, bool_4, tz_4, tyq_5, inq_5, tz_5, tyq_9, str_9, tz_9, tyq_32, fq_32_0, fq_32_1, bq_32, feq_32, tz_32, Nat.reduceAdd, Nat.reduceSub, Nat.reduceMul, Nat.reduceLT, Nat.reduceLeDiff, Nat.reduceEqDiff, Int.reduceToNat, Int.reduceLE, Int.reduceLT, Int.reduceEq, Int.reduceNeg, reduceCtorEq, reduceIte, decide_true, decide_false, List.forall_mem_cons, List.not_mem_nil, false_implies, implies_true, Bool.and_true, Bool.true_and, and_self, Nat.sub_zero, Nat.zero_add, Nat.add_zero, ER, pick], rfl⟩
  · rintro ⟨i, l', c'⟩ ⟨h1, h2, h3, h4⟩
    dsimp only at h1 h2 h3 h4 ⊢
    refine WC.sK fun K2 hK2 => ?_
    refine WC.rs fun K hK => ?_
    simp (maxSteps := 1000000) only [↓yld_succ, ↓yld_zero, EV, EO, ED, ↓EW, ↓EI, EB, EP, EL, tyq_0, tz_0, tyq_3, inq_3, tz_3, tyq_4, bool_4, tz_4, tyq_5, inq_5, tz_5, tyq_9, str_9, tz_9, tyq_32, fq_32_0, fq_32_1, bq_32, feq_32, tz_32, Nat.reduceAdd, Nat.reduceSub, Nat.reduceMul, Nat.reduceLT, Nat.reduceLeDiff, Nat.reduceEqDiff, Int.reduceToNat, Int.reduceLE, Int.reduceLT, Int.reduceEq, Int.reduceNeg, reduceCtorEq, reduceIte, decide_true, decide_false, List.forall_mem_cons, List.not_mem_nil, false_implies, implies_true, Bool.and_true, Bool.true_and, and_self, Nat.sub_zero, Nat.zero_add, Nat.add_zero]
    refine hK _ ?_; try clear hK K
    refine WC.trim [0, 1, 2, 4, 5, 9, 19] ?_
    simp only [ET, Nat.reduceEqDiff, reduceIte]
    refine WC.cond (c := .tmp 9) rfl (fun h => ?_) (fun h => ?_)
    · have hlt : i < s.length := by simpa using h
      refine WC.skip ?_
      try simp only [EQ, reduceIte, Nat.reduceEqDiff]
      refine hK2 _ ?_; try clear hK2 K2
      refine WC.bs fun K3 hK3 => ?_
      refine WC.rs fun K hK => ?_
      simp (maxSteps := 1000000) (disch := omega) only [↓yld_succ, ↓yld_zero, EV, EO, ED, ↓EW, ↓EI, EB, EP, EL, tyq_0, tz_0, tyq_3, inq_3, tz_3, tyq_4, bool_4, tz_4, tyq_5, inq_5, tz_5, tyq_9, str_9, tz_9, tyq_32, fq_32_0, fq_32_1, bq_32, feq_32, tz_32, Nat.reduceAdd, Nat.reduceSub, Nat.reduceMul, Nat.reduceLT, Nat.reduceLeDiff, Nat.reduceEqDiff, Int.reduceToNat, Int.reduceLE, Int.reduceLT, Int.reduceEq, Int.reduceNeg, reduceCtorEq, reduceIte, decide_true, decide_false, List.forall_mem_cons, List.not_mem_nil, false_implies, implies_true, Bool.and_true, Bool.true_and, and_self, Nat.sub_zero, Nat.zero_add, Nat.add_zero, w64]
      refine hK _ ?_; try clear hK K
      refine WC.trim [0, 1, 2, 4, 5, 9, 19] ?_
      simp only [ET, Nat.reduceEqDiff, reduceIte]
      refine WC.rs fun K hK => ?_
      simp (maxSteps := 1000000) only [↓yld_succ, ↓yld_zero, EV, EO, ED, ↓EW, ↓EI, EB, EP, EL, tyq_0, tz_0, tyq_3, inq_3, tz_3, tyq_4, bool_4, tz_4, tyq_5, inq_5, tz_5, tyq_9, str_9, tz_9, tyq_32, fq_32_0, fq_32_1, bq_32, feq_32, tz_32, Nat.reduceAdd, Nat.reduceSub, Nat.reduceMul, Nat.reduceLT, Nat.reduceLeDiff, Nat.reduceEqDiff, Int.reduceToNat, Int.reduceLE, Int.reduceLT, Int.reduceEq, Int.reduceNeg, reduceCtorEq, reduceIte, decide_true, decide_false, List.forall_mem_cons, List.not_mem_nil, false_implies, implies_true, Bool.and_true, Bool.true_and, and_self, Nat.sub_zero, Nat.zero_add, Nat.add_zero]
      repeat refine ⟨by omega, ?_⟩
      refine hK _ ?_; try clear hK K
      refine WC.trim [0, 1, 2, 4, 5, 9, 19] ?_
      simp only [ET, Nat.reduceEqDiff, reduceIte]
      refine WC.cond (c := .tmp 19) rfl (fun h => ?_) (fun h => ?_)
      · have h10 : gb s i = 10 := by simpa using h
        refine WC.r1 ?_
        simp (maxSteps := 1000000) (disch := omega) only [↓yld_succ, ↓yld_zero, EV, EO, ED, ↓EW, ↓EI, EB, EP, EL, tyq_0, tz_0, tyq_3, inq_3, tz_3, tyq_4, bool_4, tz_4, tyq_5, inq_5, tz_5, tyq_9, str_9, tz_9, tyq_32, fq_32_0, fq_32_1, bq_32, feq_32, tz_32, Nat.reduceAdd, Nat.reduceSub, Nat.reduceMul, Nat.reduceLT, Nat.reduceLeDiff, Nat.reduceEqDiff, Int.reduceToNat, Int.reduceLE, Int.reduceLT, Int.reduceEq, Int.reduceNeg, reduceCtorEq, reduceIte, decide_true, decide_false, List.forall_mem_cons, List.not_mem_nil, false_implies, implies_true, Bool.and_true, Bool.true_and, and_self, Nat.sub_zero, Nat.zero_add, Nat.add_zero, w64]
        try simp only [EQ, reduceIte, Nat.reduceEqDiff]
        refine hK3 _ ?_; try clear hK3 K3
        refine WC.r1 ?_
        simp (maxSteps := 1000000) (disch := omega) only [↓yld_succ, ↓yld_zero, EV, EO, ED, ↓EW, ↓EI, EB, EP, EL, tyq_0, tz_0, tyq_3, inq_3, tz_3, tyq_4, bool_4, tz_4, tyq_5, inq_5, tz_5, tyq_9, str_9, tz_9, tyq_32, fq_32_0, fq_32_1, bq_32, feq_32, tz_32, Nat.reduceAdd, Nat.reduceSub, Nat.reduceMul, Nat.reduceLT, Nat.reduceLeDiff, Nat.reduceEqDiff, Int.reduceToNat, Int.reduceLE, Int.reduceLT, Int.reduceEq, Int.reduceNeg, reduceCtorEq, reduceIte, decide_true, decide_false, List.forall_mem_cons, List.not_mem_nil, false_implies, implies_true, Bool.and_true, Bool.true_and, and_self, Nat.sub_zero, Nat.zero_add, Nat.add_zero, w64]
        try simp only [EQ, reduceIte, Nat.reduceEqDiff]
        refine ⟨(i + 1, l' + 1, 1), [0, 1], ⟨by dsimp only; omega, by dsimp only; omega, by dsimp only; omega, ?_⟩, by dsimp only; omega, ?_⟩
        · rw [← h4, show s.length - i = (s.length - (i + 1)) + 1 by omega]
          simp only [adv, h10, if_true]
        · refine ⟨by simp, by simp (maxSteps := 1000000) only [↓yld_succ, ↓yld_zero, EV, EO, ED, ↓EW, ↓EI, EB, EP, EL, tyq_0, tz_0, tyq_3, inq_3, tz_3, tyq_4, bool_4, tz_4, tyq_5, inq_5, tz_5, tyq_9, str_9, tz_9, tyq_32, fq_32_0, fq_32_1, bq_32, feq_32, tz_32, Nat.reduceAdd, Nat.reduceSub, Nat.reduceMul, Nat.reduceLT, Nat.reduceLeDiff, Nat.reduceEqDiff, Int.reduceToNat, Int.reduceLE, Int.reduceLT, Int.reduceEq, Int.reduceNeg, reduceCtorEq, reduceIte, decide_true, decide_false, List.forall_mem_cons, List.not_mem_nil, false_implies, implies_true, Bool.and_true, Bool.true_and, and_self, Nat.sub_zero, Nat.zero_add, Nat.add_zero, ER, and_self, Int.natCast_add], by simp (maxSteps := 1000000) only [↓yld_succ, ↓yld_zero, EV, EO, ED, ↓EW, ↓EI, EB, EP, EL, tyq_0, tz_0, tyq_3, inq_3, tz_3, tyq_4, bool_4, tz_4, tyq_5, inq_5, tz_5, tyq_9, str_9, tz_9, tyq_32, fq_32_0, fq_32_1, bq_32, feq_32, tz_32, Nat.reduceAdd, Nat.reduceSub, Nat.reduceMul, Nat.reduceLT, Nat.reduceLeDiff, Nat.reduceEqDiff, Int.reduceToNat, Int.reduceLE, Int.reduceLT, Int.reduceEq, Int.reduceNeg, reduceCtorEq, reduceIte, decide_true, decide_false, List.forall_mem_cons, List.not_mem_nil, false_implies, implies_true, Bool.and_true, Bool.true_and, and_self, Nat.sub_zero, Nat.zero_add, Nat.add_zero, ER, Int.natCast_add], by simp (maxSteps := 1000000) only [↓yld_succ, ↓yld_zero, EV, EO, ED, ↓EW, ↓EI, EB, EP, EL, tyq_0, tz_0, tyq_3, inq_3, tz_3, tyq_4, bool_4, tz_4, tyq_5, inq_5, tz_5, tyq_9, str_9, tz_9, tyq_32, fq_32_0, fq_32_1, bq_32, feq_32, tz_32, Nat.reduceAdd, Nat.reduceSub, Nat.reduceMul, Nat.reduceLT, Nat.reduceLeDiff, Nat.reduceEqDiff, Int.reduceToNat, Int.reduceLE, Int.reduceLT, Int.reduceEq, Int.reduceNeg, reduceCtorEq, reduceIte, decide_true, decide_false, List.forall_mem_cons, List.not_mem_nil, false_implies, implies_true, Bool.and_true, Bool.true_and, and_self, Nat.sub_zero, Nat.zero_add, Nat.add_zero, ER, pick, Int.natCast_add], rfl⟩
      · have h10 : ¬ gb s i = 10 := by simpa using h
        refine WC.skip ?_
        try simp only [EQ, reduceIte, Nat.reduceEqDiff]
        refine hK3 _ ?_; try clear hK3 K3
        refine WC.r1 ?_
        simp (maxSteps := 1000000) (disch := omega) only [↓yld_succ, ↓yld_zero, EV, EO, ED, ↓EW, ↓EI, EB, EP, EL, tyq_0, tz_0, tyq_3, inq_3, tz_3, tyq_4, bool_4, tz_4, tyq_5, inq_5, tz_5, tyq_9, str_9, tz_9, tyq_32, fq_32_0, fq_32_1, bq_32, feq_32, tz_32, Nat.reduceAdd, Nat.reduceSub, Nat.reduceMul, Nat.reduceLT, Nat.reduceLeDiff, Nat.reduceEqDiff, Int.reduceToNat, Int.reduceLE, Int.reduceLT, Int.reduceEq, Int.reduceNeg, reduceCtorEq, reduceIte, decide_true, decide_false, List.forall_mem_cons, List.not_mem_nil, false_implies, implies_true, Bool.and_true, Bool.true_and, and_self, Nat.sub_zero, Nat.zero_add, Nat.add_zero, w64]
        try simp only [EQ, reduceIte, Nat.reduceEqDiff]
        refine ⟨(i + 1, l', c' + 1), [0, 1], ⟨by dsimp only; omega, by dsimp only; omega, by dsimp only; omega, ?_⟩, by dsimp only; omega, ?_⟩
        · rw [← h4, show s.length - i = (s.length - (i + 1)) + 1 by omega]
          simp only [adv, h10, if_false]
        · refine ⟨by simp, by simp (maxSteps := 1000000) only [↓yld_succ, ↓yld_zero, EV, EO, ED, ↓EW, ↓EI, EB, EP, EL, tyq_0, tz_0, tyq_3, inq_3, tz_3, tyq_4, bool_4, tz_4, tyq_5, inq_5, tz_5, tyq_9, str_9, tz_9, tyq_32, fq_32_0, fq_32_1, bq_32, feq_32, tz_32, Nat.reduceAdd, Nat.reduceSub, Nat.reduceMul, Nat.reduceLT, Nat.reduceLeDiff, Nat.reduceEqDiff, Int.reduceToNat, Int.reduceLE, Int.reduceLT, Int.reduceEq, Int.reduceNeg, reduceCtorEq, reduceIte, decide_true, decide_false, List.forall_mem_cons, List.not_mem_nil, false_implies, implies_true, Bool.and_true, Bool.true_and, and_self, Nat.sub_zero, Nat.zero_add, Nat.add_zero, ER, and_self, Int.natCast_add], by simp (maxSteps := 1000000) only [↓yld_succ, ↓yld_zero, EV, EO, ED, ↓EW, ↓EI, EB, EP, EL, tyq_0, tz_0, tyq_3, inq_3, tz_3, tyq_4, bool_4, tz_4, tyq_5, inq_5, tz_5, tyq_9, str_9, tz_9, tyq_32, fq_32_0, fq_32_1, bq_32, feq_32, tz_32, Nat.reduceAdd, Nat.reduceSub, Nat.reduceMul, Nat.reduceLT, Nat.reduceLeDiff, Nat.reduceEqDiff, Int.reduceToNat, Int.reduceLE, Int.reduceLT, Int.reduceEq, Int.reduceNeg, reduceCtorEq, reduceIte, decide_true, decide_false, List.forall_mem_cons, List.not_mem_nil, false_implies, implies_true, Bool.and_true, Bool.true_and, and_self, Nat.sub_zero, Nat.zero_add, Nat.add_zero, ER, Int.natCast_add], by simp (maxSteps := 1000000) only [↓yld_succ, ↓yld_zero, EV, EO, ED, ↓EW, ↓EI, EB, EP, EL, tyq_0, tz_0, tyq_3, inq_3, tz_3, tyq_4, bool_4, tz_4, tyq_5, inq_5, tz_5, tyq_9, str_9, tz_9, tyq_32, fq_32_0, fq_32_1, bq_32, feq_32, tz_32, Nat.reduceAdd, Nat.reduceSub, Nat.reduceMul, Nat.reduceLT, Nat.reduceLeDiff, Nat.reduceEqDiff, Int.reduceToNat, Int.reduceLE, Int.reduceLT, Int.reduceEq, Int.reduceNeg, reduceCtorEq, reduceIte, decide_true, decide_false, List.forall_mem_cons, List.not_mem_nil, false_implies, implies_true, Bool.and_true, Bool.true_and, and_self, Nat.sub_zero, Nat.zero_add, Nat.add_zero, ER, pick, Int.natCast_add], rfl⟩
    · have hge : i = s.length := by simp at h; omega
      subst hge
      rw [Nat.sub_self] at h4
      simp only [adv] at h4
      refine WC.exit ?_
      simp only [EQ, reduceIte, Nat.reduceEqDiff]
      try simp only [EQ, reduceIte, Nat.reduceEqDiff]
      refine hK1 _ ?_; try clear hK1 K1
      refine WC.rs fun K hK => ?_
      simp (maxSteps := 1000000) only [↓yld_succ, ↓yld_zero, EV, EO, ED, ↓EW, ↓EI, EB, EP, EL, tyq_0, tz_0, tyq_3, inq_3, tz_3, tyq_4, bool_4, tz_4, tyq_5, inq_5, tz_5, tyq_9, str_9, tz_9, tyq_32, fq_32_0, fq_32_1, bq_32, feq_32, tz_32, Nat.reduceAdd, Nat.reduceSub, Nat.reduceMul, Nat.reduceLT, Nat.reduceLeDiff, Nat.reduceEqDiff, Int.reduceToNat, Int.reduceLE, Int.reduceLT, Int.reduceEq, Int.reduceNeg, reduceCtorEq, reduceIte, decide_true, decide_false, List.forall_mem_cons, List.not_mem_nil, false_implies, implies_true, Bool.and_true, Bool.true_and, and_self, Nat.sub_zero, Nat.zero_add, Nat.add_zero]
      refine hK _ ?_; try clear hK K
      refine WC.trim [0, 1, 2, 4, 5, 9, 19] ?_
      simp only [ET, Nat.reduceEqDiff, reduceIte]
      refine WC.ret ?_
      simp (maxSteps := 1000000) only [↓yld_succ, ↓yld_zero, EV, EO, ED, ↓EW, ↓EI, EB, EP, EL, tyq_0, tz_0, tyq_3, inq_3, tz_3, tyq_4, bool_4, tz_4, tyq_5, inq_5, tz_5, tyq_9, str_9, tz_9, tyq_32, fq_32_0, fq_32_1, bq_32, feq_32, tz_32, Nat.reduceAdd, Nat.reduceSub, Nat.reduceMul, Nat.reduceLT, Nat.reduceLeDiff, Nat.reduceEqDiff, Int.reduceToNat, Int.reduceLE, Int.reduceLT, Int.reduceEq, Int.reduceNeg, reduceCtorEq, reduceIte, decide_true, decide_false, List.forall_mem_cons, List.not_mem_nil, false_implies, implies_true, Bool.and_true, Bool.true_and, and_self, Nat.sub_zero, Nat.zero_add, Nat.add_zero, EQ, FnQ, Tryd.results24, wResL, tup, List.reverse_cons, List.reverse_nil, true_and]
      rw [← h4]
      exact endsSame (by simp only [CL, and_self]) closedBs_nil ⟨rfl, rfl⟩
end Go.LexSem
