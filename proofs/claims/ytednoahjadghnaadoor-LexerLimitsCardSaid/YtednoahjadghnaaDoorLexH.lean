import Derived.Test.YtednoahjadghnaaDoorLexG
set_option linter.unusedSimpArgs false
set_option linter.unusedVariables false
set_option linter.loopingSimpArgs false
namespace Go.LexSem
open Go Go.V Go.Proofs

/-- Where the word ends that begins at 0. -/
def wordTo (s : List UInt8) : Nat → Nat → Nat
  | 0, t => t
  | f + 1, t => if t < s.length ∧ (letterI (gb s t) || (decide (0 < t) && digitI (gb s t))) = true then wordTo s f (t + 1) else t
theorem wordTo_le (s : List UInt8) : ∀ f t, t ≤ s.length → wordTo s f t ≤ s.length
  | 0, t, h => h
  | f + 1, t, h => by
    unfold wordTo
    split
    · rename_i hc; exact wordTo_le s f (t + 1) hc.1
    · exact h
def tk (k : Nat) (t : List UInt8) (l c : Nat) : PVal := .agg [.int .i64 k, .str t, .int .i64 l, .int .i64 c]
/-- The token that stands first: its kind and text; the error. -/
def nextF (s : List UInt8) : Nat × List UInt8 × Nat :=
  if 0 < wordTo s s.length 0 then
    if s.take (wordTo s s.length 0) ∈ kws then (3, s.take (wordTo s s.length 0), 0) else if 12 < wordTo s s.length 0 then (0, [], 9) else (1, s.take (wordTo s s.length 0), 0)
  else if 60 < runTo digitI s s.length 0 then (0, [], 9)
  else if 0 < runTo digitI s s.length 0 then (2, s.take (runTo digitI s s.length 0), 0)
  else if signF s = 0 then (0, [], 4) else (4, s.take (signF s), 0)
theorem signF_le (s : List UInt8) (h : 0 < s.length) : signF s ≤ s.length := by
  unfold signF
  split
  · rename_i hc; exact hc.1
  · split <;> omega

theorem next_sem (s : List UInt8) (hs : s.length ≤ 8192) (h0 : 0 < s.length) : FSem C 25 [.str s] [] fun r st => r = .ret (.tuple [tk (nextF s).1 (nextF s).2.1 0 0, .int .i64 (nextF s).2.2]) ∧ st = [] := by
  refine FSem.enter' (C := C) (n := 72) Tryd.func25 rfl rfl ok_25 (by simp) ?_
  simp only [argEnv]
  refine WC.rs fun K hK => ?_
  simp (maxSteps := 1000000) only [↓yld_succ, ↓yld_zero, EV, EO, ED, ↓EW, ↓EI, EB, EP, EL, tyq_0, tz_0, tyq_3, inq_3, tz_3, tyq_4, bool_4, tz_4, tyq_5, inq_5, tz_5, tyq_9, str_9, tz_9, tyq_33, inq_33, tz_33, tyq_37, fq_37_0, fq_37_1, fq_37_2, fq_37_3, bq_37, feq_37, tz_37, Nat.reduceAdd, Nat.reduceSub, Nat.reduceMul, Nat.reduceLT, Nat.reduceLeDiff, Nat.reduceEqDiff, Int.reduceToNat, Int.reduceLE, Int.reduceLT, Int.reduceEq, Int.reduceNeg, reduceCtorEq, reduceIte, decide_true, decide_false, List.forall_mem_cons, List.not_mem_nil, false_implies, implies_true, Bool.and_true, Bool.true_and, and_self, Nat.sub_zero, Nat.zero_add, Nat.add_zero]
  refine hK _ ?_; try clear hK K
  refine WC.trim [0, 2, 3, 4, 5, 25, 29, 36, 39, 51, 55, 58, 66] ?_
  simp only [ET, Nat.reduceEqDiff, reduceIte]
  refine WC.rs fun K hK => ?_
  simp (maxSteps := 1000000) only [↓yld_succ, ↓yld_zero, EV, EO, ED, ↓EW, ↓EI, EB, EP, EL, tyq_0, tz_0, tyq_3, inq_3, tz_3, tyq_4, bool_4, tz_4, tyq_5, inq_5, tz_5, tyq_9, str_9, tz_9, tyq_33, inq_33, tz_33, tyq_37, fq_37_0, fq_37_1, fq_37_2, fq_37_3, bq_37, feq_37, tz_37, Nat.reduceAdd, Nat.reduceSub, Nat.reduceMul, Nat.reduceLT, Nat.reduceLeDiff, Nat.reduceEqDiff, Int.reduceToNat, Int.reduceLE, Int.reduceLT, Int.reduceEq, Int.reduceNeg, reduceCtorEq, reduceIte, decide_true, decide_false, List.forall_mem_cons, List.not_mem_nil, false_implies, implies_true, Bool.and_true, Bool.true_and, and_self, Nat.sub_zero, Nat.zero_add, Nat.add_zero]
  refine hK _ ?_; try clear hK K
  refine WC.trim [0, 2, 3, 4, 5, 25, 29, 36, 39, 51, 55, 58, 66] ?_
  simp only [ET, Nat.reduceEqDiff, reduceIte]
  refine WC.bs fun K1 hK1 => ?_
  refine WC.loop (X := Nat) (fun i => ⟨[(4, .int .i64 i), (3, .int .i64 0), (2, .ptr (.l 0) 0 0), (0, .str s)], [], [.row [.agg [.int .i64 0, .str [], .int .i64 0, .int .i64 0]] 4 37], []⟩)
    (fun i => i ≤ s.length ∧ wordTo s (s.length - i) i = wordTo s s.length 0) (fun i => s.length - i) 0 [0] ⟨Nat.zero_le _, rfl⟩ ?_ ?_
  · refine ⟨by simp, by simp (maxSteps := 1000000) only [↓yld_succ, ↓yld_zero, EV, EO, ED, ↓EW, ↓EI, EB, EP, EL, tyq_0, tz_0, tyq_3, inq_3, tz_3, tyq_4, bool_4, tz_4, tyq_5, inq_5, tz_5, tyq_9, str_9, tz_9, tyq_33, inq_33, tz_33, tyq_37, fq_37_0, fq_37_1, fq_37_2, fq_37_3, bq_37, feq_37, tz_37, Nat.reduceAdd, Nat.reduceSub, Nat.reduceMul, Nat.reduceLT, Nat.reduceLeDiff, Nat.reduceEqDiff, Int.reduceToNat, Int.reduceLE, Int.reduceLT, Int.reduceEq, Int.reduceNeg, reduceCtorEq, reduceIte, decide_true, decide_false, List.forall_mem_cons, List.not_mem_nil, false_implies, implies_true, Bool.and_true, Bool.true_and, and_self, Nat.sub_zero, Nat.zero_add, Nat.add_zero, ER, and_self], by simp (maxSteps := 1000000) only [↓yld_succ, ↓yld_zero, EV, EO, ED, ↓EW, ↓EI, EB, EP, EL, tyq_0, tz_0, tyq_3, inq_3, tz_3, tyq_4, bool_4, tz_4, tyq_5, inq_5, tz_5, tyq_9, str_9, tz_9, tyq_33, inq_33, tz_33, tyq_37, fq_37_0, fq_37_1, fq_37_2, fq_37_3, bq_37, feq_37, tz_37, Nat.reduceAdd, Nat.reduceSub, Nat.reduceMul, Nat.reduceLT, Nat.reduceLeDiff, Nat.reduceEqDiff, Int.reduceToNat, Int.reduceLE, Int.reduceLT, Int.reduceEq, Int.reduceNeg, reduceCtorEq, reduceIte, decide_true, decide_false, List.forall_mem_cons, List.not_mem_nil, false_implies, implies_true, Bool.and_true, Bool.true_and, and_self, Nat.sub_zero, Nat.zero_add, Nat.add_zero, ER], by simp (maxSteps := 1000000) only [↓yld_succ, ↓yld_zero, EV, EO, ED, ↓EW, ↓EI, EB, EP, EL, tyq_0, tz_0, tyq_3, inq_3, tz_3, tyq_4, bool_4, tz_4, tyq_5, inq_5, tz_5, tyq_9, str_9, tz_9, tyq_33, inq_33, tz_33, tyq_37, fq_37_0, fq_37_1, fq_37_2, fq_37_3, bq_37, feq_37, tz_37, Nat.reduceAdd, Nat.reduceSub, Nat.reduceMul, Nat.reduceLT, Nat.reduceLeDiff, Nat.reduceEqDiff, Int.reduceToNat, Int.reduceLE, Int.reduceLT, Int.reduceEq, Int.reduceNeg, reduceCtorEq, reduceIte, decide_true, decide_false, List.forall_mem_cons, List.not_mem_nil, false_implies, implies_true, Bool.and_true, Bool.true_and, and_self, Nat.sub_zero, Nat.zero_add, Nat.add_zero, ER, pick], rfl⟩
  · rintro i ⟨h1, h2⟩
    refine WC.sK fun K2 hK2 => ?_
    refine WC.rj ⟨[(25, .bool (decide (i < s.length) && (letterI (gb s i) || (decide (0 < i) && digitI (gb s i))))), (4, .int .i64 i), (3, .int .i64 0), (2, .ptr (.l 0) 0 0), (0, .str s)], [], [.row [.agg [.int .i64 0, .str [], .int .i64 0, .int .i64 0]] 4 37], []⟩ ?_ ?_
    · simp (maxSteps := 1000000) only [↓yld_succ, ↓yld_zero, EV, EO, ED, ↓EW, ↓EI, EB, EP, EL, tyq_0, tz_0, tyq_3, inq_3, tz_3, tyq_4, bool_4, tz_4, tyq_5, inq_5, tz_5, tyq_9, str_9, tz_9, tyq_33, inq_33, tz_33, tyq_37, fq_37_0, fq_37_1, fq_37_2, fq_37_3, bq_37, feq_37, tz_37, Nat.reduceAdd, Nat.reduceSub, Nat.reduceMul, Nat.reduceLT, Nat.reduceLeDiff, Nat.reduceEqDiff, Int.reduceToNat, Int.reduceLE, Int.reduceLT, Int.reduceEq, Int.reduceNeg, reduceCtorEq, reduceIte, decide_true, decide_false, List.forall_mem_cons, List.not_mem_nil, false_implies, implies_true, Bool.and_true, Bool.true_and, and_self, Nat.sub_zero, Nat.zero_add, Nat.add_zero]
      repeat' ((first | refine ⟨by first | omega | (clear hK1 hK2; simp_all; done) | (clear hK1 hK2; simp_all; omega), ?_⟩ | refine gW_split (fun h => ?_) (fun h => ?_) | refine gP_split (fun h => ?_) (fun h => ?_) | refine CallX.mk (CallW.pure (refLetter_sem _) (by simp only [CL, and_self]) (by simp only [CL]) ?_) | refine CallX.mk (CallW.pure (refDigit_sem _) (by simp only [CL, and_self]) (by simp only [CL]) ?_)) <;> (try simp (maxSteps := 1000000) only [↓yld_succ, ↓yld_zero, EV, EO, ED, ↓EW, ↓EI, EB, EP, EL, tyq_0, tz_0, tyq_3, inq_3, tz_3, tyq_4, bool_4, tz_4, tyq_5, inq_5, tz_5, tyq_9, str_9, tz_9, tyq_33, inq_33, tz_33, tyq_37, fq_37_0, fq_37_1, fq_37_2, fq_37_3, bq_37, feq_37, tz_37, Nat.reduceAdd, Nat.reduceSub, Nat.reduceMul, Nat.reduceLT, Nat.reduceLeDiff, Nat.reduceEqDiff, Int.reduceToNat, Int.reduceLE, Int.reduceLT, Int.reduceEq, Int.reduceNeg, reduceCtorEq, reduceIte, decide_true, decide_false, List.forall_mem_cons, List.not_mem_nil, false_implies, implies_true, Bool.and_true, Bool.true_and, and_self, Nat.sub_zero, Nat.zero_add, Nat.add_zero, h, Bool.not_true, Bool.not_false]))
      all_goals
        refine ⟨[0], ?_⟩
        refine ⟨by simp, ?_, by simp (maxSteps := 1000000) only [↓yld_succ, ↓yld_zero, EV, EO, ED, ↓EW, ↓EI, EB, EP, EL, tyq_0, tz_0, tyq_3, inq_3, tz_3, tyq_4, bool_4, tz_4, tyq_5, inq_5, tz_5, tyq_9, str_9, tz_9, tyq_33, inq_33, tz_33, tyq_37, fq_37_0, fq_37_1, fq_37_2, fq_37_3, bq_37, feq_37, tz_37, Nat.reduceAdd, Nat.reduceSub, Nat.reduceMul, Nat.reduceLT, Nat.reduceLeDiff, Nat.reduceEqDiff, Int.reduceToNat, Int.reduceLE, Int.reduceLT, Int.reduceEq, Int.reduceNeg, reduceCtorEq, reduceIte, decide_true, decide_false, List.forall_mem_cons, List.not_mem_nil, false_implies, implies_true, Bool.and_true, Bool.true_and, and_self, Nat.sub_zero, Nat.zero_add, Nat.add_zero, ER], by simp (maxSteps := 1000000) only [↓yld_succ, ↓yld_zero, EV, EO, ED, ↓EW, ↓EI, EB, EP, EL, tyq_0, tz_0, tyq_3, inq_3, tz_3, tyq_4, bool_4, tz_4, tyq_5, inq_5, tz_5, tyq_9, str_9, tz_9, tyq_33, inq_33, tz_33, tyq_37, fq_37_0, fq_37_1, fq_37_2, fq_37_3, bq_37, feq_37, tz_37, Nat.reduceAdd, Nat.reduceSub, Nat.reduceMul, Nat.reduceLT, Nat.reduceLeDiff, Nat.reduceEqDiff, Int.reduceToNat, Int.reduceLE, Int.reduceLT, Int.reduceEq, Int.reduceNeg, reduceCtorEq, reduceIte, decide_true, decide_false, List.forall_mem_cons, List.not_mem_nil, false_implies, implies_true, Bool.and_true, Bool.true_and, and_self, Nat.sub_zero, Nat.zero_add, Nat.add_zero, ER, pick], rfl⟩
        simp (maxSteps := 1000000) only [↓yld_succ, ↓yld_zero, EV, EO, ED, ↓EW, ↓EI, EB, EP, EL, tyq_0, tz_0, tyq_3, inq_3, tz_3, tyq_4, bool_4, tz_4, tyq_5, inq_5, tz_5, tyq_9, str_9, tz_9, tyq_33, inq_33, tz_33, tyq_37, fq_37_0, fq_37_1, fq_37_2, fq_37_3, bq_37, feq_37, tz_37, Nat.reduceAdd, Nat.reduceSub, Nat.reduceMul, Nat.reduceLT, Nat.reduceLeDiff, Nat.reduceEqDiff, Int.reduceToNat, Int.reduceLE, Int.reduceLT, Int.reduceEq, Int.reduceNeg, reduceCtorEq, reduceIte, decide_true, decide_false, List.forall_mem_cons, List.not_mem_nil, false_implies, implies_true, Bool.and_true, Bool.true_and, and_self, Nat.sub_zero, Nat.zero_add, Nat.add_zero, ER, and_self]
        clear hK1 hK2
        simp_all
        try (intro hh; omega)
    · refine WC.cond (c := .tmp 25) rfl (fun h => ?_) (fun h => ?_)
      · have hc : i < s.length ∧ (letterI (gb s i) || (decide (0 < i) && digitI (gb s i))) = true := by
          clear hK1 hK2; simpa only [Bool.and_eq_true, decide_eq_true_eq] using h
        refine WC.skip ?_
        try simp only [EQ, reduceIte, Nat.reduceEqDiff]
        refine hK2 _ ?_; try clear hK2 K2
        refine WC.b1 ?_
        refine WC.r1 ?_
        simp (maxSteps := 1000000) (disch := omega) only [↓yld_succ, ↓yld_zero, EV, EO, ED, ↓EW, ↓EI, EB, EP, EL, tyq_0, tz_0, tyq_3, inq_3, tz_3, tyq_4, bool_4, tz_4, tyq_5, inq_5, tz_5, tyq_9, str_9, tz_9, tyq_33, inq_33, tz_33, tyq_37, fq_37_0, fq_37_1, fq_37_2, fq_37_3, bq_37, feq_37, tz_37, Nat.reduceAdd, Nat.reduceSub, Nat.reduceMul, Nat.reduceLT, Nat.reduceLeDiff, Nat.reduceEqDiff, Int.reduceToNat, Int.reduceLE, Int.reduceLT, Int.reduceEq, Int.reduceNeg, reduceCtorEq, reduceIte, decide_true, decide_false, List.forall_mem_cons, List.not_mem_nil, false_implies, implies_true, Bool.and_true, Bool.true_and, and_self, Nat.sub_zero, Nat.zero_add, Nat.add_zero, w64]
        try simp only [EQ, reduceIte, Nat.reduceEqDiff]
        refine ⟨i + 1, [0], ⟨by omega, ?_⟩, by omega, ?_⟩
        · rw [← h2, show s.length - i = (s.length - (i + 1)) + 1 by omega]
          conv => rhs; unfold wordTo
          rw [if_pos hc]
        · refine ⟨by simp, by simp (maxSteps := 1000000) only [↓yld_succ, ↓yld_zero, EV, EO, ED, ↓EW, ↓EI, EB, EP, EL, tyq_0, tz_0, tyq_3, inq_3, tz_3, tyq_4, bool_4, tz_4, tyq_5, inq_5, tz_5, tyq_9, str_9, tz_9, tyq_33, inq_33, tz_33, tyq_37, fq_37_0, fq_37_1, fq_37_2, fq_37_3, bq_37, feq_37, tz_37, Nat.reduceAdd, Nat.reduceSub, Nat.reduceMul, Nat.reduceLT, Nat.reduceLeDiff, Nat.reduceEqDiff, Int.reduceToNat, Int.reduceLE, Int.reduceLT, Int.reduceEq, Int.reduceNeg, reduceCtorEq, reduceIte, decide_true, decide_false, List.forall_mem_cons, List.not_mem_nil, false_implies, implies_true, Bool.and_true, Bool.true_and, and_self, Nat.sub_zero, Nat.zero_add, Nat.add_zero, ER, and_self, Int.natCast_add], by simp (maxSteps := 1000000) only [↓yld_succ, ↓yld_zero, EV, EO, ED, ↓EW, ↓EI, EB, EP, EL, tyq_0, tz_0, tyq_3, inq_3, tz_3, tyq_4, bool_4, tz_4, tyq_5, inq_5, tz_5, tyq_9, str_9, tz_9, tyq_33, inq_33, tz_33, tyq_37, fq_37_0, fq_37_1, fq_37_2, fq_37_3, bq_37, feq_37, tz_37, Nat.reduceAdd, Nat.reduceSub, Nat.reduceMul, Nat.reduceLT, Nat.reduceLeDiff, Nat.reduceEqDiff, Int.reduceToNat, Int.reduceLE, Int.reduceLT, Int.reduceEq, Int.reduceNeg, reduceCtorEq, reduceIte, decide_true, decide_false, List.forall_mem_cons, List.not_mem_nil, false_implies, implies_true, Bool.and_true, Bool.true_and, and_self, Nat.sub_zero, Nat.zero_add, Nat.add_zero, ER, Int.natCast_add], by simp (maxSteps := 1000000) only [↓yld_succ, ↓yld_zero, EV, EO, ED, ↓EW, ↓EI, EB, EP, EL, tyq_0, tz_0, tyq_3, inq_3, tz_3, tyq_4, bool_4, tz_4, tyq_5, inq_5, tz_5, tyq_9, str_9, tz_9, tyq_33, inq_33, tz_33, tyq_37, fq_37_0, fq_37_1, fq_37_2, fq_37_3, bq_37, feq_37, tz_37, Nat.reduceAdd, Nat.reduceSub, Nat.reduceMul, Nat.reduceLT, Nat.reduceLeDiff, Nat.reduceEqDiff, Int.reduceToNat, Int.reduceLE, Int.reduceLT, Int.reduceEq, Int.reduceNeg, reduceCtorEq, reduceIte, decide_true, decide_false, List.forall_mem_cons, List.not_mem_nil, false_implies, implies_true, Bool.and_true, Bool.true_and, and_self, Nat.sub_zero, Nat.zero_add, Nat.add_zero, ER, pick, Int.natCast_add], rfl⟩
      · have hc : ¬ (i < s.length ∧ (letterI (gb s i) || (decide (0 < i) && digitI (gb s i))) = true) := fun hh => by
          rw [show decide (i < s.length) = true from by simpa using hh.1, hh.2] at h; cases h
        have hw : wordTo s s.length 0 = i := by
          rw [← h2]
          cases hk : s.length - i with
          | zero => rfl
          | succ k => unfold wordTo; rw [if_neg hc]
        refine WC.exit ?_
        simp only [EQ, reduceIte, Nat.reduceEqDiff]
        refine hK1 _ ?_
        clear hK2 K2
        refine WC.sK fun K3 hK3 => ?_
        refine WC.rs fun K hK => ?_
        simp (maxSteps := 1000000) only [↓yld_succ, ↓yld_zero, EV, EO, ED, ↓EW, ↓EI, EB, EP, EL, tyq_0, tz_0, tyq_3, inq_3, tz_3, tyq_4, bool_4, tz_4, tyq_5, inq_5, tz_5, tyq_9, str_9, tz_9, tyq_33, inq_33, tz_33, tyq_37, fq_37_0, fq_37_1, fq_37_2, fq_37_3, bq_37, feq_37, tz_37, Nat.reduceAdd, Nat.reduceSub, Nat.reduceMul, Nat.reduceLT, Nat.reduceLeDiff, Nat.reduceEqDiff, Int.reduceToNat, Int.reduceLE, Int.reduceLT, Int.reduceEq, Int.reduceNeg, reduceCtorEq, reduceIte, decide_true, decide_false, List.forall_mem_cons, List.not_mem_nil, false_implies, implies_true, Bool.and_true, Bool.true_and, and_self, Nat.sub_zero, Nat.zero_add, Nat.add_zero]
        refine hK _ ?_; try clear hK K
        refine WC.trim [0, 2, 3, 4, 5, 25, 29, 36, 39, 51, 55, 58, 66] ?_
        simp only [ET, Nat.reduceEqDiff, reduceIte]
        refine WC.cond (c := .tmp 29) rfl (fun h => ?_) (fun h => ?_)
        · have hpos : 0 < i := by simp at h; omega
          refine WC.rs fun K hK => ?_
          simp (maxSteps := 1000000) only [↓yld_succ, ↓yld_zero, EV, EO, ED, ↓EW, ↓EI, EB, EP, EL, tyq_0, tz_0, tyq_3, inq_3, tz_3, tyq_4, bool_4, tz_4, tyq_5, inq_5, tz_5, tyq_9, str_9, tz_9, tyq_33, inq_33, tz_33, tyq_37, fq_37_0, fq_37_1, fq_37_2, fq_37_3, bq_37, feq_37, tz_37, Nat.reduceAdd, Nat.reduceSub, Nat.reduceMul, Nat.reduceLT, Nat.reduceLeDiff, Nat.reduceEqDiff, Int.reduceToNat, Int.reduceLE, Int.reduceLT, Int.reduceEq, Int.reduceNeg, reduceCtorEq, reduceIte, decide_true, decide_false, List.forall_mem_cons, List.not_mem_nil, false_implies, implies_true, Bool.and_true, Bool.true_and, and_self, Nat.sub_zero, Nat.zero_add, Nat.add_zero]
          repeat refine ⟨by omega, ?_⟩
          refine hK _ ?_; try clear hK K
          refine WC.trim [0, 2, 3, 4, 5, 25, 29, 36, 39, 51, 55, 58, 66] ?_
          simp only [ET, Nat.reduceEqDiff, reduceIte]
          refine WC.sK fun K4 hK4 => ?_
          refine WC.rs fun K hK => ?_
          simp (maxSteps := 1000000) only [↓yld_succ, ↓yld_zero, EV, EO, ED, ↓EW, ↓EI, EB, EP, EL, tyq_0, tz_0, tyq_3, inq_3, tz_3, tyq_4, bool_4, tz_4, tyq_5, inq_5, tz_5, tyq_9, str_9, tz_9, tyq_33, inq_33, tz_33, tyq_37, fq_37_0, fq_37_1, fq_37_2, fq_37_3, bq_37, feq_37, tz_37, Nat.reduceAdd, Nat.reduceSub, Nat.reduceMul, Nat.reduceLT, Nat.reduceLeDiff, Nat.reduceEqDiff, Int.reduceToNat, Int.reduceLE, Int.reduceLT, Int.reduceEq, Int.reduceNeg, reduceCtorEq, reduceIte, decide_true, decide_false, List.forall_mem_cons, List.not_mem_nil, false_implies, implies_true, Bool.and_true, Bool.true_and, and_self, Nat.sub_zero, Nat.zero_add, Nat.add_zero]
          refine CallX.mk (CallW.pure (keyword_sem (s.take i)) (by simp only [CL, and_self]) (by simp only [CL]) ?_)
          simp (maxSteps := 1000000) only [↓yld_succ, ↓yld_zero, EV, EO, ED, ↓EW, ↓EI, EB, EP, EL, tyq_0, tz_0, tyq_3, inq_3, tz_3, tyq_4, bool_4, tz_4, tyq_5, inq_5, tz_5, tyq_9, str_9, tz_9, tyq_33, inq_33, tz_33, tyq_37, fq_37_0, fq_37_1, fq_37_2, fq_37_3, bq_37, feq_37, tz_37, Nat.reduceAdd, Nat.reduceSub, Nat.reduceMul, Nat.reduceLT, Nat.reduceLeDiff, Nat.reduceEqDiff, Int.reduceToNat, Int.reduceLE, Int.reduceLT, Int.reduceEq, Int.reduceNeg, reduceCtorEq, reduceIte, decide_true, decide_false, List.forall_mem_cons, List.not_mem_nil, false_implies, implies_true, Bool.and_true, Bool.true_and, and_self, Nat.sub_zero, Nat.zero_add, Nat.add_zero]
          refine hK _ ?_; try clear hK K
          refine WC.trim [0, 2, 3, 4, 5, 25, 29, 36, 39, 51, 55, 58, 66] ?_
          simp only [ET, Nat.reduceEqDiff, reduceIte]
          refine WC.cond (c := .tmp 36) rfl (fun h => ?_) (fun h => ?_)
          · have hkw : s.take i ∈ kws := by simpa using h
            refine WC.r1 ?_
            simp (maxSteps := 1000000) only [↓yld_succ, ↓yld_zero, EV, EO, ED, ↓EW, ↓EI, EB, EP, EL, tyq_0, tz_0, tyq_3, inq_3, tz_3, tyq_4, bool_4, tz_4, tyq_5, inq_5, tz_5, tyq_9, str_9, tz_9, tyq_33, inq_33, tz_33, tyq_37, fq_37_0, fq_37_1, fq_37_2, fq_37_3, bq_37, feq_37, tz_37, Nat.reduceAdd, Nat.reduceSub, Nat.reduceMul, Nat.reduceLT, Nat.reduceLeDiff, Nat.reduceEqDiff, Int.reduceToNat, Int.reduceLE, Int.reduceLT, Int.reduceEq, Int.reduceNeg, reduceCtorEq, reduceIte, decide_true, decide_false, List.forall_mem_cons, List.not_mem_nil, false_implies, implies_true, Bool.and_true, Bool.true_and, and_self, Nat.sub_zero, Nat.zero_add, Nat.add_zero]
            try simp only [EQ, reduceIte, Nat.reduceEqDiff]
            refine hK4 _ ?_; try clear hK4 K4
            refine WC.rs fun K hK => ?_
            simp (maxSteps := 1000000) only [↓yld_succ, ↓yld_zero, EV, EO, ED, ↓EW, ↓EI, EB, EP, EL, tyq_0, tz_0, tyq_3, inq_3, tz_3, tyq_4, bool_4, tz_4, tyq_5, inq_5, tz_5, tyq_9, str_9, tz_9, tyq_33, inq_33, tz_33, tyq_37, fq_37_0, fq_37_1, fq_37_2, fq_37_3, bq_37, feq_37, tz_37, Nat.reduceAdd, Nat.reduceSub, Nat.reduceMul, Nat.reduceLT, Nat.reduceLeDiff, Nat.reduceEqDiff, Int.reduceToNat, Int.reduceLE, Int.reduceLT, Int.reduceEq, Int.reduceNeg, reduceCtorEq, reduceIte, decide_true, decide_false, List.forall_mem_cons, List.not_mem_nil, false_implies, implies_true, Bool.and_true, Bool.true_and, and_self, Nat.sub_zero, Nat.zero_add, Nat.add_zero]
            refine hK _ ?_; try clear hK K
            refine WC.trim [0, 2, 3, 4, 5, 25, 29, 36, 39, 51, 55, 58, 66] ?_
            simp only [ET, Nat.reduceEqDiff, reduceIte]
            refine WC.ret ?_
            simp (maxSteps := 1000000) only [↓yld_succ, ↓yld_zero, EV, EO, ED, ↓EW, ↓EI, EB, EP, EL, tyq_0, tz_0, tyq_3, inq_3, tz_3, tyq_4, bool_4, tz_4, tyq_5, inq_5, tz_5, tyq_9, str_9, tz_9, tyq_33, inq_33, tz_33, tyq_37, fq_37_0, fq_37_1, fq_37_2, fq_37_3, bq_37, feq_37, tz_37, Nat.reduceAdd, Nat.reduceSub, Nat.reduceMul, Nat.reduceLT, Nat.reduceLeDiff, Nat.reduceEqDiff, Int.reduceToNat, Int.reduceLE, Int.reduceLT, Int.reduceEq, Int.reduceNeg, reduceCtorEq, reduceIte, decide_true, decide_false, List.forall_mem_cons, List.not_mem_nil, false_implies, implies_true, Bool.and_true, Bool.true_and, and_self, Nat.sub_zero, Nat.zero_add, Nat.add_zero, EQ, FnQ, Tryd.results25, wResL, tup, List.reverse_cons, List.reverse_nil, true_and]
            refine endsSame (by simp only [CL, and_self]) closedBs_nil ⟨?_, rfl⟩
            rw [nextF, hw, if_pos hpos, if_pos hkw]; rfl
          · have hkw : ¬ s.take i ∈ kws := by simpa using h
            refine WC.rs fun K hK => ?_
            simp (maxSteps := 1000000) only [↓yld_succ, ↓yld_zero, EV, EO, ED, ↓EW, ↓EI, EB, EP, EL, tyq_0, tz_0, tyq_3, inq_3, tz_3, tyq_4, bool_4, tz_4, tyq_5, inq_5, tz_5, tyq_9, str_9, tz_9, tyq_33, inq_33, tz_33, tyq_37, fq_37_0, fq_37_1, fq_37_2, fq_37_3, bq_37, feq_37, tz_37, Nat.reduceAdd, Nat.reduceSub, Nat.reduceMul, Nat.reduceLT, Nat.reduceLeDiff, Nat.reduceEqDiff, Int.reduceToNat, Int.reduceLE, Int.reduceLT, Int.reduceEq, Int.reduceNeg, reduceCtorEq, reduceIte, decide_true, decide_false, List.forall_mem_cons, List.not_mem_nil, false_implies, implies_true, Bool.and_true, Bool.true_and, and_self, Nat.sub_zero, Nat.zero_add, Nat.add_zero]
            refine hK _ ?_; try clear hK K
            refine WC.trim [0, 2, 3, 4, 5, 25, 29, 36, 39, 51, 55, 58, 66] ?_
            simp only [ET, Nat.reduceEqDiff, reduceIte]
            refine WC.cond (c := .tmp 39) rfl (fun h => ?_) (fun h => ?_)
            · have h12 : 12 < i := by simp at h; omega
              refine WC.rs fun K hK => ?_
              simp (maxSteps := 1000000) only [↓yld_succ, ↓yld_zero, EV, EO, ED, ↓EW, ↓EI, EB, EP, EL, tyq_0, tz_0, tyq_3, inq_3, tz_3, tyq_4, bool_4, tz_4, tyq_5, inq_5, tz_5, tyq_9, str_9, tz_9, tyq_33, inq_33, tz_33, tyq_37, fq_37_0, fq_37_1, fq_37_2, fq_37_3, bq_37, feq_37, tz_37, Nat.reduceAdd, Nat.reduceSub, Nat.reduceMul, Nat.reduceLT, Nat.reduceLeDiff, Nat.reduceEqDiff, Int.reduceToNat, Int.reduceLE, Int.reduceLT, Int.reduceEq, Int.reduceNeg, reduceCtorEq, reduceIte, decide_true, decide_false, List.forall_mem_cons, List.not_mem_nil, false_implies, implies_true, Bool.and_true, Bool.true_and, and_self, Nat.sub_zero, Nat.zero_add, Nat.add_zero]
              refine hK _ ?_; try clear hK K
              refine WC.trim [0, 2, 3, 4, 5, 25, 29, 36, 39, 51, 55, 58, 66] ?_
              simp only [ET, Nat.reduceEqDiff, reduceIte]
              refine WC.ret ?_
              simp (maxSteps := 1000000) only [↓yld_succ, ↓yld_zero, EV, EO, ED, ↓EW, ↓EI, EB, EP, EL, tyq_0, tz_0, tyq_3, inq_3, tz_3, tyq_4, bool_4, tz_4, tyq_5, inq_5, tz_5, tyq_9, str_9, tz_9, tyq_33, inq_33, tz_33, tyq_37, fq_37_0, fq_37_1, fq_37_2, fq_37_3, bq_37, feq_37, tz_37, Nat.reduceAdd, Nat.reduceSub, Nat.reduceMul, Nat.reduceLT, Nat.reduceLeDiff, Nat.reduceEqDiff, Int.reduceToNat, Int.reduceLE, Int.reduceLT, Int.reduceEq, Int.reduceNeg, reduceCtorEq, reduceIte, decide_true, decide_false, List.forall_mem_cons, List.not_mem_nil, false_implies, implies_true, Bool.and_true, Bool.true_and, and_self, Nat.sub_zero, Nat.zero_add, Nat.add_zero, EQ, FnQ, Tryd.results25, wResL, tup, List.reverse_cons, List.reverse_nil, true_and]
              refine endsSame (by simp only [CL, and_self]) closedBs_nil ⟨?_, rfl⟩
              rw [nextF, hw, if_pos hpos, if_neg hkw, if_pos h12]; rfl
            · have h12 : ¬ 12 < i := by simp at h; omega
              refine WC.skip ?_
              try simp only [EQ, reduceIte, Nat.reduceEqDiff]
              refine hK4 _ ?_; try clear hK4 K4
              refine WC.rs fun K hK => ?_
              simp (maxSteps := 1000000) only [↓yld_succ, ↓yld_zero, EV, EO, ED, ↓EW, ↓EI, EB, EP, EL, tyq_0, tz_0, tyq_3, inq_3, tz_3, tyq_4, bool_4, tz_4, tyq_5, inq_5, tz_5, tyq_9, str_9, tz_9, tyq_33, inq_33, tz_33, tyq_37, fq_37_0, fq_37_1, fq_37_2, fq_37_3, bq_37, feq_37, tz_37, Nat.reduceAdd, Nat.reduceSub, Nat.reduceMul, Nat.reduceLT, Nat.reduceLeDiff, Nat.reduceEqDiff, Int.reduceToNat, Int.reduceLE, Int.reduceLT, Int.reduceEq, Int.reduceNeg, reduceCtorEq, reduceIte, decide_true, decide_false, List.forall_mem_cons, List.not_mem_nil, false_implies, implies_true, Bool.and_true, Bool.true_and, and_self, Nat.sub_zero, Nat.zero_add, Nat.add_zero]
              refine hK _ ?_; try clear hK K
              refine WC.trim [0, 2, 3, 4, 5, 25, 29, 36, 39, 51, 55, 58, 66] ?_
              simp only [ET, Nat.reduceEqDiff, reduceIte]
              refine WC.ret ?_
              simp (maxSteps := 1000000) only [↓yld_succ, ↓yld_zero, EV, EO, ED, ↓EW, ↓EI, EB, EP, EL, tyq_0, tz_0, tyq_3, inq_3, tz_3, tyq_4, bool_4, tz_4, tyq_5, inq_5, tz_5, tyq_9, str_9, tz_9, tyq_33, inq_33, tz_33, tyq_37, fq_37_0, fq_37_1, fq_37_2, fq_37_3, bq_37, feq_37, tz_37, Nat.reduceAdd, Nat.reduceSub, Nat.reduceMul, Nat.reduceLT, Nat.reduceLeDiff, Nat.reduceEqDiff, Int.reduceToNat, Int.reduceLE, Int.reduceLT, Int.reduceEq, Int.reduceNeg, reduceCtorEq, reduceIte, decide_true, decide_false, List.forall_mem_cons, List.not_mem_nil, false_implies, implies_true, Bool.and_true, Bool.true_and, and_self, Nat.sub_zero, Nat.zero_add, Nat.add_zero, EQ, FnQ, Tryd.results25, wResL, tup, List.reverse_cons, List.reverse_nil, true_and]
              refine endsSame (by simp only [CL, and_self]) closedBs_nil ⟨?_, rfl⟩
              rw [nextF, hw, if_pos hpos, if_neg hkw, if_neg h12]; rfl
        · have hz : i = 0 := by simp at h; omega
          subst hz
          refine WC.skip ?_
          try simp only [EQ, reduceIte, Nat.reduceEqDiff]
          refine hK3 _ ?_; try clear hK3 K3
          refine WC.bs fun K5 hK5 => ?_
          refine WC.loop (X := Nat) (fun i => ⟨[(4, .int .i64 i), (3, .int .i64 0), (2, .ptr (.l 0) 0 0), (0, .str s)], [], [.row [.agg [.int .i64 0, .str [], .int .i64 0, .int .i64 0]] 4 37], []⟩)
            (fun i => i ≤ s.length ∧ runTo digitI s (s.length - i) i = runTo digitI s s.length 0) (fun i => s.length - i) 0 [0] ⟨Nat.zero_le _, rfl⟩ ?_ ?_
          · refine ⟨by simp, by simp (maxSteps := 1000000) only [↓yld_succ, ↓yld_zero, EV, EO, ED, ↓EW, ↓EI, EB, EP, EL, tyq_0, tz_0, tyq_3, inq_3, tz_3, tyq_4, bool_4, tz_4, tyq_5, inq_5, tz_5, tyq_9, str_9, tz_9, tyq_33, inq_33, tz_33, tyq_37, fq_37_0, fq_37_1, fq_37_2, fq_37_3, bq_37, feq_37, tz_37, Nat.reduceAdd, Nat.reduceSub, Nat.reduceMul, Nat.reduceLT, Nat.reduceLeDiff, Nat.reduceEqDiff, Int.reduceToNat, Int.reduceLE, Int.reduceLT, Int.reduceEq, Int.reduceNeg, reduceCtorEq, reduceIte, decide_true, decide_false, List.forall_mem_cons, List.not_mem_nil, false_implies, implies_true, Bool.and_true, Bool.true_and, and_self, Nat.sub_zero, Nat.zero_add, Nat.add_zero, ER, and_self], by simp (maxSteps := 1000000) only [↓yld_succ, ↓yld_zero, EV, EO, ED, ↓EW, ↓EI, EB, EP, EL, tyq_0, tz_0, tyq_3, inq_3, tz_3, tyq_4, bool_4, tz_4, tyq_5, inq_5, tz_5, tyq_9, str_9, tz_9, tyq_33, inq_33, tz_33, tyq_37, fq_37_0, fq_37_1, fq_37_2, fq_37_3, bq_37, feq_37, tz_37, Nat.reduceAdd, Nat.reduceSub, Nat.reduceMul, Nat.reduceLT, Nat.reduceLeDiff, Nat.reduceEqDiff, Int.reduceToNat, Int.reduceLE, Int.reduceLT, Int.reduceEq, Int.reduceNeg, reduceCtorEq, reduceIte, decide_true, decide_false, List.forall_mem_cons, List.not_mem_nil, false_implies, implies_true, Bool.and_true, Bool.true_and, and_self, Nat.sub_zero, Nat.zero_add, Nat.add_zero, ER], by simp (maxSteps := 1000000) only [↓yld_succ, ↓yld_zero, EV, EO, ED, ↓EW, ↓EI, EB, EP, EL, tyq_0, tz_0, tyq_3, inq_3, tz_3, tyq_4, bool_4, tz_4, tyq_5, inq_5, tz_5, tyq_9, str_9, tz_9, tyq_33, inq_33, tz_33, tyq_37, fq_37_0, fq_37_1, fq_37_2, fq_37_3, bq_37, feq_37, tz_37, Nat.reduceAdd, Nat.reduceSub, Nat.reduceMul, Nat.reduceLT, Nat.reduceLeDiff, Nat.reduceEqDiff, Int.reduceToNat, Int.reduceLE, Int.reduceLT, Int.reduceEq, Int.reduceNeg, reduceCtorEq, reduceIte, decide_true, decide_false, List.forall_mem_cons, List.not_mem_nil, false_implies, implies_true, Bool.and_true, Bool.true_and, and_self, Nat.sub_zero, Nat.zero_add, Nat.add_zero, ER, pick], rfl⟩
          · rintro j ⟨g1, g2⟩
            refine WC.sK fun K6 hK6 => ?_
            refine WC.rj ⟨[(51, .bool (decide (j < s.length) && digitI (gb s j))), (4, .int .i64 j), (3, .int .i64 0), (2, .ptr (.l 0) 0 0), (0, .str s)], [], [.row [.agg [.int .i64 0, .str [], .int .i64 0, .int .i64 0]] 4 37], []⟩ ?_ ?_
            · simp (maxSteps := 1000000) only [↓yld_succ, ↓yld_zero, EV, EO, ED, ↓EW, ↓EI, EB, EP, EL, tyq_0, tz_0, tyq_3, inq_3, tz_3, tyq_4, bool_4, tz_4, tyq_5, inq_5, tz_5, tyq_9, str_9, tz_9, tyq_33, inq_33, tz_33, tyq_37, fq_37_0, fq_37_1, fq_37_2, fq_37_3, bq_37, feq_37, tz_37, Nat.reduceAdd, Nat.reduceSub, Nat.reduceMul, Nat.reduceLT, Nat.reduceLeDiff, Nat.reduceEqDiff, Int.reduceToNat, Int.reduceLE, Int.reduceLT, Int.reduceEq, Int.reduceNeg, reduceCtorEq, reduceIte, decide_true, decide_false, List.forall_mem_cons, List.not_mem_nil, false_implies, implies_true, Bool.and_true, Bool.true_and, and_self, Nat.sub_zero, Nat.zero_add, Nat.add_zero]
              repeat' ((first | refine ⟨by first | omega | (clear hK1 hK5 hK6; simp_all; done) | (clear hK1 hK5 hK6; simp_all; omega), ?_⟩ | refine gW_split (fun h => ?_) (fun h => ?_) | refine gP_split (fun h => ?_) (fun h => ?_) | refine CallX.mk (CallW.pure (refDigit_sem _) (by simp only [CL, and_self]) (by simp only [CL]) ?_)) <;> (try simp (maxSteps := 1000000) only [↓yld_succ, ↓yld_zero, EV, EO, ED, ↓EW, ↓EI, EB, EP, EL, tyq_0, tz_0, tyq_3, inq_3, tz_3, tyq_4, bool_4, tz_4, tyq_5, inq_5, tz_5, tyq_9, str_9, tz_9, tyq_33, inq_33, tz_33, tyq_37, fq_37_0, fq_37_1, fq_37_2, fq_37_3, bq_37, feq_37, tz_37, Nat.reduceAdd, Nat.reduceSub, Nat.reduceMul, Nat.reduceLT, Nat.reduceLeDiff, Nat.reduceEqDiff, Int.reduceToNat, Int.reduceLE, Int.reduceLT, Int.reduceEq, Int.reduceNeg, reduceCtorEq, reduceIte, decide_true, decide_false, List.forall_mem_cons, List.not_mem_nil, false_implies, implies_true, Bool.and_true, Bool.true_and, and_self, Nat.sub_zero, Nat.zero_add, Nat.add_zero, h, Bool.not_true, Bool.not_false]))
              all_goals
                refine ⟨[0], ?_⟩
                refine ⟨by simp, ?_, by simp (maxSteps := 1000000) only [↓yld_succ, ↓yld_zero, EV, EO, ED, ↓EW, ↓EI, EB, EP, EL, tyq_0, tz_0, tyq_3, inq_3, tz_3, tyq_4, bool_4, tz_4, tyq_5, inq_5, tz_5, tyq_9, str_9, tz_9, tyq_33, inq_33, tz_33, tyq_37, fq_37_0, fq_37_1, fq_37_2, fq_37_3, bq_37, feq_37, tz_37, Nat.reduceAdd, Nat.reduceSub, Nat.reduceMul, Nat.reduceLT, Nat.reduceLeDiff, Nat.reduceEqDiff, Int.reduceToNat, Int.reduceLE, Int.reduceLT, Int.reduceEq, Int.reduceNeg, reduceCtorEq, reduceIte, decide_true, decide_false, List.forall_mem_cons, List.not_mem_nil, false_implies, implies_true, Bool.and_true, Bool.true_and, and_self, Nat.sub_zero, Nat.zero_add, Nat.add_zero, ER], by simp (maxSteps := 1000000) only [↓yld_succ, ↓yld_zero, EV, EO, ED, ↓EW, ↓EI, EB, EP, EL, tyq_0, tz_0, tyq_3, inq_3, tz_3, tyq_4, bool_4, tz_4, tyq_5, inq_5, tz_5, tyq_9, str_9, tz_9, tyq_33, inq_33, tz_33, tyq_37, fq_37_0, fq_37_1, fq_37_2, fq_37_3, bq_37, feq_37, tz_37, Nat.reduceAdd, Nat.reduceSub, Nat.reduceMul, Nat.reduceLT, Nat.reduceLeDiff, Nat.reduceEqDiff, Int.reduceToNat, Int.reduceLE, Int.reduceLT, Int.reduceEq, Int.reduceNeg, reduceCtorEq, reduceIte, decide_true, decide_false, List.forall_mem_cons, List.not_mem_nil, false_implies, implies_true, Bool.and_true, Bool.true_and, and_self, Nat.sub_zero, Nat.zero_add, Nat.add_zero, ER, pick], rfl⟩
                simp (maxSteps := 1000000) only [↓yld_succ, ↓yld_zero, EV, EO, ED, ↓EW, ↓EI, EB, EP, EL, tyq_0, tz_0, tyq_3, inq_3, tz_3, tyq_4, bool_4, tz_4, tyq_5, inq_5, tz_5, tyq_9, str_9, tz_9, tyq_33, inq_33, tz_33, tyq_37, fq_37_0, fq_37_1, fq_37_2, fq_37_3, bq_37, feq_37, tz_37, Nat.reduceAdd, Nat.reduceSub, Nat.reduceMul, Nat.reduceLT, Nat.reduceLeDiff, Nat.reduceEqDiff, Int.reduceToNat, Int.reduceLE, Int.reduceLT, Int.reduceEq, Int.reduceNeg, reduceCtorEq, reduceIte, decide_true, decide_false, List.forall_mem_cons, List.not_mem_nil, false_implies, implies_true, Bool.and_true, Bool.true_and, and_self, Nat.sub_zero, Nat.zero_add, Nat.add_zero, ER, and_self]
                clear hK1 hK5 hK6
                simp_all
                try (intro hh; omega)
            · refine WC.cond (c := .tmp 51) rfl (fun h => ?_) (fun h => ?_)
              · have hc : j < s.length ∧ digitI (gb s j) = true := by
                  clear hK1 hK5 hK6; simpa only [Bool.and_eq_true, decide_eq_true_eq] using h
                refine WC.skip ?_
                try simp only [EQ, reduceIte, Nat.reduceEqDiff]
                refine hK6 _ ?_; try clear hK6 K6
                refine WC.b1 ?_
                refine WC.r1 ?_
                simp (maxSteps := 1000000) (disch := omega) only [↓yld_succ, ↓yld_zero, EV, EO, ED, ↓EW, ↓EI, EB, EP, EL, tyq_0, tz_0, tyq_3, inq_3, tz_3, tyq_4, bool_4, tz_4, tyq_5, inq_5, tz_5, tyq_9, str_9, tz_9, tyq_33, inq_33, tz_33, tyq_37, fq_37_0, fq_37_1, fq_37_2, fq_37_3, bq_37, feq_37, tz_37, Nat.reduceAdd, Nat.reduceSub, Nat.reduceMul, Nat.reduceLT, Nat.reduceLeDiff, Nat.reduceEqDiff, Int.reduceToNat, Int.reduceLE, Int.reduceLT, Int.reduceEq, Int.reduceNeg, reduceCtorEq, reduceIte, decide_true, decide_false, List.forall_mem_cons, List.not_mem_nil, false_implies, implies_true, Bool.and_true, Bool.true_and, and_self, Nat.sub_zero, Nat.zero_add, Nat.add_zero, w64]
                try simp only [EQ, reduceIte, Nat.reduceEqDiff]
                refine ⟨j + 1, [0], ⟨by omega, ?_⟩, by omega, ?_⟩
                · rw [← g2, show s.length - j = (s.length - (j + 1)) + 1 by omega]
                  conv => rhs; unfold runTo
                  rw [if_pos hc]
                · refine ⟨by simp, by simp (maxSteps := 1000000) only [↓yld_succ, ↓yld_zero, EV, EO, ED, ↓EW, ↓EI, EB, EP, EL, tyq_0, tz_0, tyq_3, inq_3, tz_3, tyq_4, bool_4, tz_4, tyq_5, inq_5, tz_5, tyq_9, str_9, tz_9, tyq_33, inq_33, tz_33, tyq_37, fq_37_0, fq_37_1, fq_37_2, fq_37_3, bq_37, feq_37, tz_37, Nat.reduceAdd, Nat.reduceSub, Nat.reduceMul, Nat.reduceLT, Nat.reduceLeDiff, Nat.reduceEqDiff, Int.reduceToNat, Int.reduceLE, Int.reduceLT, Int.reduceEq, Int.reduceNeg, reduceCtorEq, reduceIte, decide_true, decide_false, List.forall_mem_cons, List.not_mem_nil, false_implies, implies_true, Bool.and_true, Bool.true_and, and_self, Nat.sub_zero, Nat.zero_add, Nat.add_zero, ER, and_self, Int.natCast_add], by simp (maxSteps := 1000000) only [↓yld_succ, ↓yld_zero, EV, EO, ED, ↓EW, ↓EI, EB, EP, EL, tyq_0, tz_0, tyq_3, inq_3, tz_3, tyq_4, bool_4, tz_4, tyq_5, inq_5, tz_5, tyq_9, str_9, tz_9, tyq_33, inq_33, tz_33, tyq_37, fq_37_0, fq_37_1, fq_37_2, fq_37_3, bq_37, feq_37, tz_37, Nat.reduceAdd, Nat.reduceSub, Nat.reduceMul, Nat.reduceLT, Nat.reduceLeDiff, Nat.reduceEqDiff, Int.reduceToNat, Int.reduceLE, Int.reduceLT, Int.reduceEq, Int.reduceNeg, reduceCtorEq, reduceIte, decide_true, decide_false, List.forall_mem_cons, List.not_mem_nil, false_implies, implies_true, Bool.and_true, Bool.true_and, and_self, Nat.sub_zero, Nat.zero_add, Nat.add_zero, ER, Int.natCast_add], by simp (maxSteps := 1000000) only [↓yld_succ, ↓yld_zero, EV, EO, ED, ↓EW, ↓EI, EB, EP, EL, tyq_0, tz_0, tyq_3, inq_3, tz_3, tyq_4, bool_4, tz_4, tyq_5, inq_5, tz_5, tyq_9, str_9, tz_9, tyq_33, inq_33, tz_33, tyq_37, fq_37_0, fq_37_1, fq_37_2, fq_37_3, bq_37, feq_37, tz_37, Nat.reduceAdd, Nat.reduceSub, Nat.reduceMul, Nat.reduceLT, Nat.reduceLeDiff, Nat.reduceEqDiff, Int.reduceToNat, Int.reduceLE, Int.reduceLT, Int.reduceEq, Int.reduceNeg, reduceCtorEq, reduceIte, decide_true, decide_false, List.forall_mem_cons, List.not_mem_nil, false_implies, implies_true, Bool.and_true, Bool.true_and, and_self, Nat.sub_zero, Nat.zero_add, Nat.add_zero, ER, pick, Int.natCast_add], rfl⟩
              · have hc : ¬ (j < s.length ∧ digitI (gb s j) = true) := fun hh => by
                  rw [show decide (j < s.length) = true from by simpa using hh.1, hh.2] at h; cases h
                have hd : runTo digitI s s.length 0 = j := by
                  rw [← g2]
                  cases hk : s.length - j with
                  | zero => rfl
                  | succ k => unfold runTo; rw [if_neg hc]
                have hnw : ¬ 0 < wordTo s s.length 0 := by omega
                refine WC.exit ?_
                simp only [EQ, reduceIte, Nat.reduceEqDiff]
                refine hK5 _ ?_
                clear hK6 K6
                refine WC.sK fun K7 hK7 => ?_
                refine WC.rs fun K hK => ?_
                simp (maxSteps := 1000000) only [↓yld_succ, ↓yld_zero, EV, EO, ED, ↓EW, ↓EI, EB, EP, EL, tyq_0, tz_0, tyq_3, inq_3, tz_3, tyq_4, bool_4, tz_4, tyq_5, inq_5, tz_5, tyq_9, str_9, tz_9, tyq_33, inq_33, tz_33, tyq_37, fq_37_0, fq_37_1, fq_37_2, fq_37_3, bq_37, feq_37, tz_37, Nat.reduceAdd, Nat.reduceSub, Nat.reduceMul, Nat.reduceLT, Nat.reduceLeDiff, Nat.reduceEqDiff, Int.reduceToNat, Int.reduceLE, Int.reduceLT, Int.reduceEq, Int.reduceNeg, reduceCtorEq, reduceIte, decide_true, decide_false, List.forall_mem_cons, List.not_mem_nil, false_implies, implies_true, Bool.and_true, Bool.true_and, and_self, Nat.sub_zero, Nat.zero_add, Nat.add_zero]
                refine hK _ ?_; try clear hK K
                refine WC.trim [0, 2, 3, 4, 5, 25, 29, 36, 39, 51, 55, 58, 66] ?_
                simp only [ET, Nat.reduceEqDiff, reduceIte]
                refine WC.cond (c := .tmp 55) rfl (fun h => ?_) (fun h => ?_)
                · have h60 : 60 < j := by simp at h; omega
                  refine WC.rs fun K hK => ?_
                  simp (maxSteps := 1000000) only [↓yld_succ, ↓yld_zero, EV, EO, ED, ↓EW, ↓EI, EB, EP, EL, tyq_0, tz_0, tyq_3, inq_3, tz_3, tyq_4, bool_4, tz_4, tyq_5, inq_5, tz_5, tyq_9, str_9, tz_9, tyq_33, inq_33, tz_33, tyq_37, fq_37_0, fq_37_1, fq_37_2, fq_37_3, bq_37, feq_37, tz_37, Nat.reduceAdd, Nat.reduceSub, Nat.reduceMul, Nat.reduceLT, Nat.reduceLeDiff, Nat.reduceEqDiff, Int.reduceToNat, Int.reduceLE, Int.reduceLT, Int.reduceEq, Int.reduceNeg, reduceCtorEq, reduceIte, decide_true, decide_false, List.forall_mem_cons, List.not_mem_nil, false_implies, implies_true, Bool.and_true, Bool.true_and, and_self, Nat.sub_zero, Nat.zero_add, Nat.add_zero]
                  refine hK _ ?_; try clear hK K
                  refine WC.trim [0, 2, 3, 4, 5, 25, 29, 36, 39, 51, 55, 58, 66] ?_
                  simp only [ET, Nat.reduceEqDiff, reduceIte]
                  refine WC.ret ?_
                  simp (maxSteps := 1000000) only [↓yld_succ, ↓yld_zero, EV, EO, ED, ↓EW, ↓EI, EB, EP, EL, tyq_0, tz_0, tyq_3, inq_3, tz_3, tyq_4, bool_4, tz_4, tyq_5, inq_5, tz_5, tyq_9, str_9, tz_9, tyq_33, inq_33, tz_33, tyq_37, fq_37_0, fq_37_1, fq_37_2, fq_37_3, bq_37, feq_37, tz_37, Nat.reduceAdd, Nat.reduceSub, Nat.reduceMul, Nat.reduceLT, Nat.reduceLeDiff, Nat.reduceEqDiff, Int.reduceToNat, Int.reduceLE, Int.reduceLT, Int.reduceEq, Int.reduceNeg, reduceCtorEq, reduceIte, decide_true, decide_false, List.forall_mem_cons, List.not_mem_nil, false_implies, implies_true, Bool.and_true, Bool.true_and, and_self, Nat.sub_zero, Nat.zero_add, Nat.add_zero, EQ, FnQ, Tryd.results25, wResL, tup, List.reverse_cons, List.reverse_nil, true_and]
                  refine endsSame (by simp only [CL, and_self]) closedBs_nil ⟨?_, rfl⟩
                  rw [nextF, if_neg hnw, hd, if_pos h60]; rfl
                · have h60 : ¬ 60 < j := by simp at h; omega
                  refine WC.skip ?_
                  try simp only [EQ, reduceIte, Nat.reduceEqDiff]
                  refine hK7 _ ?_; try clear hK7 K7
                  refine WC.sK fun K8 hK8 => ?_
                  refine WC.rs fun K hK => ?_
                  simp (maxSteps := 1000000) only [↓yld_succ, ↓yld_zero, EV, EO, ED, ↓EW, ↓EI, EB, EP, EL, tyq_0, tz_0, tyq_3, inq_3, tz_3, tyq_4, bool_4, tz_4, tyq_5, inq_5, tz_5, tyq_9, str_9, tz_9, tyq_33, inq_33, tz_33, tyq_37, fq_37_0, fq_37_1, fq_37_2, fq_37_3, bq_37, feq_37, tz_37, Nat.reduceAdd, Nat.reduceSub, Nat.reduceMul, Nat.reduceLT, Nat.reduceLeDiff, Nat.reduceEqDiff, Int.reduceToNat, Int.reduceLE, Int.reduceLT, Int.reduceEq, Int.reduceNeg, reduceCtorEq, reduceIte, decide_true, decide_false, List.forall_mem_cons, List.not_mem_nil, false_implies, implies_true, Bool.and_true, Bool.true_and, and_self, Nat.sub_zero, Nat.zero_add, Nat.add_zero]
                  refine hK _ ?_; try clear hK K
                  refine WC.trim [0, 2, 3, 4, 5, 25, 29, 36, 39, 51, 55, 58, 66] ?_
                  simp only [ET, Nat.reduceEqDiff, reduceIte]
                  refine WC.cond (c := .tmp 58) rfl (fun h => ?_) (fun h => ?_)
                  · have hpj : 0 < j := by simp at h; omega
                    refine WC.rs fun K hK => ?_
                    simp (maxSteps := 1000000) only [↓yld_succ, ↓yld_zero, EV, EO, ED, ↓EW, ↓EI, EB, EP, EL, tyq_0, tz_0, tyq_3, inq_3, tz_3, tyq_4, bool_4, tz_4, tyq_5, inq_5, tz_5, tyq_9, str_9, tz_9, tyq_33, inq_33, tz_33, tyq_37, fq_37_0, fq_37_1, fq_37_2, fq_37_3, bq_37, feq_37, tz_37, Nat.reduceAdd, Nat.reduceSub, Nat.reduceMul, Nat.reduceLT, Nat.reduceLeDiff, Nat.reduceEqDiff, Int.reduceToNat, Int.reduceLE, Int.reduceLT, Int.reduceEq, Int.reduceNeg, reduceCtorEq, reduceIte, decide_true, decide_false, List.forall_mem_cons, List.not_mem_nil, false_implies, implies_true, Bool.and_true, Bool.true_and, and_self, Nat.sub_zero, Nat.zero_add, Nat.add_zero]
                    repeat refine ⟨by omega, ?_⟩
                    refine hK _ ?_; try clear hK K
                    refine WC.trim [0, 2, 3, 4, 5, 25, 29, 36, 39, 51, 55, 58, 66] ?_
                    simp only [ET, Nat.reduceEqDiff, reduceIte]
                    refine WC.ret ?_
                    simp (maxSteps := 1000000) only [↓yld_succ, ↓yld_zero, EV, EO, ED, ↓EW, ↓EI, EB, EP, EL, tyq_0, tz_0, tyq_3, inq_3, tz_3, tyq_4, bool_4, tz_4, tyq_5, inq_5, tz_5, tyq_9, str_9, tz_9, tyq_33, inq_33, tz_33, tyq_37, fq_37_0, fq_37_1, fq_37_2, fq_37_3, bq_37, feq_37, tz_37, Nat.reduceAdd, Nat.reduceSub, Nat.reduceMul, Nat.reduceLT, Nat.reduceLeDiff, Nat.reduceEqDiff, Int.reduceToNat, Int.reduceLE, Int.reduceLT, Int.reduceEq, Int.reduceNeg, reduceCtorEq, reduceIte, decide_true, decide_false, List.forall_mem_cons, List.not_mem_nil, false_implies, implies_true, Bool.and_true, Bool.true_and, and_self, Nat.sub_zero, Nat.zero_add, Nat.add_zero, EQ, FnQ, Tryd.results25, wResL, tup, List.reverse_cons, List.reverse_nil, true_and]
                    refine endsSame (by simp only [CL, and_self]) closedBs_nil ⟨?_, rfl⟩
                    rw [nextF, if_neg hnw, hd, if_neg h60, if_pos hpj]; rfl
                  · have hpj : ¬ 0 < j := by simp at h; omega
                    refine WC.skip ?_
                    try simp only [EQ, reduceIte, Nat.reduceEqDiff]
                    refine hK8 _ ?_; try clear hK8 K8
                    refine WC.rs fun K hK => ?_
                    simp (maxSteps := 1000000) only [↓yld_succ, ↓yld_zero, EV, EO, ED, ↓EW, ↓EI, EB, EP, EL, tyq_0, tz_0, tyq_3, inq_3, tz_3, tyq_4, bool_4, tz_4, tyq_5, inq_5, tz_5, tyq_9, str_9, tz_9, tyq_33, inq_33, tz_33, tyq_37, fq_37_0, fq_37_1, fq_37_2, fq_37_3, bq_37, feq_37, tz_37, Nat.reduceAdd, Nat.reduceSub, Nat.reduceMul, Nat.reduceLT, Nat.reduceLeDiff, Nat.reduceEqDiff, Int.reduceToNat, Int.reduceLE, Int.reduceLT, Int.reduceEq, Int.reduceNeg, reduceCtorEq, reduceIte, decide_true, decide_false, List.forall_mem_cons, List.not_mem_nil, false_implies, implies_true, Bool.and_true, Bool.true_and, and_self, Nat.sub_zero, Nat.zero_add, Nat.add_zero]
                    refine CallX.mk (CallW.pure (sign_sem s hs h0) (by simp only [CL, and_self]) (by simp only [CL]) ?_)
                    simp (maxSteps := 1000000) only [↓yld_succ, ↓yld_zero, EV, EO, ED, ↓EW, ↓EI, EB, EP, EL, tyq_0, tz_0, tyq_3, inq_3, tz_3, tyq_4, bool_4, tz_4, tyq_5, inq_5, tz_5, tyq_9, str_9, tz_9, tyq_33, inq_33, tz_33, tyq_37, fq_37_0, fq_37_1, fq_37_2, fq_37_3, bq_37, feq_37, tz_37, Nat.reduceAdd, Nat.reduceSub, Nat.reduceMul, Nat.reduceLT, Nat.reduceLeDiff, Nat.reduceEqDiff, Int.reduceToNat, Int.reduceLE, Int.reduceLT, Int.reduceEq, Int.reduceNeg, reduceCtorEq, reduceIte, decide_true, decide_false, List.forall_mem_cons, List.not_mem_nil, false_implies, implies_true, Bool.and_true, Bool.true_and, and_self, Nat.sub_zero, Nat.zero_add, Nat.add_zero]
                    refine hK _ ?_; try clear hK K
                    refine WC.trim [0, 2, 3, 4, 5, 25, 29, 36, 39, 51, 55, 58, 66] ?_
                    simp only [ET, Nat.reduceEqDiff, reduceIte]
                    refine WC.sK fun K9 hK9 => ?_
                    refine WC.rs fun K hK => ?_
                    simp (maxSteps := 1000000) only [↓yld_succ, ↓yld_zero, EV, EO, ED, ↓EW, ↓EI, EB, EP, EL, tyq_0, tz_0, tyq_3, inq_3, tz_3, tyq_4, bool_4, tz_4, tyq_5, inq_5, tz_5, tyq_9, str_9, tz_9, tyq_33, inq_33, tz_33, tyq_37, fq_37_0, fq_37_1, fq_37_2, fq_37_3, bq_37, feq_37, tz_37, Nat.reduceAdd, Nat.reduceSub, Nat.reduceMul, Nat.reduceLT, Nat.reduceLeDiff, Nat.reduceEqDiff, Int.reduceToNat, Int.reduceLE, Int.reduceLT, Int.reduceEq, Int.reduceNeg, reduceCtorEq, reduceIte, decide_true, decide_false, List.forall_mem_cons, List.not_mem_nil, false_implies, implies_true, Bool.and_true, Bool.true_and, and_self, Nat.sub_zero, Nat.zero_add, Nat.add_zero]
                    refine hK _ ?_; try clear hK K
                    refine WC.trim [0, 2, 3, 4, 5, 25, 29, 36, 39, 51, 55, 58, 66] ?_
                    simp only [ET, Nat.reduceEqDiff, reduceIte]
                    refine WC.cond (c := .tmp 66) rfl (fun h => ?_) (fun h => ?_)
                    · have hg : signF s = 0 := by simp at h; omega
                      refine WC.rs fun K hK => ?_
                      simp (maxSteps := 1000000) only [↓yld_succ, ↓yld_zero, EV, EO, ED, ↓EW, ↓EI, EB, EP, EL, tyq_0, tz_0, tyq_3, inq_3, tz_3, tyq_4, bool_4, tz_4, tyq_5, inq_5, tz_5, tyq_9, str_9, tz_9, tyq_33, inq_33, tz_33, tyq_37, fq_37_0, fq_37_1, fq_37_2, fq_37_3, bq_37, feq_37, tz_37, Nat.reduceAdd, Nat.reduceSub, Nat.reduceMul, Nat.reduceLT, Nat.reduceLeDiff, Nat.reduceEqDiff, Int.reduceToNat, Int.reduceLE, Int.reduceLT, Int.reduceEq, Int.reduceNeg, reduceCtorEq, reduceIte, decide_true, decide_false, List.forall_mem_cons, List.not_mem_nil, false_implies, implies_true, Bool.and_true, Bool.true_and, and_self, Nat.sub_zero, Nat.zero_add, Nat.add_zero]
                      refine hK _ ?_; try clear hK K
                      refine WC.trim [0, 2, 3, 4, 5, 25, 29, 36, 39, 51, 55, 58, 66] ?_
                      simp only [ET, Nat.reduceEqDiff, reduceIte]
                      refine WC.ret ?_
                      simp (maxSteps := 1000000) only [↓yld_succ, ↓yld_zero, EV, EO, ED, ↓EW, ↓EI, EB, EP, EL, tyq_0, tz_0, tyq_3, inq_3, tz_3, tyq_4, bool_4, tz_4, tyq_5, inq_5, tz_5, tyq_9, str_9, tz_9, tyq_33, inq_33, tz_33, tyq_37, fq_37_0, fq_37_1, fq_37_2, fq_37_3, bq_37, feq_37, tz_37, Nat.reduceAdd, Nat.reduceSub, Nat.reduceMul, Nat.reduceLT, Nat.reduceLeDiff, Nat.reduceEqDiff, Int.reduceToNat, Int.reduceLE, Int.reduceLT, Int.reduceEq, Int.reduceNeg, reduceCtorEq, reduceIte, decide_true, decide_false, List.forall_mem_cons, List.not_mem_nil, false_implies, implies_true, Bool.and_true, Bool.true_and, and_self, Nat.sub_zero, Nat.zero_add, Nat.add_zero, EQ, FnQ, Tryd.results25, wResL, tup, List.reverse_cons, List.reverse_nil, true_and]
                      refine endsSame (by simp only [CL, and_self]) closedBs_nil ⟨?_, rfl⟩
                      rw [nextF, if_neg hnw, hd, if_neg h60, if_neg hpj, if_pos hg]; rfl
                    · have hg : ¬ signF s = 0 := by simp at h; omega
                      have hle := signF_le s h0
                      refine WC.skip ?_
                      try simp only [EQ, reduceIte, Nat.reduceEqDiff]
                      refine hK9 _ ?_; try clear hK9 K9
                      refine WC.rs fun K hK => ?_
                      simp (maxSteps := 1000000) only [↓yld_succ, ↓yld_zero, EV, EO, ED, ↓EW, ↓EI, EB, EP, EL, tyq_0, tz_0, tyq_3, inq_3, tz_3, tyq_4, bool_4, tz_4, tyq_5, inq_5, tz_5, tyq_9, str_9, tz_9, tyq_33, inq_33, tz_33, tyq_37, fq_37_0, fq_37_1, fq_37_2, fq_37_3, bq_37, feq_37, tz_37, Nat.reduceAdd, Nat.reduceSub, Nat.reduceMul, Nat.reduceLT, Nat.reduceLeDiff, Nat.reduceEqDiff, Int.reduceToNat, Int.reduceLE, Int.reduceLT, Int.reduceEq, Int.reduceNeg, reduceCtorEq, reduceIte, decide_true, decide_false, List.forall_mem_cons, List.not_mem_nil, false_implies, implies_true, Bool.and_true, Bool.true_and, and_self, Nat.sub_zero, Nat.zero_add, Nat.add_zero]
                      repeat refine ⟨by omega, ?_⟩
                      refine hK _ ?_; try clear hK K
                      refine WC.trim [0, 2, 3, 4, 5, 25, 29, 36, 39, 51, 55, 58, 66] ?_
                      simp only [ET, Nat.reduceEqDiff, reduceIte]
                      refine WC.ret ?_
                      simp (maxSteps := 1000000) only [↓yld_succ, ↓yld_zero, EV, EO, ED, ↓EW, ↓EI, EB, EP, EL, tyq_0, tz_0, tyq_3, inq_3, tz_3, tyq_4, bool_4, tz_4, tyq_5, inq_5, tz_5, tyq_9, str_9, tz_9, tyq_33, inq_33, tz_33, tyq_37, fq_37_0, fq_37_1, fq_37_2, fq_37_3, bq_37, feq_37, tz_37, Nat.reduceAdd, Nat.reduceSub, Nat.reduceMul, Nat.reduceLT, Nat.reduceLeDiff, Nat.reduceEqDiff, Int.reduceToNat, Int.reduceLE, Int.reduceLT, Int.reduceEq, Int.reduceNeg, reduceCtorEq, reduceIte, decide_true, decide_false, List.forall_mem_cons, List.not_mem_nil, false_implies, implies_true, Bool.and_true, Bool.true_and, and_self, Nat.sub_zero, Nat.zero_add, Nat.add_zero, EQ, FnQ, Tryd.results25, wResL, tup, List.reverse_cons, List.reverse_nil, true_and]
                      refine endsSame (by simp only [CL, and_self]) closedBs_nil ⟨?_, rfl⟩
                      rw [nextF, if_neg hnw, hd, if_neg h60, if_neg hpj, if_neg hg]; rfl
end Go.LexSem
