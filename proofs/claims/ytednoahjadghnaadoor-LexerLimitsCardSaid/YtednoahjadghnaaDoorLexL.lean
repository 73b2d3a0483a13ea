import Derived.Test.YtednoahjadghnaaDoorLexK
set_option linter.unusedSimpArgs false
set_option linter.unusedVariables false
set_option linter.loopingSimpArgs false
namespace Go.LexSem
open Go Go.V Go.Proofs

def moved (t : List UInt8) (l c : Nat) : Nat × Nat := (adv t t.length (0, l, c)).2
/-- The reference's reading of the text t that is left, at line l and column c, behind the tokens acc. -/
def refF (t : List UInt8) (l c : Nat) (acc : List Tok) : List Tok × (Nat × Nat) × Nat :=
  if t.drop (blanksF t 0) = [] then (acc ++ [(5, [], (moved (t.take (blanksF t 0)) l c).1, (moved (t.take (blanksF t 0)) l c).2)], (0, 0), 0)
  else if (nextF (t.drop (blanksF t 0))).2.2 = 0 then
    if h : 0 < (nextF (t.drop (blanksF t 0))).2.1.length ∧ (nextF (t.drop (blanksF t 0))).2.1.length ≤ (t.drop (blanksF t 0)).length then
      refF ((t.drop (blanksF t 0)).drop (nextF (t.drop (blanksF t 0))).2.1.length)
        (moved (nextF (t.drop (blanksF t 0))).2.1 (moved (t.take (blanksF t 0)) l c).1 (moved (t.take (blanksF t 0)) l c).2).1
        (moved (nextF (t.drop (blanksF t 0))).2.1 (moved (t.take (blanksF t 0)) l c).1 (moved (t.take (blanksF t 0)) l c).2).2
        (acc ++ [((nextF (t.drop (blanksF t 0))).1, (nextF (t.drop (blanksF t 0))).2.1, (moved (t.take (blanksF t 0)) l c).1, (moved (t.take (blanksF t 0)) l c).2)])
    else ([], (0, 0), 0)
  else ([], (moved (t.take (blanksF t 0)) l c), (nextF (t.drop (blanksF t 0))).2.2)
termination_by t.length
decreasing_by
  simp only [List.length_drop] at h ⊢
  omega
def refTokensF (s : List UInt8) : List Tok × (Nat × Nat) × Nat := if 8192 < s.length then ([], (1, 1), 9) else refF s 1 1 []

theorem blanksF_le (s : List UInt8) : ∀ k i, s.length - i = k → i ≤ s.length → blanksF s i ≤ s.length := by
  intro k
  induction k using Nat.strongRecOn with
  | _ k ih =>
    intro i hk hi
    unfold blanksF
    split
    · rename_i hlt
      split
      · exact ih _ (by omega) (i + 1) rfl (by omega)
      · split
        · have := runTo_le notNl s (s.length - i) i hi
          exact ih _ (by omega) _ rfl (by omega)
        · exact hi
    · exact hi
theorem moved_le (t : List UInt8) (l c : Nat) (hc : 1 ≤ c) : (moved t l c).1 ≤ l + t.length ∧ (moved t l c).2 ≤ c + t.length ∧ 1 ≤ (moved t l c).2 := by
  have key : ∀ k a l c, 1 ≤ c → (adv t k (a, l, c)).2.1 ≤ l + k ∧ (adv t k (a, l, c)).2.2 ≤ c + k ∧ 1 ≤ (adv t k (a, l, c)).2.2 := by
    intro k
    induction k with
    | zero => intro a l c hc; exact ⟨Nat.le_refl _, Nat.le_refl _, hc⟩
    | succ k ih =>
      intro a l c hc
      unfold adv
      split
      · have := ih (a + 1) (l + 1) 1 (Nat.le_refl _); omega
      · have := ih (a + 1) l (c + 1) (by omega); omega
  exact key _ _ _ _ hc
theorem move_sem' (s : List UInt8) (hs : s.length ≤ 8192) (l c : Nat) (hl : l ≤ 100000) (hc : c ≤ 100000) :
    FSem C 24 [pl l c, .str s] [] fun r st => r = .ret (pl (moved s l c).1 (moved s l c).2) ∧ st = [] := move_sem s hs l c hl hc
/-- What next hands back without an error: a byte at least, within the text. -/
theorem nextF_len (s : List UInt8) (h0 : 0 < s.length) (h : (nextF s).2.2 = 0) : 0 < (nextF s).2.1.length ∧ (nextF s).2.1.length ≤ s.length := by
  have hw := wordTo_le s s.length 0 (Nat.zero_le _)
  have hd := runTo_le digitI s s.length 0 (Nat.zero_le _)
  have hg := signF_le s h0
  unfold nextF at h ⊢
  split
  · rename_i hp
    rw [if_pos hp] at h
    split
    · simp only [List.length_take]; omega
    · rename_i hk
      rw [if_neg hk] at h
      split
      · rename_i h12; rw [if_pos h12] at h; cases h
      · simp only [List.length_take]; omega
  · rename_i hp
    rw [if_neg hp] at h
    split
    · rename_i h60; rw [if_pos h60] at h; cases h
    · rename_i h60
      rw [if_neg h60] at h
      split
      · simp only [List.length_take]; omega
      · rename_i hj
        rw [if_neg hj] at h
        split
        · rename_i hz; rw [if_pos hz] at h; cases h
        · simp only [List.length_take]; omega

theorem refTokens_sem (s : List UInt8) :
    FSem C 15 [.str s] [] fun r st => r = .ret (.tuple [tokv (refTokensF s).1, pl (refTokensF s).2.1.1 (refTokensF s).2.1.2, .int .i64 (refTokensF s).2.2]) ∧ st = [] := by
  refine FSem.enter' (C := C) (n := 64) Tryd.func15 rfl rfl ok_15 (by simp) ?_
  simp only [argEnv]
  refine WC.rs fun K hK => ?_
  simp (maxSteps := 1000000) only [↓yld_succ, ↓yld_zero, EV, EO, ED, ↓EW, ↓EI, EB, EP, EL, tyq_0, tz_0, tyq_3, inq_3, tz_3, tyq_4, bool_4, tz_4, tyq_9, str_9, tz_9, tyq_30, slq_30, tz_30, tyq_32, fq_32_0, fq_32_1, bq_32, feq_32, tz_32, tyq_33, inq_33, tz_33, tyq_37, fq_37_0, fq_37_1, fq_37_2, fq_37_3, bq_37, feq_37, tz_37, tyq_56, tz_56, Nat.reduceAdd, Nat.reduceSub, Nat.reduceMul, Nat.reduceLT, Nat.reduceLeDiff, Nat.reduceEqDiff, Int.reduceToNat, Int.reduceLE, Int.reduceLT, Int.reduceEq, Int.reduceNeg, reduceCtorEq, reduceIte, decide_true, decide_false, List.forall_mem_cons, List.not_mem_nil, false_implies, implies_true, Bool.and_true, Bool.true_and, and_self, Nat.sub_zero, Nat.zero_add, Nat.add_zero]
  refine hK _ ?_; try clear hK K
  refine WC.trim [0, 2, 3, 4, 5, 6, 7, 8, 9, 13, 26, 42] ?_
  simp only [ET, Nat.reduceEqDiff, reduceIte]
  refine WC.rs fun K hK => ?_
  simp (maxSteps := 1000000) only [↓yld_succ, ↓yld_zero, EV, EO, ED, ↓EW, ↓EI, EB, EP, EL, tyq_0, tz_0, tyq_3, inq_3, tz_3, tyq_4, bool_4, tz_4, tyq_9, str_9, tz_9, tyq_30, slq_30, tz_30, tyq_32, fq_32_0, fq_32_1, bq_32, feq_32, tz_32, tyq_33, inq_33, tz_33, tyq_37, fq_37_0, fq_37_1, fq_37_2, fq_37_3, bq_37, feq_37, tz_37, tyq_56, tz_56, Nat.reduceAdd, Nat.reduceSub, Nat.reduceMul, Nat.reduceLT, Nat.reduceLeDiff, Nat.reduceEqDiff, Int.reduceToNat, Int.reduceLE, Int.reduceLT, Int.reduceEq, Int.reduceNeg, reduceCtorEq, reduceIte, decide_true, decide_false, List.forall_mem_cons, List.not_mem_nil, false_implies, implies_true, Bool.and_true, Bool.true_and, and_self, Nat.sub_zero, Nat.zero_add, Nat.add_zero]
  refine hK _ ?_; try clear hK K
  refine WC.trim [0, 2, 3, 4, 5, 6, 7, 8, 9, 13, 26, 42] ?_
  simp only [ET, Nat.reduceEqDiff, reduceIte]
  refine WC.sK fun K1 hK1 => ?_
  refine WC.rs fun K hK => ?_
  simp (maxSteps := 1000000) only [↓yld_succ, ↓yld_zero, EV, EO, ED, ↓EW, ↓EI, EB, EP, EL, tyq_0, tz_0, tyq_3, inq_3, tz_3, tyq_4, bool_4, tz_4, tyq_9, str_9, tz_9, tyq_30, slq_30, tz_30, tyq_32, fq_32_0, fq_32_1, bq_32, feq_32, tz_32, tyq_33, inq_33, tz_33, tyq_37, fq_37_0, fq_37_1, fq_37_2, fq_37_3, bq_37, feq_37, tz_37, tyq_56, tz_56, Nat.reduceAdd, Nat.reduceSub, Nat.reduceMul, Nat.reduceLT, Nat.reduceLeDiff, Nat.reduceEqDiff, Int.reduceToNat, Int.reduceLE, Int.reduceLT, Int.reduceEq, Int.reduceNeg, reduceCtorEq, reduceIte, decide_true, decide_false, List.forall_mem_cons, List.not_mem_nil, false_implies, implies_true, Bool.and_true, Bool.true_and, and_self, Nat.sub_zero, Nat.zero_add, Nat.add_zero]
  refine hK _ ?_; try clear hK K
  refine WC.trim [0, 2, 3, 4, 5, 6, 7, 8, 9, 13, 26, 42] ?_
  simp only [ET, Nat.reduceEqDiff, reduceIte]
  refine WC.cond (c := .tmp 13) rfl (fun h => ?_) (fun h => ?_)
  · have h8 : 8192 < s.length := by simp at h; omega
    refine WC.ds [⟨0, 0, false, []⟩, ⟨1, 0, false, []⟩, ⟨2, 1, false, []⟩, ⟨3, 0, false, []⟩] [0, 0, 3, 7] mo (by kernel_rfl) (by simp only [EPl, List.getElem?_cons_zero, List.getElem?_cons_succ]; rfl) fun K hK => ?_
    simp (maxSteps := 1000000) only [↓yld_succ, ↓yld_zero, EV, EO, ED, ↓EW, ↓EI, EB, EP, EL, tyq_0, tz_0, tyq_3, inq_3, tz_3, tyq_4, bool_4, tz_4, tyq_9, str_9, tz_9, tyq_30, slq_30, tz_30, tyq_32, fq_32_0, fq_32_1, bq_32, feq_32, tz_32, tyq_33, inq_33, tz_33, tyq_37, fq_37_0, fq_37_1, fq_37_2, fq_37_3, bq_37, feq_37, tz_37, tyq_56, tz_56, Nat.reduceAdd, Nat.reduceSub, Nat.reduceMul, Nat.reduceLT, Nat.reduceLeDiff, Nat.reduceEqDiff, Int.reduceToNat, Int.reduceLE, Int.reduceLT, Int.reduceEq, Int.reduceNeg, reduceCtorEq, reduceIte, decide_true, decide_false, List.forall_mem_cons, List.not_mem_nil, false_implies, implies_true, Bool.and_true, Bool.true_and, and_self, Nat.sub_zero, Nat.zero_add, Nat.add_zero]
    refine hK _ ?_; try clear hK K
    refine WC.trim [0, 2, 3, 4, 5, 6, 7, 8, 9, 13, 26, 42] ?_
    simp only [ET, Nat.reduceEqDiff, reduceIte]
    refine WC.ret ?_
    simp (maxSteps := 1000000) only [↓yld_succ, ↓yld_zero, EV, EO, ED, ↓EW, ↓EI, EB, EP, EL, tyq_0, tz_0, tyq_3, inq_3, tz_3, tyq_4, bool_4, tz_4, tyq_9, str_9, tz_9, tyq_30, slq_30, tz_30, tyq_32, fq_32_0, fq_32_1, bq_32, feq_32, tz_32, tyq_33, inq_33, tz_33, tyq_37, fq_37_0, fq_37_1, fq_37_2, fq_37_3, bq_37, feq_37, tz_37, tyq_56, tz_56, Nat.reduceAdd, Nat.reduceSub, Nat.reduceMul, Nat.reduceLT, Nat.reduceLeDiff, Nat.reduceEqDiff, Int.reduceToNat, Int.reduceLE, Int.reduceLT, Int.reduceEq, Int.reduceNeg, reduceCtorEq, reduceIte, decide_true, decide_false, List.forall_mem_cons, List.not_mem_nil, false_implies, implies_true, Bool.and_true, Bool.true_and, and_self, Nat.sub_zero, Nat.zero_add, Nat.add_zero, EQ, FnQ, Tryd.results15, wResL, tup, List.reverse_cons, List.reverse_nil, true_and]
    refine endsSame (by simp only [CL, and_self]) closedBs_nil ⟨?_, rfl⟩
    rw [refTokensF, if_pos h8]; rfl
  · have h8 : ¬ 8192 < s.length := by simp at h; omega
    have hs : s.length ≤ 8192 := by omega
    refine WC.skip ?_
    try simp only [EQ, reduceIte, Nat.reduceEqDiff]
    refine hK1 _ ?_; try clear hK1 K1
    refine WC.rs fun K hK => ?_
    simp (maxSteps := 1000000) only [↓yld_succ, ↓yld_zero, EV, EO, ED, ↓EW, ↓EI, EB, EP, EL, tyq_0, tz_0, tyq_3, inq_3, tz_3, tyq_4, bool_4, tz_4, tyq_9, str_9, tz_9, tyq_30, slq_30, tz_30, tyq_32, fq_32_0, fq_32_1, bq_32, feq_32, tz_32, tyq_33, inq_33, tz_33, tyq_37, fq_37_0, fq_37_1, fq_37_2, fq_37_3, bq_37, feq_37, tz_37, tyq_56, tz_56, Nat.reduceAdd, Nat.reduceSub, Nat.reduceMul, Nat.reduceLT, Nat.reduceLeDiff, Nat.reduceEqDiff, Int.reduceToNat, Int.reduceLE, Int.reduceLT, Int.reduceEq, Int.reduceNeg, reduceCtorEq, reduceIte, decide_true, decide_false, List.forall_mem_cons, List.not_mem_nil, false_implies, implies_true, Bool.and_true, Bool.true_and, and_self, Nat.sub_zero, Nat.zero_add, Nat.add_zero]
    refine hK _ ?_; try clear hK K
    refine WC.trim [0, 2, 3, 4, 5, 6, 7, 8, 9, 13, 26, 42] ?_
    simp only [ET, Nat.reduceEqDiff, reduceIte]
    refine WC.thaw 6 4 37 rfl ?_
    refine WC.b1 ?_
    refine WC.loop (X := List UInt8 × Nat × Nat × List Tok) (fun x => ⟨[(6, .ref (.l 2) 0 x.2.2.2.length), (5, .ptr (.l 1) 0 0), (4, .int .i64 0), (3, .ptr (.l 0) 0 0), (2, .nils), (0, .str x.1)], [],
        [.row [.agg [.int .i64 0, .int .i64 0]] 2 32, .row [.agg [.int .i64 (x.2.1 : Nat), .int .i64 (x.2.2.1 : Nat)]] 2 32, .row (x.2.2.2.map tkv) 4 37], []⟩)
      (fun x => x.1.length ≤ 8192 ∧ x.2.1 + x.1.length ≤ 8193 ∧ 1 ≤ x.2.2.1 ∧ x.2.2.1 + x.1.length ≤ 8193 ∧ x.2.2.2.length + x.1.length ≤ 8192 ∧ refF x.1 x.2.1 x.2.2.1 x.2.2.2 = refF s 1 1 []) (fun x => x.1.length) (s, 1, 1, []) [0, 1, 2]
      ⟨hs, by dsimp only; omega, Nat.le_refl _, by dsimp only; omega, by dsimp only; simp only [List.length_nil]; omega, rfl⟩ ?_ ?_
    · refine ⟨by simp, by simp (maxSteps := 1000000) only [↓yld_succ, ↓yld_zero, EV, EO, ED, ↓EW, ↓EI, EB, EP, EL, tyq_0, tz_0, tyq_3, inq_3, tz_3, tyq_4, bool_4, tz_4, tyq_9, str_9, tz_9, tyq_30, slq_30, tz_30, tyq_32, fq_32_0, fq_32_1, bq_32, feq_32, tz_32, tyq_33, inq_33, tz_33, tyq_37, fq_37_0, fq_37_1, fq_37_2, fq_37_3, bq_37, feq_37, tz_37, tyq_56, tz_56, Nat.reduceAdd, Nat.reduceSub, Nat.reduceMul, Nat.reduceLT, Nat.reduceLeDiff, Nat.reduceEqDiff, Int.reduceToNat, Int.reduceLE, Int.reduceLT, Int.reduceEq, Int.reduceNeg, reduceCtorEq, reduceIte, decide_true, decide_false, List.forall_mem_cons, List.not_mem_nil, false_implies, implies_true, Bool.and_true, Bool.true_and, and_self, Nat.sub_zero, Nat.zero_add, Nat.add_zero, ER, and_self], by simp (maxSteps := 1000000) only [↓yld_succ, ↓yld_zero, EV, EO, ED, ↓EW, ↓EI, EB, EP, EL, tyq_0, tz_0, tyq_3, inq_3, tz_3, tyq_4, bool_4, tz_4, tyq_9, str_9, tz_9, tyq_30, slq_30, tz_30, tyq_32, fq_32_0, fq_32_1, bq_32, feq_32, tz_32, tyq_33, inq_33, tz_33, tyq_37, fq_37_0, fq_37_1, fq_37_2, fq_37_3, bq_37, feq_37, tz_37, tyq_56, tz_56, Nat.reduceAdd, Nat.reduceSub, Nat.reduceMul, Nat.reduceLT, Nat.reduceLeDiff, Nat.reduceEqDiff, Int.reduceToNat, Int.reduceLE, Int.reduceLT, Int.reduceEq, Int.reduceNeg, reduceCtorEq, reduceIte, decide_true, decide_false, List.forall_mem_cons, List.not_mem_nil, false_implies, implies_true, Bool.and_true, Bool.true_and, and_self, Nat.sub_zero, Nat.zero_add, Nat.add_zero, ER], by simp (maxSteps := 1000000) only [↓yld_succ, ↓yld_zero, EV, EO, ED, ↓EW, ↓EI, EB, EP, EL, tyq_0, tz_0, tyq_3, inq_3, tz_3, tyq_4, bool_4, tz_4, tyq_9, str_9, tz_9, tyq_30, slq_30, tz_30, tyq_32, fq_32_0, fq_32_1, bq_32, feq_32, tz_32, tyq_33, inq_33, tz_33, tyq_37, fq_37_0, fq_37_1, fq_37_2, fq_37_3, bq_37, feq_37, tz_37, tyq_56, tz_56, Nat.reduceAdd, Nat.reduceSub, Nat.reduceMul, Nat.reduceLT, Nat.reduceLeDiff, Nat.reduceEqDiff, Int.reduceToNat, Int.reduceLE, Int.reduceLT, Int.reduceEq, Int.reduceNeg, reduceCtorEq, reduceIte, decide_true, decide_false, List.forall_mem_cons, List.not_mem_nil, false_implies, implies_true, Bool.and_true, Bool.true_and, and_self, Nat.sub_zero, Nat.zero_add, Nat.add_zero, ER, pick], rfl⟩
    · rintro ⟨t, l, c, acc⟩ ⟨h1, h2, hc1, h3, h4, h5⟩
      dsimp only at h1 h2 hc1 h3 h4 h5 ⊢
      have hbl := blanksF_le t _ 0 rfl (Nat.zero_le _)
      refine WC.b1 ?_
      refine WC.rs fun K hK => ?_
      simp (maxSteps := 1000000) only [↓yld_succ, ↓yld_zero, EV, EO, ED, ↓EW, ↓EI, EB, EP, EL, tyq_0, tz_0, tyq_3, inq_3, tz_3, tyq_4, bool_4, tz_4, tyq_9, str_9, tz_9, tyq_30, slq_30, tz_30, tyq_32, fq_32_0, fq_32_1, bq_32, feq_32, tz_32, tyq_33, inq_33, tz_33, tyq_37, fq_37_0, fq_37_1, fq_37_2, fq_37_3, bq_37, feq_37, tz_37, tyq_56, tz_56, Nat.reduceAdd, Nat.reduceSub, Nat.reduceMul, Nat.reduceLT, Nat.reduceLeDiff, Nat.reduceEqDiff, Int.reduceToNat, Int.reduceLE, Int.reduceLT, Int.reduceEq, Int.reduceNeg, reduceCtorEq, reduceIte, decide_true, decide_false, List.forall_mem_cons, List.not_mem_nil, false_implies, implies_true, Bool.and_true, Bool.true_and, and_self, Nat.sub_zero, Nat.zero_add, Nat.add_zero]
      refine CallX.mk (CallW.pure (blanks_sem t h1) (by simp only [CL, and_self]) (by simp only [CL]) ?_)
      simp (maxSteps := 1000000) only [↓yld_succ, ↓yld_zero, EV, EO, ED, ↓EW, ↓EI, EB, EP, EL, tyq_0, tz_0, tyq_3, inq_3, tz_3, tyq_4, bool_4, tz_4, tyq_9, str_9, tz_9, tyq_30, slq_30, tz_30, tyq_32, fq_32_0, fq_32_1, bq_32, feq_32, tz_32, tyq_33, inq_33, tz_33, tyq_37, fq_37_0, fq_37_1, fq_37_2, fq_37_3, bq_37, feq_37, tz_37, tyq_56, tz_56, Nat.reduceAdd, Nat.reduceSub, Nat.reduceMul, Nat.reduceLT, Nat.reduceLeDiff, Nat.reduceEqDiff, Int.reduceToNat, Int.reduceLE, Int.reduceLT, Int.reduceEq, Int.reduceNeg, reduceCtorEq, reduceIte, decide_true, decide_false, List.forall_mem_cons, List.not_mem_nil, false_implies, implies_true, Bool.and_true, Bool.true_and, and_self, Nat.sub_zero, Nat.zero_add, Nat.add_zero]
      refine hK _ ?_; try clear hK K
      refine WC.trim [0, 2, 3, 4, 5, 6, 7, 8, 9, 13, 26, 42] ?_
      simp only [ET, Nat.reduceEqDiff, reduceIte]
      have hrf := h5
      conv at hrf => lhs; unfold refF
      generalize hn : blanksF t 0 = n at hrf hbl ⊢
      have htl : (t.take n).length = n := by rw [List.length_take]; omega
      have hdl : (t.drop n).length = t.length - n := List.length_drop
      have hdn : t.length - (t.length - n) = n := by omega
      have hm := moved_le (t.take n) l c hc1
      rw [htl] at hm
      refine WC.ds [⟨0, 0, false, []⟩, ⟨1, 0, false, []⟩, ⟨2, 0, false, []⟩, ⟨3, 0, false, []⟩, ⟨4, 1, false, []⟩, ⟨5, 1, false, []⟩] [0, 0, 0, 6, 15, 31] mo (by kernel_rfl) (by simp only [EPl, List.getElem?_cons_zero, List.getElem?_cons_succ]; rfl) fun K hK => ?_
      simp (maxSteps := 1000000) only [↓yld_succ, ↓yld_zero, EV, EO, ED, ↓EW, ↓EI, EB, EP, EL, tyq_0, tz_0, tyq_3, inq_3, tz_3, tyq_4, bool_4, tz_4, tyq_9, str_9, tz_9, tyq_30, slq_30, tz_30, tyq_32, fq_32_0, fq_32_1, bq_32, feq_32, tz_32, tyq_33, inq_33, tz_33, tyq_37, fq_37_0, fq_37_1, fq_37_2, fq_37_3, bq_37, feq_37, tz_37, tyq_56, tz_56, Nat.reduceAdd, Nat.reduceSub, Nat.reduceMul, Nat.reduceLT, Nat.reduceLeDiff, Nat.reduceEqDiff, Int.reduceToNat, Int.reduceLE, Int.reduceLT, Int.reduceEq, Int.reduceNeg, reduceCtorEq, reduceIte, decide_true, decide_false, List.forall_mem_cons, List.not_mem_nil, false_implies, implies_true, Bool.and_true, Bool.true_and, and_self, Nat.sub_zero, Nat.zero_add, Nat.add_zero]
      repeat refine ⟨by omega, ?_⟩
      refine CallX.mk (CallW.pure (move_sem' (t.take n) (by omega) l c (by omega) (by omega)) (by simp only [pl, CL, and_self]) (by simp only [pl, CL, and_self]) ?_)
      simp (maxSteps := 1000000) only [↓yld_succ, ↓yld_zero, EV, EO, ED, ↓EW, ↓EI, EB, EP, EL, tyq_0, tz_0, tyq_3, inq_3, tz_3, tyq_4, bool_4, tz_4, tyq_9, str_9, tz_9, tyq_30, slq_30, tz_30, tyq_32, fq_32_0, fq_32_1, bq_32, feq_32, tz_32, tyq_33, inq_33, tz_33, tyq_37, fq_37_0, fq_37_1, fq_37_2, fq_37_3, bq_37, feq_37, tz_37, tyq_56, tz_56, Nat.reduceAdd, Nat.reduceSub, Nat.reduceMul, Nat.reduceLT, Nat.reduceLeDiff, Nat.reduceEqDiff, Int.reduceToNat, Int.reduceLE, Int.reduceLT, Int.reduceEq, Int.reduceNeg, reduceCtorEq, reduceIte, decide_true, decide_false, List.forall_mem_cons, List.not_mem_nil, false_implies, implies_true, Bool.and_true, Bool.true_and, and_self, Nat.sub_zero, Nat.zero_add, Nat.add_zero, pl]
      refine hK _ ?_; try clear hK K
      refine WC.trim [0, 2, 3, 4, 5, 6, 7, 8, 9, 13, 26, 42] ?_
      simp only [ET, Nat.reduceEqDiff, reduceIte]
      generalize moved (t.take n) l c = p at hrf hm ⊢
      obtain ⟨l1, c1⟩ := p
      dsimp only at hm hrf
      refine WC.rs fun K hK => ?_
      simp (maxSteps := 1000000) only [↓yld_succ, ↓yld_zero, EV, EO, ED, ↓EW, ↓EI, EB, EP, EL, tyq_0, tz_0, tyq_3, inq_3, tz_3, tyq_4, bool_4, tz_4, tyq_9, str_9, tz_9, tyq_30, slq_30, tz_30, tyq_32, fq_32_0, fq_32_1, bq_32, feq_32, tz_32, tyq_33, inq_33, tz_33, tyq_37, fq_37_0, fq_37_1, fq_37_2, fq_37_3, bq_37, feq_37, tz_37, tyq_56, tz_56, Nat.reduceAdd, Nat.reduceSub, Nat.reduceMul, Nat.reduceLT, Nat.reduceLeDiff, Nat.reduceEqDiff, Int.reduceToNat, Int.reduceLE, Int.reduceLT, Int.reduceEq, Int.reduceNeg, reduceCtorEq, reduceIte, decide_true, decide_false, List.forall_mem_cons, List.not_mem_nil, false_implies, implies_true, Bool.and_true, Bool.true_and, and_self, Nat.sub_zero, Nat.zero_add, Nat.add_zero]
      repeat refine ⟨by omega, ?_⟩
      refine hK _ ?_; try clear hK K
      refine WC.trim [0, 2, 3, 4, 5, 6, 7, 8, 9, 13, 26, 42] ?_
      simp only [ET, Nat.reduceEqDiff, reduceIte]
      have htk : (t.drop n).take (t.length - n) = t.drop n := List.take_of_length_le (by omega)
      rw [htk]
      generalize t.drop n = u at hrf hdl ⊢
      refine WC.sK fun K2 hK2 => ?_
      refine WC.rs fun K hK => ?_
      simp (maxSteps := 1000000) only [↓yld_succ, ↓yld_zero, EV, EO, ED, ↓EW, ↓EI, EB, EP, EL, tyq_0, tz_0, tyq_3, inq_3, tz_3, tyq_4, bool_4, tz_4, tyq_9, str_9, tz_9, tyq_30, slq_30, tz_30, tyq_32, fq_32_0, fq_32_1, bq_32, feq_32, tz_32, tyq_33, inq_33, tz_33, tyq_37, fq_37_0, fq_37_1, fq_37_2, fq_37_3, bq_37, feq_37, tz_37, tyq_56, tz_56, Nat.reduceAdd, Nat.reduceSub, Nat.reduceMul, Nat.reduceLT, Nat.reduceLeDiff, Nat.reduceEqDiff, Int.reduceToNat, Int.reduceLE, Int.reduceLT, Int.reduceEq, Int.reduceNeg, reduceCtorEq, reduceIte, decide_true, decide_false, List.forall_mem_cons, List.not_mem_nil, false_implies, implies_true, Bool.and_true, Bool.true_and, and_self, Nat.sub_zero, Nat.zero_add, Nat.add_zero]
      refine hK _ ?_; try clear hK K
      refine WC.trim [0, 2, 3, 4, 5, 6, 7, 8, 9, 13, 26, 42] ?_
      simp only [ET, Nat.reduceEqDiff, reduceIte]
      refine WC.cond (c := .tmp 26) rfl (fun h => ?_) (fun h => ?_)
      · have hu : u = [] := by simpa using h
        rw [if_pos hu] at hrf
        refine WC.rs fun K hK => ?_
        simp (maxSteps := 1000000) only [↓yld_succ, ↓yld_zero, EV, EO, ED, ↓EW, ↓EI, EB, EP, EL, tyq_0, tz_0, tyq_3, inq_3, tz_3, tyq_4, bool_4, tz_4, tyq_9, str_9, tz_9, tyq_30, slq_30, tz_30, tyq_32, fq_32_0, fq_32_1, bq_32, feq_32, tz_32, tyq_33, inq_33, tz_33, tyq_37, fq_37_0, fq_37_1, fq_37_2, fq_37_3, bq_37, feq_37, tz_37, tyq_56, tz_56, Nat.reduceAdd, Nat.reduceSub, Nat.reduceMul, Nat.reduceLT, Nat.reduceLeDiff, Nat.reduceEqDiff, Int.reduceToNat, Int.reduceLE, Int.reduceLT, Int.reduceEq, Int.reduceNeg, reduceCtorEq, reduceIte, decide_true, decide_false, List.forall_mem_cons, List.not_mem_nil, false_implies, implies_true, Bool.and_true, Bool.true_and, and_self, Nat.sub_zero, Nat.zero_add, Nat.add_zero, List.length_map]
        repeat refine ⟨by omega, ?_⟩
        refine hK _ ?_; try clear hK K
        refine WC.trim [0, 2, 3, 4, 5, 6, 7, 8, 9, 13, 26, 42] ?_
        simp only [ET, Nat.reduceEqDiff, reduceIte]
        refine WC.frz 2 4 rfl rfl (by simp) ?_
        refine WC.ret ?_
        simp (maxSteps := 1000000) only [↓yld_succ, ↓yld_zero, EV, EO, ED, ↓EW, ↓EI, EB, EP, EL, tyq_0, tz_0, tyq_3, inq_3, tz_3, tyq_4, bool_4, tz_4, tyq_9, str_9, tz_9, tyq_30, slq_30, tz_30, tyq_32, fq_32_0, fq_32_1, bq_32, feq_32, tz_32, tyq_33, inq_33, tz_33, tyq_37, fq_37_0, fq_37_1, fq_37_2, fq_37_3, bq_37, feq_37, tz_37, tyq_56, tz_56, Nat.reduceAdd, Nat.reduceSub, Nat.reduceMul, Nat.reduceLT, Nat.reduceLeDiff, Nat.reduceEqDiff, Int.reduceToNat, Int.reduceLE, Int.reduceLT, Int.reduceEq, Int.reduceNeg, reduceCtorEq, reduceIte, decide_true, decide_false, List.forall_mem_cons, List.not_mem_nil, false_implies, implies_true, Bool.and_true, Bool.true_and, and_self, Nat.sub_zero, Nat.zero_add, Nat.add_zero, EQ, FnQ, Tryd.results15, wResL, tup, List.reverse_cons, List.reverse_nil, true_and]
        rw [List.take_of_length_le (by simp)]
        have ht : acc.map tkv ++ [.agg [.int .i64 5, .str [], .int .i64 l1, .int .i64 c1]] = (acc ++ [(5, [], l1, c1)]).map tkv := by rw [List.map_append]; rfl
        have hr : refTokensF s = (acc ++ [(5, [], l1, c1)], (0, 0), 0) := by rw [refTokensF, if_neg h8, ← hrf]
        rw [hr, tokv_append, ht]
        exact endsSame (by simp only [CL, and_self, tkv_closed]) closedBs_nil ⟨rfl, rfl⟩
      · have hu : ¬ u = [] := by simpa using h
        have hup : 0 < u.length := List.length_pos_iff.2 hu
        rw [if_neg hu] at hrf
        refine WC.skip ?_
        try simp only [EQ, reduceIte, Nat.reduceEqDiff]
        refine hK2 _ ?_; try clear hK2 K2
        refine WC.rs fun K hK => ?_
        simp (maxSteps := 1000000) only [↓yld_succ, ↓yld_zero, EV, EO, ED, ↓EW, ↓EI, EB, EP, EL, tyq_0, tz_0, tyq_3, inq_3, tz_3, tyq_4, bool_4, tz_4, tyq_9, str_9, tz_9, tyq_30, slq_30, tz_30, tyq_32, fq_32_0, fq_32_1, bq_32, feq_32, tz_32, tyq_33, inq_33, tz_33, tyq_37, fq_37_0, fq_37_1, fq_37_2, fq_37_3, bq_37, feq_37, tz_37, tyq_56, tz_56, Nat.reduceAdd, Nat.reduceSub, Nat.reduceMul, Nat.reduceLT, Nat.reduceLeDiff, Nat.reduceEqDiff, Int.reduceToNat, Int.reduceLE, Int.reduceLT, Int.reduceEq, Int.reduceNeg, reduceCtorEq, reduceIte, decide_true, decide_false, List.forall_mem_cons, List.not_mem_nil, false_implies, implies_true, Bool.and_true, Bool.true_and, and_self, Nat.sub_zero, Nat.zero_add, Nat.add_zero]
        refine CallX.mk (CallW.pure (next_sem u (by omega) hup) (by simp only [CL, and_self]) (by simp only [tk, CL, and_self]) ?_)
        simp (maxSteps := 1000000) only [↓yld_succ, ↓yld_zero, EV, EO, ED, ↓EW, ↓EI, EB, EP, EL, tyq_0, tz_0, tyq_3, inq_3, tz_3, tyq_4, bool_4, tz_4, tyq_9, str_9, tz_9, tyq_30, slq_30, tz_30, tyq_32, fq_32_0, fq_32_1, bq_32, feq_32, tz_32, tyq_33, inq_33, tz_33, tyq_37, fq_37_0, fq_37_1, fq_37_2, fq_37_3, bq_37, feq_37, tz_37, tyq_56, tz_56, Nat.reduceAdd, Nat.reduceSub, Nat.reduceMul, Nat.reduceLT, Nat.reduceLeDiff, Nat.reduceEqDiff, Int.reduceToNat, Int.reduceLE, Int.reduceLT, Int.reduceEq, Int.reduceNeg, reduceCtorEq, reduceIte, decide_true, decide_false, List.forall_mem_cons, List.not_mem_nil, false_implies, implies_true, Bool.and_true, Bool.true_and, and_self, Nat.sub_zero, Nat.zero_add, Nat.add_zero, tk]
        refine hK _ ?_; try clear hK K
        refine WC.trim [0, 2, 3, 4, 5, 6, 7, 8, 9, 13, 26, 42] ?_
        simp only [ET, Nat.reduceEqDiff, reduceIte]
        have hnl := nextF_len u hup
        generalize nextF u = r at hrf hnl ⊢
        obtain ⟨k, x, e⟩ := r
        dsimp only at hrf hnl
        refine WC.sK fun K3 hK3 => ?_
        refine WC.rs fun K hK => ?_
        simp (maxSteps := 1000000) only [↓yld_succ, ↓yld_zero, EV, EO, ED, ↓EW, ↓EI, EB, EP, EL, tyq_0, tz_0, tyq_3, inq_3, tz_3, tyq_4, bool_4, tz_4, tyq_9, str_9, tz_9, tyq_30, slq_30, tz_30, tyq_32, fq_32_0, fq_32_1, bq_32, feq_32, tz_32, tyq_33, inq_33, tz_33, tyq_37, fq_37_0, fq_37_1, fq_37_2, fq_37_3, bq_37, feq_37, tz_37, tyq_56, tz_56, Nat.reduceAdd, Nat.reduceSub, Nat.reduceMul, Nat.reduceLT, Nat.reduceLeDiff, Nat.reduceEqDiff, Int.reduceToNat, Int.reduceLE, Int.reduceLT, Int.reduceEq, Int.reduceNeg, reduceCtorEq, reduceIte, decide_true, decide_false, List.forall_mem_cons, List.not_mem_nil, false_implies, implies_true, Bool.and_true, Bool.true_and, and_self, Nat.sub_zero, Nat.zero_add, Nat.add_zero]
        refine hK _ ?_; try clear hK K
        refine WC.trim [0, 2, 3, 4, 5, 6, 7, 8, 9, 13, 26, 42] ?_
        simp only [ET, Nat.reduceEqDiff, reduceIte]
        refine WC.cond (c := .tmp 42) rfl (fun h => ?_) (fun h => ?_)
        · have he : ¬ e = 0 := by simp at h; omega
          rw [if_neg he] at hrf
          refine WC.ds [⟨0, 0, false, []⟩, ⟨1, 0, true, []⟩, ⟨2, 0, false, []⟩, ⟨3, 1, false, [1]⟩, ⟨4, 0, false, []⟩] [0, 0, 0, 5, 15] mo (by kernel_rfl) (by simp only [EPl, List.getElem?_cons_zero, List.getElem?_cons_succ]; rfl) fun K hK => ?_
          simp (maxSteps := 1000000) only [↓yld_succ, ↓yld_zero, EV, EO, ED, ↓EW, ↓EI, EB, EP, EL, tyq_0, tz_0, tyq_3, inq_3, tz_3, tyq_4, bool_4, tz_4, tyq_9, str_9, tz_9, tyq_30, slq_30, tz_30, tyq_32, fq_32_0, fq_32_1, bq_32, feq_32, tz_32, tyq_33, inq_33, tz_33, tyq_37, fq_37_0, fq_37_1, fq_37_2, fq_37_3, bq_37, feq_37, tz_37, tyq_56, tz_56, Nat.reduceAdd, Nat.reduceSub, Nat.reduceMul, Nat.reduceLT, Nat.reduceLeDiff, Nat.reduceEqDiff, Int.reduceToNat, Int.reduceLE, Int.reduceLT, Int.reduceEq, Int.reduceNeg, reduceCtorEq, reduceIte, decide_true, decide_false, List.forall_mem_cons, List.not_mem_nil, false_implies, implies_true, Bool.and_true, Bool.true_and, and_self, Nat.sub_zero, Nat.zero_add, Nat.add_zero]
          refine hK _ ?_; try clear hK K
          refine WC.trim [0, 2, 3, 4, 5, 6, 7, 8, 9, 13, 26, 42] ?_
          simp only [ET, Nat.reduceEqDiff, reduceIte]
          refine WC.ret ?_
          simp (maxSteps := 1000000) only [↓yld_succ, ↓yld_zero, EV, EO, ED, ↓EW, ↓EI, EB, EP, EL, tyq_0, tz_0, tyq_3, inq_3, tz_3, tyq_4, bool_4, tz_4, tyq_9, str_9, tz_9, tyq_30, slq_30, tz_30, tyq_32, fq_32_0, fq_32_1, bq_32, feq_32, tz_32, tyq_33, inq_33, tz_33, tyq_37, fq_37_0, fq_37_1, fq_37_2, fq_37_3, bq_37, feq_37, tz_37, tyq_56, tz_56, Nat.reduceAdd, Nat.reduceSub, Nat.reduceMul, Nat.reduceLT, Nat.reduceLeDiff, Nat.reduceEqDiff, Int.reduceToNat, Int.reduceLE, Int.reduceLT, Int.reduceEq, Int.reduceNeg, reduceCtorEq, reduceIte, decide_true, decide_false, List.forall_mem_cons, List.not_mem_nil, false_implies, implies_true, Bool.and_true, Bool.true_and, and_self, Nat.sub_zero, Nat.zero_add, Nat.add_zero, EQ, FnQ, Tryd.results15, wResL, tup, List.reverse_cons, List.reverse_nil, true_and]
          refine endsSame (by simp only [CL, and_self]) closedBs_nil ⟨?_, rfl⟩
          rw [refTokensF, if_neg h8, ← hrf]; rfl
        · have he : e = 0 := by simp at h; omega
          have hx := hnl he
          rw [if_pos he, dif_pos hx] at hrf
          have hm2 := moved_le x l1 c1 hm.2.2
          refine WC.skip ?_
          try simp only [EQ, reduceIte, Nat.reduceEqDiff]
          refine hK3 _ ?_; try clear hK3 K3
          refine WC.ds [⟨0, 0, false, []⟩, ⟨1, 0, false, []⟩, ⟨2, 0, true, []⟩, ⟨3, 0, true, []⟩, ⟨4, 0, false, []⟩, ⟨5, 1, false, [2, 3]⟩, ⟨6, 0, false, []⟩, ⟨7, 1, false, []⟩] [0, 1, 0, 4, 3, 19, 63, 127] mo (by kernel_rfl) (by simp only [EPl, List.getElem?_cons_zero, List.getElem?_cons_succ]; rfl) fun K hK => ?_
          simp (maxSteps := 1000000) only [↓yld_succ, ↓yld_zero, EV, EO, ED, ↓EW, ↓EI, EB, EP, EL, tyq_0, tz_0, tyq_3, inq_3, tz_3, tyq_4, bool_4, tz_4, tyq_9, str_9, tz_9, tyq_30, slq_30, tz_30, tyq_32, fq_32_0, fq_32_1, bq_32, feq_32, tz_32, tyq_33, inq_33, tz_33, tyq_37, fq_37_0, fq_37_1, fq_37_2, fq_37_3, bq_37, feq_37, tz_37, tyq_56, tz_56, Nat.reduceAdd, Nat.reduceSub, Nat.reduceMul, Nat.reduceLT, Nat.reduceLeDiff, Nat.reduceEqDiff, Int.reduceToNat, Int.reduceLE, Int.reduceLT, Int.reduceEq, Int.reduceNeg, reduceCtorEq, reduceIte, decide_true, decide_false, List.forall_mem_cons, List.not_mem_nil, false_implies, implies_true, Bool.and_true, Bool.true_and, and_self, Nat.sub_zero, Nat.zero_add, Nat.add_zero]
          repeat refine ⟨by omega, ?_⟩
          refine hK _ ?_; try clear hK K
          refine WC.trim [0, 2, 3, 4, 5, 6, 7, 8, 9, 13, 26, 42] ?_
          simp only [ET, Nat.reduceEqDiff, reduceIte]
          refine WC.rs fun K hK => ?_
          simp (maxSteps := 1000000) only [↓yld_succ, ↓yld_zero, EV, EO, ED, ↓EW, ↓EI, EB, EP, EL, tyq_0, tz_0, tyq_3, inq_3, tz_3, tyq_4, bool_4, tz_4, tyq_9, str_9, tz_9, tyq_30, slq_30, tz_30, tyq_32, fq_32_0, fq_32_1, bq_32, feq_32, tz_32, tyq_33, inq_33, tz_33, tyq_37, fq_37_0, fq_37_1, fq_37_2, fq_37_3, bq_37, feq_37, tz_37, tyq_56, tz_56, Nat.reduceAdd, Nat.reduceSub, Nat.reduceMul, Nat.reduceLT, Nat.reduceLeDiff, Nat.reduceEqDiff, Int.reduceToNat, Int.reduceLE, Int.reduceLT, Int.reduceEq, Int.reduceNeg, reduceCtorEq, reduceIte, decide_true, decide_false, List.forall_mem_cons, List.not_mem_nil, false_implies, implies_true, Bool.and_true, Bool.true_and, and_self, Nat.sub_zero, Nat.zero_add, Nat.add_zero, List.length_map]
          repeat refine ⟨by omega, ?_⟩
          refine hK _ ?_; try clear hK K
          refine WC.trim [0, 2, 3, 4, 5, 6, 7, 8, 9, 13, 26, 42] ?_
          simp only [ET, Nat.reduceEqDiff, reduceIte]
          refine WC.rs fun K hK => ?_
          simp (maxSteps := 1000000) only [↓yld_succ, ↓yld_zero, EV, EO, ED, ↓EW, ↓EI, EB, EP, EL, tyq_0, tz_0, tyq_3, inq_3, tz_3, tyq_4, bool_4, tz_4, tyq_9, str_9, tz_9, tyq_30, slq_30, tz_30, tyq_32, fq_32_0, fq_32_1, bq_32, feq_32, tz_32, tyq_33, inq_33, tz_33, tyq_37, fq_37_0, fq_37_1, fq_37_2, fq_37_3, bq_37, feq_37, tz_37, tyq_56, tz_56, Nat.reduceAdd, Nat.reduceSub, Nat.reduceMul, Nat.reduceLT, Nat.reduceLeDiff, Nat.reduceEqDiff, Int.reduceToNat, Int.reduceLE, Int.reduceLT, Int.reduceEq, Int.reduceNeg, reduceCtorEq, reduceIte, decide_true, decide_false, List.forall_mem_cons, List.not_mem_nil, false_implies, implies_true, Bool.and_true, Bool.true_and, and_self, Nat.sub_zero, Nat.zero_add, Nat.add_zero]
          refine CallX.mk (CallW.pure (move_sem' x (by omega) l1 c1 (by omega) (by omega)) (by simp only [pl, CL, and_self]) (by simp only [pl, CL, and_self]) ?_)
          simp (maxSteps := 1000000) only [↓yld_succ, ↓yld_zero, EV, EO, ED, ↓EW, ↓EI, EB, EP, EL, tyq_0, tz_0, tyq_3, inq_3, tz_3, tyq_4, bool_4, tz_4, tyq_9, str_9, tz_9, tyq_30, slq_30, tz_30, tyq_32, fq_32_0, fq_32_1, bq_32, feq_32, tz_32, tyq_33, inq_33, tz_33, tyq_37, fq_37_0, fq_37_1, fq_37_2, fq_37_3, bq_37, feq_37, tz_37, tyq_56, tz_56, Nat.reduceAdd, Nat.reduceSub, Nat.reduceMul, Nat.reduceLT, Nat.reduceLeDiff, Nat.reduceEqDiff, Int.reduceToNat, Int.reduceLE, Int.reduceLT, Int.reduceEq, Int.reduceNeg, reduceCtorEq, reduceIte, decide_true, decide_false, List.forall_mem_cons, List.not_mem_nil, false_implies, implies_true, Bool.and_true, Bool.true_and, and_self, Nat.sub_zero, Nat.zero_add, Nat.add_zero, pl]
          refine hK _ ?_; try clear hK K
          refine WC.trim [0, 2, 3, 4, 5, 6, 7, 8, 9, 13, 26, 42] ?_
          simp only [ET, Nat.reduceEqDiff, reduceIte]
          refine WC.r1 ?_
          simp (maxSteps := 1000000) only [↓yld_succ, ↓yld_zero, EV, EO, ED, ↓EW, ↓EI, EB, EP, EL, tyq_0, tz_0, tyq_3, inq_3, tz_3, tyq_4, bool_4, tz_4, tyq_9, str_9, tz_9, tyq_30, slq_30, tz_30, tyq_32, fq_32_0, fq_32_1, bq_32, feq_32, tz_32, tyq_33, inq_33, tz_33, tyq_37, fq_37_0, fq_37_1, fq_37_2, fq_37_3, bq_37, feq_37, tz_37, tyq_56, tz_56, Nat.reduceAdd, Nat.reduceSub, Nat.reduceMul, Nat.reduceLT, Nat.reduceLeDiff, Nat.reduceEqDiff, Int.reduceToNat, Int.reduceLE, Int.reduceLT, Int.reduceEq, Int.reduceNeg, reduceCtorEq, reduceIte, decide_true, decide_false, List.forall_mem_cons, List.not_mem_nil, false_implies, implies_true, Bool.and_true, Bool.true_and, and_self, Nat.sub_zero, Nat.zero_add, Nat.add_zero]
          repeat refine ⟨by omega, ?_⟩
          try simp only [EQ, reduceIte, Nat.reduceEqDiff]
          have hxl : (u.drop x.length).length = u.length - x.length := List.length_drop
          refine ⟨(u.drop x.length, (moved x l1 c1).1, (moved x l1 c1).2, acc ++ [(k, x, l1, c1)]), [0, 1, 5], ⟨?_, ?_, ?_, ?_, ?_, ?_⟩, ?_, ?_⟩
          · dsimp only; omega
          · dsimp only; omega
          · dsimp only; omega
          · dsimp only; omega
          · dsimp only; rw [List.length_append]; simp only [List.length_cons, List.length_nil]; omega
          · exact hrf
          · dsimp only; omega
          · have htk2 : (u.drop x.length).take (u.length - x.length) = u.drop x.length := List.take_of_length_le (by omega)
            refine ⟨by simp, by simp (maxSteps := 1000000) only [↓yld_succ, ↓yld_zero, EV, EO, ED, ↓EW, ↓EI, EB, EP, EL, tyq_0, tz_0, tyq_3, inq_3, tz_3, tyq_4, bool_4, tz_4, tyq_9, str_9, tz_9, tyq_30, slq_30, tz_30, tyq_32, fq_32_0, fq_32_1, bq_32, feq_32, tz_32, tyq_33, inq_33, tz_33, tyq_37, fq_37_0, fq_37_1, fq_37_2, fq_37_3, bq_37, feq_37, tz_37, tyq_56, tz_56, Nat.reduceAdd, Nat.reduceSub, Nat.reduceMul, Nat.reduceLT, Nat.reduceLeDiff, Nat.reduceEqDiff, Int.reduceToNat, Int.reduceLE, Int.reduceLT, Int.reduceEq, Int.reduceNeg, reduceCtorEq, reduceIte, decide_true, decide_false, List.forall_mem_cons, List.not_mem_nil, false_implies, implies_true, Bool.and_true, Bool.true_and, and_self, Nat.sub_zero, Nat.zero_add, Nat.add_zero, ER, and_self, htk2, tkv_closed acc _, renL_append, List.length_append, List.map_append, tkv, tk], by simp (maxSteps := 1000000) only [↓yld_succ, ↓yld_zero, EV, EO, ED, ↓EW, ↓EI, EB, EP, EL, tyq_0, tz_0, tyq_3, inq_3, tz_3, tyq_4, bool_4, tz_4, tyq_9, str_9, tz_9, tyq_30, slq_30, tz_30, tyq_32, fq_32_0, fq_32_1, bq_32, feq_32, tz_32, tyq_33, inq_33, tz_33, tyq_37, fq_37_0, fq_37_1, fq_37_2, fq_37_3, bq_37, feq_37, tz_37, tyq_56, tz_56, Nat.reduceAdd, Nat.reduceSub, Nat.reduceMul, Nat.reduceLT, Nat.reduceLeDiff, Nat.reduceEqDiff, Int.reduceToNat, Int.reduceLE, Int.reduceLT, Int.reduceEq, Int.reduceNeg, reduceCtorEq, reduceIte, decide_true, decide_false, List.forall_mem_cons, List.not_mem_nil, false_implies, implies_true, Bool.and_true, Bool.true_and, and_self, Nat.sub_zero, Nat.zero_add, Nat.add_zero, ER, htk2, tkv_closed acc _, renL_append, List.length_append, List.map_append, tkv, tk], by simp (maxSteps := 1000000) only [↓yld_succ, ↓yld_zero, EV, EO, ED, ↓EW, ↓EI, EB, EP, EL, tyq_0, tz_0, tyq_3, inq_3, tz_3, tyq_4, bool_4, tz_4, tyq_9, str_9, tz_9, tyq_30, slq_30, tz_30, tyq_32, fq_32_0, fq_32_1, bq_32, feq_32, tz_32, tyq_33, inq_33, tz_33, tyq_37, fq_37_0, fq_37_1, fq_37_2, fq_37_3, bq_37, feq_37, tz_37, tyq_56, tz_56, Nat.reduceAdd, Nat.reduceSub, Nat.reduceMul, Nat.reduceLT, Nat.reduceLeDiff, Nat.reduceEqDiff, Int.reduceToNat, Int.reduceLE, Int.reduceLT, Int.reduceEq, Int.reduceNeg, reduceCtorEq, reduceIte, decide_true, decide_false, List.forall_mem_cons, List.not_mem_nil, false_implies, implies_true, Bool.and_true, Bool.true_and, and_self, Nat.sub_zero, Nat.zero_add, Nat.add_zero, ER, pick, htk2, tkv_closed acc _, renL_append, List.length_append, List.map_append, tkv, tk], rfl⟩
end Go.LexSem
