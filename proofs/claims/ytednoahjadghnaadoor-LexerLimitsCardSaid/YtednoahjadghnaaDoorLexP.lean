import Derived.Test.YtednoahjadghnaaDoorLexO
set_option linter.unusedSimpArgs false
set_option linter.unusedVariables false
set_option linter.loopingSimpArgs false
namespace Go.LexSem
open Go Go.V Go.Proofs

theorem lexF_len (s : List UInt8) : ∀ k a l c acc, s.length - a = k → (lexF s a l c acc).1.length ≤ acc.length + k + 1 := by
  intro k
  induction k using Nat.strongRecOn with
  | _ k ih =>
    intro a l c acc hk
    unfold lexF
    split
    · split
      · have := ih _ (by omega) (a + 1) (adv s 1 (a, l, c)).2.1 (adv s 1 (a, l, c)).2.2 acc rfl; omega
      · split
        · have := ih _ (by omega) (max (a + 1) (adv s (runAt notNl s a).length (a, l, c)).1) (adv s (runAt notNl s a).length (a, l, c)).2.1 (adv s (runAt notNl s a).length (a, l, c)).2.2 acc rfl; omega
        · split
          · have := ih _ (by omega) (max (a + 1) (adv s (tokenF s a).2.1.length (a, l, c)).1) (adv s (tokenF s a).2.1.length (a, l, c)).2.1 (adv s (tokenF s a).2.1.length (a, l, c)).2.2 (acc ++ [((tokenF s a).1, (tokenF s a).2.1, l, c)]) rfl
            rw [List.length_append] at this
            simp only [List.length_cons, List.length_nil] at this
            omega
          · simp
    · simp
theorem tokensF_len (s : List UInt8) : (tokensF s).1.length ≤ 8193 := by
  unfold tokensF
  split
  · simp
  · have := lexF_len s _ 0 1 1 [] rfl
    simp only [List.length_nil] at this
    omega

theorem agrees_sem (hkw : FSem C 28 [] [] fun r st => r = .ret (.slc (kws.map .str)) ∧ st = []) (hsg : FSem C 30 [] [] fun r st => r = .ret (.slc (sgs.map .str)) ∧ st = []) (s : List UInt8) :
    FSem C 9 [.str s] [] fun r st => r = .ret (.bool true) ∧ st = [] := by
  have h1 := tokens_sem hkw hsg s
  have h2 := refTokens_sem s
  rw [same_tokens] at h2
  have h8 := tokensF_len s
  generalize tokensF s = r at h1 h2 h8
  obtain ⟨ts, ⟨l, c⟩, e⟩ := r
  dsimp only at h1 h2 h8
  have hcl : Closed (.tuple [tokv ts, pl l c, .int .i64 e]) := by
    cases ts with
    | nil => simp only [tokv, pl, CL, and_self]
    | cons t r => simp only [tokv, pl, CL, and_self, tkv_closed]
  refine FSem.enter' (C := C) (n := 52) Tryd.func9 rfl rfl ok_9 (by simp) ?_
  simp only [argEnv]
  refine WC.rs fun K hK => ?_
  simp (maxSteps := 1000000) only [↓yld_succ, ↓yld_zero, EV, EO, ED, ↓EW, ↓EI, EB, EP, EL, tyq_0, tz_0, tyq_3, inq_3, tz_3, tyq_4, bool_4, tz_4, tyq_9, str_9, tz_9, tyq_30, slq_30, tz_30, tyq_32, fq_32_0, fq_32_1, bq_32, feq_32, tz_32, tyq_33, inq_33, tz_33, tyq_34, tz_34, tyq_37, fq_37_0, fq_37_1, fq_37_2, fq_37_3, bq_37, feq_37, tz_37, Nat.reduceAdd, Nat.reduceSub, Nat.reduceMul, Nat.reduceLT, Nat.reduceLeDiff, Nat.reduceEqDiff, Int.reduceToNat, Int.reduceLE, Int.reduceLT, Int.reduceEq, Int.reduceNeg, reduceCtorEq, reduceIte, decide_true, decide_false, List.forall_mem_cons, List.not_mem_nil, false_implies, implies_true, Bool.and_true, Bool.true_and, and_self, Nat.sub_zero, Nat.zero_add, Nat.add_zero]
  refine hK _ ?_; try clear hK K
  refine WC.trim [0, 2, 3, 4, 5, 6, 7, 8, 9, 36, 40, 51] ?_
  simp only [ET, Nat.reduceEqDiff, reduceIte]
  refine WC.rs fun K hK => ?_
  simp (maxSteps := 1000000) only [↓yld_succ, ↓yld_zero, EV, EO, ED, ↓EW, ↓EI, EB, EP, EL, tyq_0, tz_0, tyq_3, inq_3, tz_3, tyq_4, bool_4, tz_4, tyq_9, str_9, tz_9, tyq_30, slq_30, tz_30, tyq_32, fq_32_0, fq_32_1, bq_32, feq_32, tz_32, tyq_33, inq_33, tz_33, tyq_34, tz_34, tyq_37, fq_37_0, fq_37_1, fq_37_2, fq_37_3, bq_37, feq_37, tz_37, Nat.reduceAdd, Nat.reduceSub, Nat.reduceMul, Nat.reduceLT, Nat.reduceLeDiff, Nat.reduceEqDiff, Int.reduceToNat, Int.reduceLE, Int.reduceLT, Int.reduceEq, Int.reduceNeg, reduceCtorEq, reduceIte, decide_true, decide_false, List.forall_mem_cons, List.not_mem_nil, false_implies, implies_true, Bool.and_true, Bool.true_and, and_self, Nat.sub_zero, Nat.zero_add, Nat.add_zero]
  refine CallX.mk (CallW.pure h1 (by simp only [CL, and_self]) hcl ?_)
  simp (maxSteps := 1000000) only [↓yld_succ, ↓yld_zero, EV, EO, ED, ↓EW, ↓EI, EB, EP, EL, tyq_0, tz_0, tyq_3, inq_3, tz_3, tyq_4, bool_4, tz_4, tyq_9, str_9, tz_9, tyq_30, slq_30, tz_30, tyq_32, fq_32_0, fq_32_1, bq_32, feq_32, tz_32, tyq_33, inq_33, tz_33, tyq_34, tz_34, tyq_37, fq_37_0, fq_37_1, fq_37_2, fq_37_3, bq_37, feq_37, tz_37, Nat.reduceAdd, Nat.reduceSub, Nat.reduceMul, Nat.reduceLT, Nat.reduceLeDiff, Nat.reduceEqDiff, Int.reduceToNat, Int.reduceLE, Int.reduceLT, Int.reduceEq, Int.reduceNeg, reduceCtorEq, reduceIte, decide_true, decide_false, List.forall_mem_cons, List.not_mem_nil, false_implies, implies_true, Bool.and_true, Bool.true_and, and_self, Nat.sub_zero, Nat.zero_add, Nat.add_zero, pl]
  refine hK _ ?_; try clear hK K
  refine WC.trim [0, 2, 3, 4, 5, 6, 7, 8, 9, 36, 40, 51] ?_
  simp only [ET, Nat.reduceEqDiff, reduceIte]
  refine WC.rs fun K hK => ?_
  simp (maxSteps := 1000000) only [↓yld_succ, ↓yld_zero, EV, EO, ED, ↓EW, ↓EI, EB, EP, EL, tyq_0, tz_0, tyq_3, inq_3, tz_3, tyq_4, bool_4, tz_4, tyq_9, str_9, tz_9, tyq_30, slq_30, tz_30, tyq_32, fq_32_0, fq_32_1, bq_32, feq_32, tz_32, tyq_33, inq_33, tz_33, tyq_34, tz_34, tyq_37, fq_37_0, fq_37_1, fq_37_2, fq_37_3, bq_37, feq_37, tz_37, Nat.reduceAdd, Nat.reduceSub, Nat.reduceMul, Nat.reduceLT, Nat.reduceLeDiff, Nat.reduceEqDiff, Int.reduceToNat, Int.reduceLE, Int.reduceLT, Int.reduceEq, Int.reduceNeg, reduceCtorEq, reduceIte, decide_true, decide_false, List.forall_mem_cons, List.not_mem_nil, false_implies, implies_true, Bool.and_true, Bool.true_and, and_self, Nat.sub_zero, Nat.zero_add, Nat.add_zero]
  refine CallX.mk (CallW.pure h2 (by simp only [CL, and_self]) hcl ?_)
  simp (maxSteps := 1000000) only [↓yld_succ, ↓yld_zero, EV, EO, ED, ↓EW, ↓EI, EB, EP, EL, tyq_0, tz_0, tyq_3, inq_3, tz_3, tyq_4, bool_4, tz_4, tyq_9, str_9, tz_9, tyq_30, slq_30, tz_30, tyq_32, fq_32_0, fq_32_1, bq_32, feq_32, tz_32, tyq_33, inq_33, tz_33, tyq_34, tz_34, tyq_37, fq_37_0, fq_37_1, fq_37_2, fq_37_3, bq_37, feq_37, tz_37, Nat.reduceAdd, Nat.reduceSub, Nat.reduceMul, Nat.reduceLT, Nat.reduceLeDiff, Nat.reduceEqDiff, Int.reduceToNat, Int.reduceLE, Int.reduceLT, Int.reduceEq, Int.reduceNeg, reduceCtorEq, reduceIte, decide_true, decide_false, List.forall_mem_cons, List.not_mem_nil, false_implies, implies_true, Bool.and_true, Bool.true_and, and_self, Nat.sub_zero, Nat.zero_add, Nat.add_zero, pl]
  refine hK _ ?_; try clear hK K
  refine WC.trim [0, 2, 3, 4, 5, 6, 7, 8, 9, 36, 40, 51] ?_
  simp only [ET, Nat.reduceEqDiff, reduceIte]
  cases ts with
  | nil =>
    rw [show tokv [] = .nils from rfl]
    refine WC.sK fun K1 hK1 => ?_
    refine WC.rs fun K hK => ?_
    simp (maxSteps := 1000000) only [↓yld_succ, ↓yld_zero, EV, EO, ED, ↓EW, ↓EI, EB, EP, EL, tyq_0, tz_0, tyq_3, inq_3, tz_3, tyq_4, bool_4, tz_4, tyq_9, str_9, tz_9, tyq_30, slq_30, tz_30, tyq_32, fq_32_0, fq_32_1, bq_32, feq_32, tz_32, tyq_33, inq_33, tz_33, tyq_34, tz_34, tyq_37, fq_37_0, fq_37_1, fq_37_2, fq_37_3, bq_37, feq_37, tz_37, Nat.reduceAdd, Nat.reduceSub, Nat.reduceMul, Nat.reduceLT, Nat.reduceLeDiff, Nat.reduceEqDiff, Int.reduceToNat, Int.reduceLE, Int.reduceLT, Int.reduceEq, Int.reduceNeg, reduceCtorEq, reduceIte, decide_true, decide_false, List.forall_mem_cons, List.not_mem_nil, false_implies, implies_true, Bool.and_true, Bool.true_and, and_self, Nat.sub_zero, Nat.zero_add, Nat.add_zero, Bool.not_true, Bool.not_false]
    refine hK _ ?_; try clear hK K
    refine WC.trim [0, 2, 3, 4, 5, 6, 7, 8, 9, 36, 40, 51] ?_
    simp only [ET, Nat.reduceEqDiff, reduceIte]
    refine WC.cond (c := .tmp 36) rfl (fun h => ?_) (fun h => ?_)
    · cases h
    · refine WC.skip ?_
      try simp only [EQ, reduceIte, Nat.reduceEqDiff]
      refine hK1 _ ?_; try clear hK1 K1
      refine WC.sK fun K2 hK2 => ?_
      refine WC.rs fun K hK => ?_
      simp (maxSteps := 1000000) only [↓yld_succ, ↓yld_zero, EV, EO, ED, ↓EW, ↓EI, EB, EP, EL, tyq_0, tz_0, tyq_3, inq_3, tz_3, tyq_4, bool_4, tz_4, tyq_9, str_9, tz_9, tyq_30, slq_30, tz_30, tyq_32, fq_32_0, fq_32_1, bq_32, feq_32, tz_32, tyq_33, inq_33, tz_33, tyq_34, tz_34, tyq_37, fq_37_0, fq_37_1, fq_37_2, fq_37_3, bq_37, feq_37, tz_37, Nat.reduceAdd, Nat.reduceSub, Nat.reduceMul, Nat.reduceLT, Nat.reduceLeDiff, Nat.reduceEqDiff, Int.reduceToNat, Int.reduceLE, Int.reduceLT, Int.reduceEq, Int.reduceNeg, reduceCtorEq, reduceIte, decide_true, decide_false, List.forall_mem_cons, List.not_mem_nil, false_implies, implies_true, Bool.and_true, Bool.true_and, and_self, Nat.sub_zero, Nat.zero_add, Nat.add_zero]
      refine hK _ ?_; try clear hK K
      refine WC.trim [0, 2, 3, 4, 5, 6, 7, 8, 9, 36, 40, 51] ?_
      simp only [ET, Nat.reduceEqDiff, reduceIte]
      refine WC.b1 ?_
      refine WC.loop (X := Unit) (fun _ => ⟨[(9, .int .i64 0), (6, .nils), (3, .nils), (2, .bool false)], [], [], []⟩) (fun _ => True) (fun _ => 0) () [] trivial ?_ ?_
      · refine ⟨by simp, by simp (maxSteps := 1000000) only [↓yld_succ, ↓yld_zero, EV, EO, ED, ↓EW, ↓EI, EB, EP, EL, tyq_0, tz_0, tyq_3, inq_3, tz_3, tyq_4, bool_4, tz_4, tyq_9, str_9, tz_9, tyq_30, slq_30, tz_30, tyq_32, fq_32_0, fq_32_1, bq_32, feq_32, tz_32, tyq_33, inq_33, tz_33, tyq_34, tz_34, tyq_37, fq_37_0, fq_37_1, fq_37_2, fq_37_3, bq_37, feq_37, tz_37, Nat.reduceAdd, Nat.reduceSub, Nat.reduceMul, Nat.reduceLT, Nat.reduceLeDiff, Nat.reduceEqDiff, Int.reduceToNat, Int.reduceLE, Int.reduceLT, Int.reduceEq, Int.reduceNeg, reduceCtorEq, reduceIte, decide_true, decide_false, List.forall_mem_cons, List.not_mem_nil, false_implies, implies_true, Bool.and_true, Bool.true_and, and_self, Nat.sub_zero, Nat.zero_add, Nat.add_zero, ER, and_self], by simp (maxSteps := 1000000) only [↓yld_succ, ↓yld_zero, EV, EO, ED, ↓EW, ↓EI, EB, EP, EL, tyq_0, tz_0, tyq_3, inq_3, tz_3, tyq_4, bool_4, tz_4, tyq_9, str_9, tz_9, tyq_30, slq_30, tz_30, tyq_32, fq_32_0, fq_32_1, bq_32, feq_32, tz_32, tyq_33, inq_33, tz_33, tyq_34, tz_34, tyq_37, fq_37_0, fq_37_1, fq_37_2, fq_37_3, bq_37, feq_37, tz_37, Nat.reduceAdd, Nat.reduceSub, Nat.reduceMul, Nat.reduceLT, Nat.reduceLeDiff, Nat.reduceEqDiff, Int.reduceToNat, Int.reduceLE, Int.reduceLT, Int.reduceEq, Int.reduceNeg, reduceCtorEq, reduceIte, decide_true, decide_false, List.forall_mem_cons, List.not_mem_nil, false_implies, implies_true, Bool.and_true, Bool.true_and, and_self, Nat.sub_zero, Nat.zero_add, Nat.add_zero, ER], by simp (maxSteps := 1000000) only [↓yld_succ, ↓yld_zero, EV, EO, ED, ↓EW, ↓EI, EB, EP, EL, tyq_0, tz_0, tyq_3, inq_3, tz_3, tyq_4, bool_4, tz_4, tyq_9, str_9, tz_9, tyq_30, slq_30, tz_30, tyq_32, fq_32_0, fq_32_1, bq_32, feq_32, tz_32, tyq_33, inq_33, tz_33, tyq_34, tz_34, tyq_37, fq_37_0, fq_37_1, fq_37_2, fq_37_3, bq_37, feq_37, tz_37, Nat.reduceAdd, Nat.reduceSub, Nat.reduceMul, Nat.reduceLT, Nat.reduceLeDiff, Nat.reduceEqDiff, Int.reduceToNat, Int.reduceLE, Int.reduceLT, Int.reduceEq, Int.reduceNeg, reduceCtorEq, reduceIte, decide_true, decide_false, List.forall_mem_cons, List.not_mem_nil, false_implies, implies_true, Bool.and_true, Bool.true_and, and_self, Nat.sub_zero, Nat.zero_add, Nat.add_zero, ER, pick], rfl⟩
      · rintro _ _
        refine WC.sK fun K3 hK3 => ?_
        refine WC.rs fun K hK => ?_
        simp (maxSteps := 1000000) only [↓yld_succ, ↓yld_zero, EV, EO, ED, ↓EW, ↓EI, EB, EP, EL, tyq_0, tz_0, tyq_3, inq_3, tz_3, tyq_4, bool_4, tz_4, tyq_9, str_9, tz_9, tyq_30, slq_30, tz_30, tyq_32, fq_32_0, fq_32_1, bq_32, feq_32, tz_32, tyq_33, inq_33, tz_33, tyq_34, tz_34, tyq_37, fq_37_0, fq_37_1, fq_37_2, fq_37_3, bq_37, feq_37, tz_37, Nat.reduceAdd, Nat.reduceSub, Nat.reduceMul, Nat.reduceLT, Nat.reduceLeDiff, Nat.reduceEqDiff, Int.reduceToNat, Int.reduceLE, Int.reduceLT, Int.reduceEq, Int.reduceNeg, reduceCtorEq, reduceIte, decide_true, decide_false, List.forall_mem_cons, List.not_mem_nil, false_implies, implies_true, Bool.and_true, Bool.true_and, and_self, Nat.sub_zero, Nat.zero_add, Nat.add_zero]
        refine hK _ ?_; try clear hK K
        refine WC.trim [0, 2, 3, 4, 5, 6, 7, 8, 9, 36, 40, 51] ?_
        simp only [ET, Nat.reduceEqDiff, reduceIte]
        refine WC.cond (c := .tmp 40) rfl (fun h => ?_) (fun h => ?_)
        · cases h
        · refine WC.exit ?_
          simp only [EQ, reduceIte, Nat.reduceEqDiff]
          try simp only [EQ, reduceIte, Nat.reduceEqDiff]
          refine hK2 _ ?_; try clear hK2 K2
          refine WC.rs fun K hK => ?_
          simp (maxSteps := 1000000) only [↓yld_succ, ↓yld_zero, EV, EO, ED, ↓EW, ↓EI, EB, EP, EL, tyq_0, tz_0, tyq_3, inq_3, tz_3, tyq_4, bool_4, tz_4, tyq_9, str_9, tz_9, tyq_30, slq_30, tz_30, tyq_32, fq_32_0, fq_32_1, bq_32, feq_32, tz_32, tyq_33, inq_33, tz_33, tyq_34, tz_34, tyq_37, fq_37_0, fq_37_1, fq_37_2, fq_37_3, bq_37, feq_37, tz_37, Nat.reduceAdd, Nat.reduceSub, Nat.reduceMul, Nat.reduceLT, Nat.reduceLeDiff, Nat.reduceEqDiff, Int.reduceToNat, Int.reduceLE, Int.reduceLT, Int.reduceEq, Int.reduceNeg, reduceCtorEq, reduceIte, decide_true, decide_false, List.forall_mem_cons, List.not_mem_nil, false_implies, implies_true, Bool.and_true, Bool.true_and, and_self, Nat.sub_zero, Nat.zero_add, Nat.add_zero]
          refine hK _ ?_; try clear hK K
          refine WC.trim [0, 2, 3, 4, 5, 6, 7, 8, 9, 36, 40, 51] ?_
          simp only [ET, Nat.reduceEqDiff, reduceIte]
          refine WC.ret ?_
          simp (maxSteps := 1000000) only [↓yld_succ, ↓yld_zero, EV, EO, ED, ↓EW, ↓EI, EB, EP, EL, tyq_0, tz_0, tyq_3, inq_3, tz_3, tyq_4, bool_4, tz_4, tyq_9, str_9, tz_9, tyq_30, slq_30, tz_30, tyq_32, fq_32_0, fq_32_1, bq_32, feq_32, tz_32, tyq_33, inq_33, tz_33, tyq_34, tz_34, tyq_37, fq_37_0, fq_37_1, fq_37_2, fq_37_3, bq_37, feq_37, tz_37, Nat.reduceAdd, Nat.reduceSub, Nat.reduceMul, Nat.reduceLT, Nat.reduceLeDiff, Nat.reduceEqDiff, Int.reduceToNat, Int.reduceLE, Int.reduceLT, Int.reduceEq, Int.reduceNeg, reduceCtorEq, reduceIte, decide_true, decide_false, List.forall_mem_cons, List.not_mem_nil, false_implies, implies_true, Bool.and_true, Bool.true_and, and_self, Nat.sub_zero, Nat.zero_add, Nat.add_zero, EQ, FnQ, Tryd.results9, wResL, tup, List.reverse_cons, List.reverse_nil, true_and]
          exact endsPure (by simp only [CL]) rfl
  | cons t0 tr =>
    rw [show tokv (t0 :: tr) = .slc ((t0 :: tr).map tkv) from rfl]
    generalize t0 :: tr = ts at h8
    refine WC.sK fun K1 hK1 => ?_
    refine WC.rs fun K hK => ?_
    simp (maxSteps := 1000000) only [↓yld_succ, ↓yld_zero, EV, EO, ED, ↓EW, ↓EI, EB, EP, EL, tyq_0, tz_0, tyq_3, inq_3, tz_3, tyq_4, bool_4, tz_4, tyq_9, str_9, tz_9, tyq_30, slq_30, tz_30, tyq_32, fq_32_0, fq_32_1, bq_32, feq_32, tz_32, tyq_33, inq_33, tz_33, tyq_34, tz_34, tyq_37, fq_37_0, fq_37_1, fq_37_2, fq_37_3, bq_37, feq_37, tz_37, Nat.reduceAdd, Nat.reduceSub, Nat.reduceMul, Nat.reduceLT, Nat.reduceLeDiff, Nat.reduceEqDiff, Int.reduceToNat, Int.reduceLE, Int.reduceLT, Int.reduceEq, Int.reduceNeg, reduceCtorEq, reduceIte, decide_true, decide_false, List.forall_mem_cons, List.not_mem_nil, false_implies, implies_true, Bool.and_true, Bool.true_and, and_self, Nat.sub_zero, Nat.zero_add, Nat.add_zero, Bool.not_true, Bool.not_false]
    refine hK _ ?_; try clear hK K
    refine WC.trim [0, 2, 3, 4, 5, 6, 7, 8, 9, 36, 40, 51] ?_
    simp only [ET, Nat.reduceEqDiff, reduceIte]
    refine WC.cond (c := .tmp 36) rfl (fun h => ?_) (fun h => ?_)
    · cases h
    · refine WC.skip ?_
      try simp only [EQ, reduceIte, Nat.reduceEqDiff]
      refine hK1 _ ?_; try clear hK1 K1
      refine WC.sK fun K2 hK2 => ?_
      refine WC.rs fun K hK => ?_
      simp (maxSteps := 1000000) only [↓yld_succ, ↓yld_zero, EV, EO, ED, ↓EW, ↓EI, EB, EP, EL, tyq_0, tz_0, tyq_3, inq_3, tz_3, tyq_4, bool_4, tz_4, tyq_9, str_9, tz_9, tyq_30, slq_30, tz_30, tyq_32, fq_32_0, fq_32_1, bq_32, feq_32, tz_32, tyq_33, inq_33, tz_33, tyq_34, tz_34, tyq_37, fq_37_0, fq_37_1, fq_37_2, fq_37_3, bq_37, feq_37, tz_37, Nat.reduceAdd, Nat.reduceSub, Nat.reduceMul, Nat.reduceLT, Nat.reduceLeDiff, Nat.reduceEqDiff, Int.reduceToNat, Int.reduceLE, Int.reduceLT, Int.reduceEq, Int.reduceNeg, reduceCtorEq, reduceIte, decide_true, decide_false, List.forall_mem_cons, List.not_mem_nil, false_implies, implies_true, Bool.and_true, Bool.true_and, and_self, Nat.sub_zero, Nat.zero_add, Nat.add_zero]
      refine hK _ ?_; try clear hK K
      refine WC.trim [0, 2, 3, 4, 5, 6, 7, 8, 9, 36, 40, 51] ?_
      simp only [ET, Nat.reduceEqDiff, reduceIte]
      refine WC.b1 ?_
      refine WC.loop (X := Nat) (fun i => ⟨[(9, .int .i64 i), (6, .slc (ts.map tkv)), (3, .slc (ts.map tkv)), (2, .bool false)], [], [], []⟩) (fun i => i ≤ ts.length) (fun i => ts.length - i) 0 [] (Nat.zero_le _) ?_ ?_
      · refine ⟨by simp, by simp (maxSteps := 1000000) only [↓yld_succ, ↓yld_zero, EV, EO, ED, ↓EW, ↓EI, EB, EP, EL, tyq_0, tz_0, tyq_3, inq_3, tz_3, tyq_4, bool_4, tz_4, tyq_9, str_9, tz_9, tyq_30, slq_30, tz_30, tyq_32, fq_32_0, fq_32_1, bq_32, feq_32, tz_32, tyq_33, inq_33, tz_33, tyq_34, tz_34, tyq_37, fq_37_0, fq_37_1, fq_37_2, fq_37_3, bq_37, feq_37, tz_37, Nat.reduceAdd, Nat.reduceSub, Nat.reduceMul, Nat.reduceLT, Nat.reduceLeDiff, Nat.reduceEqDiff, Int.reduceToNat, Int.reduceLE, Int.reduceLT, Int.reduceEq, Int.reduceNeg, reduceCtorEq, reduceIte, decide_true, decide_false, List.forall_mem_cons, List.not_mem_nil, false_implies, implies_true, Bool.and_true, Bool.true_and, and_self, Nat.sub_zero, Nat.zero_add, Nat.add_zero, ER, and_self, tkv_closed ts _], by simp (maxSteps := 1000000) only [↓yld_succ, ↓yld_zero, EV, EO, ED, ↓EW, ↓EI, EB, EP, EL, tyq_0, tz_0, tyq_3, inq_3, tz_3, tyq_4, bool_4, tz_4, tyq_9, str_9, tz_9, tyq_30, slq_30, tz_30, tyq_32, fq_32_0, fq_32_1, bq_32, feq_32, tz_32, tyq_33, inq_33, tz_33, tyq_34, tz_34, tyq_37, fq_37_0, fq_37_1, fq_37_2, fq_37_3, bq_37, feq_37, tz_37, Nat.reduceAdd, Nat.reduceSub, Nat.reduceMul, Nat.reduceLT, Nat.reduceLeDiff, Nat.reduceEqDiff, Int.reduceToNat, Int.reduceLE, Int.reduceLT, Int.reduceEq, Int.reduceNeg, reduceCtorEq, reduceIte, decide_true, decide_false, List.forall_mem_cons, List.not_mem_nil, false_implies, implies_true, Bool.and_true, Bool.true_and, and_self, Nat.sub_zero, Nat.zero_add, Nat.add_zero, ER, tkv_closed ts _], by simp (maxSteps := 1000000) only [↓yld_succ, ↓yld_zero, EV, EO, ED, ↓EW, ↓EI, EB, EP, EL, tyq_0, tz_0, tyq_3, inq_3, tz_3, tyq_4, bool_4, tz_4, tyq_9, str_9, tz_9, tyq_30, slq_30, tz_30, tyq_32, fq_32_0, fq_32_1, bq_32, feq_32, tz_32, tyq_33, inq_33, tz_33, tyq_34, tz_34, tyq_37, fq_37_0, fq_37_1, fq_37_2, fq_37_3, bq_37, feq_37, tz_37, Nat.reduceAdd, Nat.reduceSub, Nat.reduceMul, Nat.reduceLT, Nat.reduceLeDiff, Nat.reduceEqDiff, Int.reduceToNat, Int.reduceLE, Int.reduceLT, Int.reduceEq, Int.reduceNeg, reduceCtorEq, reduceIte, decide_true, decide_false, List.forall_mem_cons, List.not_mem_nil, false_implies, implies_true, Bool.and_true, Bool.true_and, and_self, Nat.sub_zero, Nat.zero_add, Nat.add_zero, ER, pick, tkv_closed ts _], rfl⟩
      · rintro i hi
        refine WC.sK fun K3 hK3 => ?_
        refine WC.rs fun K hK => ?_
        simp (maxSteps := 1000000) only [↓yld_succ, ↓yld_zero, EV, EO, ED, ↓EW, ↓EI, EB, EP, EL, tyq_0, tz_0, tyq_3, inq_3, tz_3, tyq_4, bool_4, tz_4, tyq_9, str_9, tz_9, tyq_30, slq_30, tz_30, tyq_32, fq_32_0, fq_32_1, bq_32, feq_32, tz_32, tyq_33, inq_33, tz_33, tyq_34, tz_34, tyq_37, fq_37_0, fq_37_1, fq_37_2, fq_37_3, bq_37, feq_37, tz_37, Nat.reduceAdd, Nat.reduceSub, Nat.reduceMul, Nat.reduceLT, Nat.reduceLeDiff, Nat.reduceEqDiff, Int.reduceToNat, Int.reduceLE, Int.reduceLT, Int.reduceEq, Int.reduceNeg, reduceCtorEq, reduceIte, decide_true, decide_false, List.forall_mem_cons, List.not_mem_nil, false_implies, implies_true, Bool.and_true, Bool.true_and, and_self, Nat.sub_zero, Nat.zero_add, Nat.add_zero, List.length_map]
        refine hK _ ?_; try clear hK K
        refine WC.trim [0, 2, 3, 4, 5, 6, 7, 8, 9, 36, 40, 51] ?_
        simp only [ET, Nat.reduceEqDiff, reduceIte]
        refine WC.cond (c := .tmp 40) rfl (fun h => ?_) (fun h => ?_)
        · have hlt : i < ts.length := by simpa using h
          have hg := gi_map tkv ts hlt
          refine WC.skip ?_
          try simp only [EQ, reduceIte, Nat.reduceEqDiff]
          refine hK3 _ ?_; try clear hK3 K3
          refine WC.bs fun K4 hK4 => ?_
          refine WC.ds [⟨0, 0, false, []⟩, ⟨1, 0, false, []⟩, ⟨2, 0, false, []⟩, ⟨3, 0, false, []⟩, ⟨4, 0, false, []⟩, ⟨5, 0, false, []⟩, ⟨6, 0, false, []⟩, ⟨7, 0, false, []⟩, ⟨8, 0, false, []⟩] [0, 0, 3, 7, 0, 0, 48, 112, 255] mo (by kernel_rfl) (by simp only [EPl, List.getElem?_cons_zero, List.getElem?_cons_succ]; rfl) fun K hK => ?_
          simp (maxSteps := 1000000) only [↓yld_succ, ↓yld_zero, EV, EO, ED, ↓EW, ↓EI, EB, EP, EL, tyq_0, tz_0, tyq_3, inq_3, tz_3, tyq_4, bool_4, tz_4, tyq_9, str_9, tz_9, tyq_30, slq_30, tz_30, tyq_32, fq_32_0, fq_32_1, bq_32, feq_32, tz_32, tyq_33, inq_33, tz_33, tyq_34, tz_34, tyq_37, fq_37_0, fq_37_1, fq_37_2, fq_37_3, bq_37, feq_37, tz_37, Nat.reduceAdd, Nat.reduceSub, Nat.reduceMul, Nat.reduceLT, Nat.reduceLeDiff, Nat.reduceEqDiff, Int.reduceToNat, Int.reduceLE, Int.reduceLT, Int.reduceEq, Int.reduceNeg, reduceCtorEq, reduceIte, decide_true, decide_false, List.forall_mem_cons, List.not_mem_nil, false_implies, implies_true, Bool.and_true, Bool.true_and, and_self, Nat.sub_zero, Nat.zero_add, Nat.add_zero, hg, List.length_map, tkv, tk]
          repeat refine ⟨by omega, ?_⟩
          refine hK _ ?_; try clear hK K
          refine WC.trim [0, 2, 3, 4, 5, 6, 7, 8, 9, 36, 40, 51] ?_
          simp only [ET, Nat.reduceEqDiff, reduceIte]
          refine WC.cond (c := .tmp 51) rfl (fun h => ?_) (fun h => ?_)
          · cases h
          · refine WC.skip ?_
            try simp only [EQ, reduceIte, Nat.reduceEqDiff]
            refine hK4 _ ?_; try clear hK4 K4
            refine WC.r1 ?_
            simp (maxSteps := 1000000) (disch := omega) only [↓yld_succ, ↓yld_zero, EV, EO, ED, ↓EW, ↓EI, EB, EP, EL, tyq_0, tz_0, tyq_3, inq_3, tz_3, tyq_4, bool_4, tz_4, tyq_9, str_9, tz_9, tyq_30, slq_30, tz_30, tyq_32, fq_32_0, fq_32_1, bq_32, feq_32, tz_32, tyq_33, inq_33, tz_33, tyq_34, tz_34, tyq_37, fq_37_0, fq_37_1, fq_37_2, fq_37_3, bq_37, feq_37, tz_37, Nat.reduceAdd, Nat.reduceSub, Nat.reduceMul, Nat.reduceLT, Nat.reduceLeDiff, Nat.reduceEqDiff, Int.reduceToNat, Int.reduceLE, Int.reduceLT, Int.reduceEq, Int.reduceNeg, reduceCtorEq, reduceIte, decide_true, decide_false, List.forall_mem_cons, List.not_mem_nil, false_implies, implies_true, Bool.and_true, Bool.true_and, and_self, Nat.sub_zero, Nat.zero_add, Nat.add_zero, w64]
            try simp only [EQ, reduceIte, Nat.reduceEqDiff]
            refine ⟨i + 1, [], by omega, by omega, ?_⟩
            refine ⟨by simp, by simp (maxSteps := 1000000) only [↓yld_succ, ↓yld_zero, EV, EO, ED, ↓EW, ↓EI, EB, EP, EL, tyq_0, tz_0, tyq_3, inq_3, tz_3, tyq_4, bool_4, tz_4, tyq_9, str_9, tz_9, tyq_30, slq_30, tz_30, tyq_32, fq_32_0, fq_32_1, bq_32, feq_32, tz_32, tyq_33, inq_33, tz_33, tyq_34, tz_34, tyq_37, fq_37_0, fq_37_1, fq_37_2, fq_37_3, bq_37, feq_37, tz_37, Nat.reduceAdd, Nat.reduceSub, Nat.reduceMul, Nat.reduceLT, Nat.reduceLeDiff, Nat.reduceEqDiff, Int.reduceToNat, Int.reduceLE, Int.reduceLT, Int.reduceEq, Int.reduceNeg, reduceCtorEq, reduceIte, decide_true, decide_false, List.forall_mem_cons, List.not_mem_nil, false_implies, implies_true, Bool.and_true, Bool.true_and, and_self, Nat.sub_zero, Nat.zero_add, Nat.add_zero, ER, and_self, Int.natCast_add, tkv_closed ts _], by simp (maxSteps := 1000000) only [↓yld_succ, ↓yld_zero, EV, EO, ED, ↓EW, ↓EI, EB, EP, EL, tyq_0, tz_0, tyq_3, inq_3, tz_3, tyq_4, bool_4, tz_4, tyq_9, str_9, tz_9, tyq_30, slq_30, tz_30, tyq_32, fq_32_0, fq_32_1, bq_32, feq_32, tz_32, tyq_33, inq_33, tz_33, tyq_34, tz_34, tyq_37, fq_37_0, fq_37_1, fq_37_2, fq_37_3, bq_37, feq_37, tz_37, Nat.reduceAdd, Nat.reduceSub, Nat.reduceMul, Nat.reduceLT, Nat.reduceLeDiff, Nat.reduceEqDiff, Int.reduceToNat, Int.reduceLE, Int.reduceLT, Int.reduceEq, Int.reduceNeg, reduceCtorEq, reduceIte, decide_true, decide_false, List.forall_mem_cons, List.not_mem_nil, false_implies, implies_true, Bool.and_true, Bool.true_and, and_self, Nat.sub_zero, Nat.zero_add, Nat.add_zero, ER, Int.natCast_add, tkv_closed ts _], by simp (maxSteps := 1000000) only [↓yld_succ, ↓yld_zero, EV, EO, ED, ↓EW, ↓EI, EB, EP, EL, tyq_0, tz_0, tyq_3, inq_3, tz_3, tyq_4, bool_4, tz_4, tyq_9, str_9, tz_9, tyq_30, slq_30, tz_30, tyq_32, fq_32_0, fq_32_1, bq_32, feq_32, tz_32, tyq_33, inq_33, tz_33, tyq_34, tz_34, tyq_37, fq_37_0, fq_37_1, fq_37_2, fq_37_3, bq_37, feq_37, tz_37, Nat.reduceAdd, Nat.reduceSub, Nat.reduceMul, Nat.reduceLT, Nat.reduceLeDiff, Nat.reduceEqDiff, Int.reduceToNat, Int.reduceLE, Int.reduceLT, Int.reduceEq, Int.reduceNeg, reduceCtorEq, reduceIte, decide_true, decide_false, List.forall_mem_cons, List.not_mem_nil, false_implies, implies_true, Bool.and_true, Bool.true_and, and_self, Nat.sub_zero, Nat.zero_add, Nat.add_zero, ER, pick, Int.natCast_add, tkv_closed ts _], rfl⟩
        · refine WC.exit ?_
          simp only [EQ, reduceIte, Nat.reduceEqDiff]
          try simp only [EQ, reduceIte, Nat.reduceEqDiff]
          refine hK2 _ ?_; try clear hK2 K2
          refine WC.rs fun K hK => ?_
          simp (maxSteps := 1000000) only [↓yld_succ, ↓yld_zero, EV, EO, ED, ↓EW, ↓EI, EB, EP, EL, tyq_0, tz_0, tyq_3, inq_3, tz_3, tyq_4, bool_4, tz_4, tyq_9, str_9, tz_9, tyq_30, slq_30, tz_30, tyq_32, fq_32_0, fq_32_1, bq_32, feq_32, tz_32, tyq_33, inq_33, tz_33, tyq_34, tz_34, tyq_37, fq_37_0, fq_37_1, fq_37_2, fq_37_3, bq_37, feq_37, tz_37, Nat.reduceAdd, Nat.reduceSub, Nat.reduceMul, Nat.reduceLT, Nat.reduceLeDiff, Nat.reduceEqDiff, Int.reduceToNat, Int.reduceLE, Int.reduceLT, Int.reduceEq, Int.reduceNeg, reduceCtorEq, reduceIte, decide_true, decide_false, List.forall_mem_cons, List.not_mem_nil, false_implies, implies_true, Bool.and_true, Bool.true_and, and_self, Nat.sub_zero, Nat.zero_add, Nat.add_zero]
          refine hK _ ?_; try clear hK K
          refine WC.trim [0, 2, 3, 4, 5, 6, 7, 8, 9, 36, 40, 51] ?_
          simp only [ET, Nat.reduceEqDiff, reduceIte]
          refine WC.ret ?_
          simp (maxSteps := 1000000) only [↓yld_succ, ↓yld_zero, EV, EO, ED, ↓EW, ↓EI, EB, EP, EL, tyq_0, tz_0, tyq_3, inq_3, tz_3, tyq_4, bool_4, tz_4, tyq_9, str_9, tz_9, tyq_30, slq_30, tz_30, tyq_32, fq_32_0, fq_32_1, bq_32, feq_32, tz_32, tyq_33, inq_33, tz_33, tyq_34, tz_34, tyq_37, fq_37_0, fq_37_1, fq_37_2, fq_37_3, bq_37, feq_37, tz_37, Nat.reduceAdd, Nat.reduceSub, Nat.reduceMul, Nat.reduceLT, Nat.reduceLeDiff, Nat.reduceEqDiff, Int.reduceToNat, Int.reduceLE, Int.reduceLT, Int.reduceEq, Int.reduceNeg, reduceCtorEq, reduceIte, decide_true, decide_false, List.forall_mem_cons, List.not_mem_nil, false_implies, implies_true, Bool.and_true, Bool.true_and, and_self, Nat.sub_zero, Nat.zero_add, Nat.add_zero, EQ, FnQ, Tryd.results9, wResL, tup, List.reverse_cons, List.reverse_nil, true_and]
          exact endsPure (by simp only [CL]) rfl
end Go.LexSem
