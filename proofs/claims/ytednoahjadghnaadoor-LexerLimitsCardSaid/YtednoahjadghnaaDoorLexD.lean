import Derived.Test.YtednoahjadghnaaDoorLexC
set_option linter.unusedSimpArgs false
set_option linter.unusedVariables false
set_option linter.loopingSimpArgs false
namespace Go.LexSem
open Go Go.V Go.Proofs

/-! ### words in lists -/
def ixF (w : List UInt8) : List (List UInt8) → Nat → Int
  | [], _ => -1
  | x :: r, k => if w = x then (k : Int) else ixF w r (k + 1)
theorem ixF_mem (w : List UInt8) : ∀ (ws : List (List UInt8)) (k : Nat), decide (0 ≤ ixF w ws k) = decide (w ∈ ws)
  | [], k => by simp [ixF]
  | x :: r, k => by
    unfold ixF
    by_cases h : w = x
    · simp [h]
    · rw [if_neg h, ixF_mem w r (k + 1)]; simp [h]
theorem drop_at {α : Type} {ws : List α} {i : Nat} (h : i < ws.length) : ws.drop i = ws[i] :: ws.drop (i + 1) := (List.getElem_cons_drop (h := h)).symm
theorem gi_map {α : Type} (f : α → PVal) (ws : List α) {i : Nat} (h : i < ws.length) : gi (ws.map f) i = f ws[i] := by
  simp [gi, List.getD_eq_getElem?_getD, h]
theorem strs_closed (ws : List (List UInt8)) : ClosedL (ws.map .str) := ClosedL.map (fun s => fun _ => rfl) ws

theorem index_sem (ws : List (List UInt8)) (w : List UInt8) (hl : ws.length ≤ 1000) : FSem C 36 [.slc (ws.map .str), .str w] [] fun r st => r = .ret (.int .i64 (ixF w ws 0)) ∧ st = [] := by
  refine FSem.enter' (C := C) (n := 19) Tryd.func36 rfl rfl ok_36 (by simp) ?_
  simp only [argEnv]
  refine WC.rs fun K hK => ?_
  simp (maxSteps := 1000000) only [↓yld_succ, ↓yld_zero, EV, EO, ED, ↓EW, ↓EI, EB, EP, EL, tyq_0, tz_0, tyq_3, inq_3, tz_3, tyq_4, bool_4, tz_4, tyq_9, str_9, tz_9, tyq_38, slq_38, tz_38, Nat.reduceAdd, Nat.reduceSub, Nat.reduceMul, Nat.reduceLT, Nat.reduceLeDiff, Nat.reduceEqDiff, Int.reduceToNat, Int.reduceLE, Int.reduceLT, Int.reduceEq, Int.reduceNeg, reduceCtorEq, reduceIte, decide_true, decide_false, List.forall_mem_cons, List.not_mem_nil, false_implies, implies_true, Bool.and_true, Bool.true_and, and_self, Nat.sub_zero, Nat.zero_add, Nat.add_zero]
  refine hK _ ?_; try clear hK K
  refine WC.trim [0, 1, 4, 5, 7, 8, 9, 16] ?_
  simp only [ET, Nat.reduceEqDiff, reduceIte]
  refine WC.sK fun K1 hK1 => ?_
  refine WC.rs fun K hK => ?_
  simp (maxSteps := 1000000) only [↓yld_succ, ↓yld_zero, EV, EO, ED, ↓EW, ↓EI, EB, EP, EL, tyq_0, tz_0, tyq_3, inq_3, tz_3, tyq_4, bool_4, tz_4, tyq_9, str_9, tz_9, tyq_38, slq_38, tz_38, Nat.reduceAdd, Nat.reduceSub, Nat.reduceMul, Nat.reduceLT, Nat.reduceLeDiff, Nat.reduceEqDiff, Int.reduceToNat, Int.reduceLE, Int.reduceLT, Int.reduceEq, Int.reduceNeg, reduceCtorEq, reduceIte, decide_true, decide_false, List.forall_mem_cons, List.not_mem_nil, false_implies, implies_true, Bool.and_true, Bool.true_and, and_self, Nat.sub_zero, Nat.zero_add, Nat.add_zero, List.length_map]
  refine hK _ ?_; try clear hK K
  refine WC.trim [0, 1, 4, 5, 7, 8, 9, 16] ?_
  simp only [ET, Nat.reduceEqDiff, reduceIte]
  refine WC.b1 ?_
  refine WC.loop (X := Nat) (fun i => ⟨[(8, .int .i64 i), (7, .int .i64 ws.length), (4, .int .i64 0), (0, .slc (ws.map .str)), (1, .str w)], [], [], []⟩)
    (fun i => i ≤ ws.length ∧ ixF w (ws.drop i) i = ixF w ws 0) (fun i => ws.length - i) 0 [] ⟨Nat.zero_le _, rfl⟩ ?_ ?_
  · refine ⟨by simp, by simp (maxSteps := 1000000) only [↓yld_succ, ↓yld_zero, EV, EO, ED, ↓EW, ↓EI, EB, EP, EL, tyq_0, tz_0, tyq_3, inq_3, tz_3, tyq_4, bool_4, tz_4, tyq_9, str_9, tz_9, tyq_38, slq_38, tz_38, Nat.reduceAdd, Nat.reduceSub, Nat.reduceMul, Nat.reduceLT, Nat.reduceLeDiff, Nat.reduceEqDiff, Int.reduceToNat, Int.reduceLE, Int.reduceLT, Int.reduceEq, Int.reduceNeg, reduceCtorEq, reduceIte, decide_true, decide_false, List.forall_mem_cons, List.not_mem_nil, false_implies, implies_true, Bool.and_true, Bool.true_and, and_self, Nat.sub_zero, Nat.zero_add, Nat.add_zero, ER, and_self, strs_closed ws _], by simp (maxSteps := 1000000) only [↓yld_succ, ↓yld_zero, EV, EO, ED, ↓EW, ↓EI, EB, EP, EL, tyq_0, tz_0, tyq_3, inq_3, tz_3, tyq_4, bool_4, tz_4, tyq_9, str_9, tz_9, tyq_38, slq_38, tz_38, Nat.reduceAdd, Nat.reduceSub, Nat.reduceMul, Nat.reduceLT, Nat.reduceLeDiff, Nat.reduceEqDiff, Int.reduceToNat, Int.reduceLE, Int.reduceLT, Int.reduceEq, Int.reduceNeg, reduceCtorEq, reduceIte, decide_true, decide_false, List.forall_mem_cons, List.not_mem_nil, false_implies, implies_true, Bool.and_true, Bool.true_and, and_self, Nat.sub_zero, Nat.zero_add, Nat.add_zero, ER, strs_closed ws _], by simp (maxSteps := 1000000) only [↓yld_succ, ↓yld_zero, EV, EO, ED, ↓EW, ↓EI, EB, EP, EL, tyq_0, tz_0, tyq_3, inq_3, tz_3, tyq_4, bool_4, tz_4, tyq_9, str_9, tz_9, tyq_38, slq_38, tz_38, Nat.reduceAdd, Nat.reduceSub, Nat.reduceMul, Nat.reduceLT, Nat.reduceLeDiff, Nat.reduceEqDiff, Int.reduceToNat, Int.reduceLE, Int.reduceLT, Int.reduceEq, Int.reduceNeg, reduceCtorEq, reduceIte, decide_true, decide_false, List.forall_mem_cons, List.not_mem_nil, false_implies, implies_true, Bool.and_true, Bool.true_and, and_self, Nat.sub_zero, Nat.zero_add, Nat.add_zero, ER, pick, strs_closed ws _], rfl⟩
  · rintro i ⟨h1, h2⟩
    refine WC.rs fun K hK => ?_
    simp (maxSteps := 1000000) only [↓yld_succ, ↓yld_zero, EV, EO, ED, ↓EW, ↓EI, EB, EP, EL, tyq_0, tz_0, tyq_3, inq_3, tz_3, tyq_4, bool_4, tz_4, tyq_9, str_9, tz_9, tyq_38, slq_38, tz_38, Nat.reduceAdd, Nat.reduceSub, Nat.reduceMul, Nat.reduceLT, Nat.reduceLeDiff, Nat.reduceEqDiff, Int.reduceToNat, Int.reduceLE, Int.reduceLT, Int.reduceEq, Int.reduceNeg, reduceCtorEq, reduceIte, decide_true, decide_false, List.forall_mem_cons, List.not_mem_nil, false_implies, implies_true, Bool.and_true, Bool.true_and, and_self, Nat.sub_zero, Nat.zero_add, Nat.add_zero]
    refine hK _ ?_; try clear hK K
    refine WC.trim [0, 1, 4, 5, 7, 8, 9, 16] ?_
    simp only [ET, Nat.reduceEqDiff, reduceIte]
    refine WC.cs (c := .tmp 9) rfl fun K2 hK2 => ⟨fun h => ?_, fun h => ?_⟩
    · have hlt : i < ws.length := by simpa using h
      have hg := gi_map .str ws hlt
      refine WC.skip ?_
      simp only [EQ]
      refine hK2 _ ?_; try clear hK2 K2
      refine WC.bs fun K3 hK3 => ?_
      refine WC.rs fun K hK => ?_
      simp (maxSteps := 1000000) only [↓yld_succ, ↓yld_zero, EV, EO, ED, ↓EW, ↓EI, EB, EP, EL, tyq_0, tz_0, tyq_3, inq_3, tz_3, tyq_4, bool_4, tz_4, tyq_9, str_9, tz_9, tyq_38, slq_38, tz_38, Nat.reduceAdd, Nat.reduceSub, Nat.reduceMul, Nat.reduceLT, Nat.reduceLeDiff, Nat.reduceEqDiff, Int.reduceToNat, Int.reduceLE, Int.reduceLT, Int.reduceEq, Int.reduceNeg, reduceCtorEq, reduceIte, decide_true, decide_false, List.forall_mem_cons, List.not_mem_nil, false_implies, implies_true, Bool.and_true, Bool.true_and, and_self, Nat.sub_zero, Nat.zero_add, Nat.add_zero]
      refine hK _ ?_; try clear hK K
      refine WC.trim [0, 1, 4, 5, 7, 8, 9, 16] ?_
      simp only [ET, Nat.reduceEqDiff, reduceIte]
      refine WC.rs fun K hK => ?_
      simp (maxSteps := 1000000) only [↓yld_succ, ↓yld_zero, EV, EO, ED, ↓EW, ↓EI, EB, EP, EL, tyq_0, tz_0, tyq_3, inq_3, tz_3, tyq_4, bool_4, tz_4, tyq_9, str_9, tz_9, tyq_38, slq_38, tz_38, Nat.reduceAdd, Nat.reduceSub, Nat.reduceMul, Nat.reduceLT, Nat.reduceLeDiff, Nat.reduceEqDiff, Int.reduceToNat, Int.reduceLE, Int.reduceLT, Int.reduceEq, Int.reduceNeg, reduceCtorEq, reduceIte, decide_true, decide_false, List.forall_mem_cons, List.not_mem_nil, false_implies, implies_true, Bool.and_true, Bool.true_and, and_self, Nat.sub_zero, Nat.zero_add, Nat.add_zero, hg, List.length_map]
      repeat refine ⟨by omega, ?_⟩
      refine hK _ ?_; try clear hK K
      refine WC.trim [0, 1, 4, 5, 7, 8, 9, 16] ?_
      simp only [ET, Nat.reduceEqDiff, reduceIte]
      refine WC.cond (c := .tmp 16) rfl (fun h => ?_) (fun h => ?_)
      · have hw : w = ws[i] := by simpa using h
        refine WC.rs fun K hK => ?_
        simp (maxSteps := 1000000) only [↓yld_succ, ↓yld_zero, EV, EO, ED, ↓EW, ↓EI, EB, EP, EL, tyq_0, tz_0, tyq_3, inq_3, tz_3, tyq_4, bool_4, tz_4, tyq_9, str_9, tz_9, tyq_38, slq_38, tz_38, Nat.reduceAdd, Nat.reduceSub, Nat.reduceMul, Nat.reduceLT, Nat.reduceLeDiff, Nat.reduceEqDiff, Int.reduceToNat, Int.reduceLE, Int.reduceLT, Int.reduceEq, Int.reduceNeg, reduceCtorEq, reduceIte, decide_true, decide_false, List.forall_mem_cons, List.not_mem_nil, false_implies, implies_true, Bool.and_true, Bool.true_and, and_self, Nat.sub_zero, Nat.zero_add, Nat.add_zero]
        refine hK _ ?_; try clear hK K
        refine WC.trim [0, 1, 4, 5, 7, 8, 9, 16] ?_
        simp only [ET, Nat.reduceEqDiff, reduceIte]
        refine WC.ret ?_
        simp (maxSteps := 1000000) only [↓yld_succ, ↓yld_zero, EV, EO, ED, ↓EW, ↓EI, EB, EP, EL, tyq_0, tz_0, tyq_3, inq_3, tz_3, tyq_4, bool_4, tz_4, tyq_9, str_9, tz_9, tyq_38, slq_38, tz_38, Nat.reduceAdd, Nat.reduceSub, Nat.reduceMul, Nat.reduceLT, Nat.reduceLeDiff, Nat.reduceEqDiff, Int.reduceToNat, Int.reduceLE, Int.reduceLT, Int.reduceEq, Int.reduceNeg, reduceCtorEq, reduceIte, decide_true, decide_false, List.forall_mem_cons, List.not_mem_nil, false_implies, implies_true, Bool.and_true, Bool.true_and, and_self, Nat.sub_zero, Nat.zero_add, Nat.add_zero, EQ, FnQ, Tryd.results36, wResL, tup, List.reverse_cons, List.reverse_nil, true_and]
        refine endsPure (by simp only [CL]) ?_
        rw [← h2, drop_at hlt, ixF, if_pos hw]
      · have hw : ¬ w = ws[i] := by simpa using h
        refine WC.skip ?_
        try simp only [EQ, reduceIte, Nat.reduceEqDiff]
        refine hK3 _ ?_; try clear hK3 K3
        refine WC.r1 ?_
        simp (maxSteps := 1000000) (disch := omega) only [↓yld_succ, ↓yld_zero, EV, EO, ED, ↓EW, ↓EI, EB, EP, EL, tyq_0, tz_0, tyq_3, inq_3, tz_3, tyq_4, bool_4, tz_4, tyq_9, str_9, tz_9, tyq_38, slq_38, tz_38, Nat.reduceAdd, Nat.reduceSub, Nat.reduceMul, Nat.reduceLT, Nat.reduceLeDiff, Nat.reduceEqDiff, Int.reduceToNat, Int.reduceLE, Int.reduceLT, Int.reduceEq, Int.reduceNeg, reduceCtorEq, reduceIte, decide_true, decide_false, List.forall_mem_cons, List.not_mem_nil, false_implies, implies_true, Bool.and_true, Bool.true_and, and_self, Nat.sub_zero, Nat.zero_add, Nat.add_zero, w64]
        try simp only [EQ, reduceIte, Nat.reduceEqDiff]
        refine ⟨i + 1, [], ⟨by omega, ?_⟩, by omega, ?_⟩
        · rw [← h2, drop_at hlt, ixF, if_neg hw]
        · refine ⟨by simp, by simp (maxSteps := 1000000) only [↓yld_succ, ↓yld_zero, EV, EO, ED, ↓EW, ↓EI, EB, EP, EL, tyq_0, tz_0, tyq_3, inq_3, tz_3, tyq_4, bool_4, tz_4, tyq_9, str_9, tz_9, tyq_38, slq_38, tz_38, Nat.reduceAdd, Nat.reduceSub, Nat.reduceMul, Nat.reduceLT, Nat.reduceLeDiff, Nat.reduceEqDiff, Int.reduceToNat, Int.reduceLE, Int.reduceLT, Int.reduceEq, Int.reduceNeg, reduceCtorEq, reduceIte, decide_true, decide_false, List.forall_mem_cons, List.not_mem_nil, false_implies, implies_true, Bool.and_true, Bool.true_and, and_self, Nat.sub_zero, Nat.zero_add, Nat.add_zero, ER, and_self, Int.natCast_add, strs_closed ws _], by simp (maxSteps := 1000000) only [↓yld_succ, ↓yld_zero, EV, EO, ED, ↓EW, ↓EI, EB, EP, EL, tyq_0, tz_0, tyq_3, inq_3, tz_3, tyq_4, bool_4, tz_4, tyq_9, str_9, tz_9, tyq_38, slq_38, tz_38, Nat.reduceAdd, Nat.reduceSub, Nat.reduceMul, Nat.reduceLT, Nat.reduceLeDiff, Nat.reduceEqDiff, Int.reduceToNat, Int.reduceLE, Int.reduceLT, Int.reduceEq, Int.reduceNeg, reduceCtorEq, reduceIte, decide_true, decide_false, List.forall_mem_cons, List.not_mem_nil, false_implies, implies_true, Bool.and_true, Bool.true_and, and_self, Nat.sub_zero, Nat.zero_add, Nat.add_zero, ER, Int.natCast_add, strs_closed ws _], by simp (maxSteps := 1000000) only [↓yld_succ, ↓yld_zero, EV, EO, ED, ↓EW, ↓EI, EB, EP, EL, tyq_0, tz_0, tyq_3, inq_3, tz_3, tyq_4, bool_4, tz_4, tyq_9, str_9, tz_9, tyq_38, slq_38, tz_38, Nat.reduceAdd, Nat.reduceSub, Nat.reduceMul, Nat.reduceLT, Nat.reduceLeDiff, Nat.reduceEqDiff, Int.reduceToNat, Int.reduceLE, Int.reduceLT, Int.reduceEq, Int.reduceNeg, reduceCtorEq, reduceIte, decide_true, decide_false, List.forall_mem_cons, List.not_mem_nil, false_implies, implies_true, Bool.and_true, Bool.true_and, and_self, Nat.sub_zero, Nat.zero_add, Nat.add_zero, ER, pick, Int.natCast_add, strs_closed ws _], rfl⟩
    · have hge : i = ws.length := by simp at h; omega
      refine WC.exit ?_
      simp only [EQ, reduceIte, Nat.reduceEqDiff]
      try simp only [EQ, reduceIte, Nat.reduceEqDiff]
      refine hK1 _ ?_; try clear hK1 K1
      refine WC.rs fun K hK => ?_
      simp (maxSteps := 1000000) only [↓yld_succ, ↓yld_zero, EV, EO, ED, ↓EW, ↓EI, EB, EP, EL, tyq_0, tz_0, tyq_3, inq_3, tz_3, tyq_4, bool_4, tz_4, tyq_9, str_9, tz_9, tyq_38, slq_38, tz_38, Nat.reduceAdd, Nat.reduceSub, Nat.reduceMul, Nat.reduceLT, Nat.reduceLeDiff, Nat.reduceEqDiff, Int.reduceToNat, Int.reduceLE, Int.reduceLT, Int.reduceEq, Int.reduceNeg, reduceCtorEq, reduceIte, decide_true, decide_false, List.forall_mem_cons, List.not_mem_nil, false_implies, implies_true, Bool.and_true, Bool.true_and, and_self, Nat.sub_zero, Nat.zero_add, Nat.add_zero]
      refine hK _ ?_; try clear hK K
      refine WC.trim [0, 1, 4, 5, 7, 8, 9, 16] ?_
      simp only [ET, Nat.reduceEqDiff, reduceIte]
      refine WC.ret ?_
      simp (maxSteps := 1000000) only [↓yld_succ, ↓yld_zero, EV, EO, ED, ↓EW, ↓EI, EB, EP, EL, tyq_0, tz_0, tyq_3, inq_3, tz_3, tyq_4, bool_4, tz_4, tyq_9, str_9, tz_9, tyq_38, slq_38, tz_38, Nat.reduceAdd, Nat.reduceSub, Nat.reduceMul, Nat.reduceLT, Nat.reduceLeDiff, Nat.reduceEqDiff, Int.reduceToNat, Int.reduceLE, Int.reduceLT, Int.reduceEq, Int.reduceNeg, reduceCtorEq, reduceIte, decide_true, decide_false, List.forall_mem_cons, List.not_mem_nil, false_implies, implies_true, Bool.and_true, Bool.true_and, and_self, Nat.sub_zero, Nat.zero_add, Nat.add_zero, EQ, FnQ, Tryd.results36, wResL, tup, List.reverse_cons, List.reverse_nil, true_and]
      refine endsPure (by simp only [CL]) ?_
      rw [← h2, hge, List.drop_length]; rfl

theorem contains_sem (ws : List (List UInt8)) (w : List UInt8) (hl : ws.length ≤ 1000) : FSem C 27 [.slc (ws.map .str), .str w] [] fun r st => r = .ret (.bool (decide (w ∈ ws))) ∧ st = [] := by
  refine FSem.enter' (C := C) (n := 9) Tryd.func27 rfl rfl ok_27 (by simp) ?_
  simp only [argEnv]
  refine WC.rs fun K hK => ?_
  simp (maxSteps := 1000000) only [↓yld_succ, ↓yld_zero, EV, EO, ED, ↓EW, ↓EI, EB, EP, EL, tyq_3, inq_3, tz_3, tyq_4, bool_4, tz_4, tyq_9, str_9, tz_9, tyq_38, slq_38, tz_38, Nat.reduceAdd, Nat.reduceSub, Nat.reduceMul, Nat.reduceLT, Nat.reduceLeDiff, Nat.reduceEqDiff, Int.reduceToNat, Int.reduceLE, Int.reduceLT, Int.reduceEq, Int.reduceNeg, reduceCtorEq, reduceIte, decide_true, decide_false, List.forall_mem_cons, List.not_mem_nil, false_implies, implies_true, Bool.and_true, Bool.true_and, and_self, Nat.sub_zero, Nat.zero_add, Nat.add_zero]
  refine hK _ ?_; try clear hK K
  refine WC.trim [0, 1, 4] ?_
  simp only [ET, Nat.reduceEqDiff, reduceIte]
  refine WC.rs fun K hK => ?_
  simp (maxSteps := 1000000) only [↓yld_succ, ↓yld_zero, EV, EO, ED, ↓EW, ↓EI, EB, EP, EL, tyq_3, inq_3, tz_3, tyq_4, bool_4, tz_4, tyq_9, str_9, tz_9, tyq_38, slq_38, tz_38, Nat.reduceAdd, Nat.reduceSub, Nat.reduceMul, Nat.reduceLT, Nat.reduceLeDiff, Nat.reduceEqDiff, Int.reduceToNat, Int.reduceLE, Int.reduceLT, Int.reduceEq, Int.reduceNeg, reduceCtorEq, reduceIte, decide_true, decide_false, List.forall_mem_cons, List.not_mem_nil, false_implies, implies_true, Bool.and_true, Bool.true_and, and_self, Nat.sub_zero, Nat.zero_add, Nat.add_zero]
  refine CallX.mk (CallW.pure (index_sem ws w hl) (by simp only [CL, and_self, strs_closed]) (by simp only [CL]) ?_)
  simp (maxSteps := 1000000) only [↓yld_succ, ↓yld_zero, EV, EO, ED, ↓EW, ↓EI, EB, EP, EL, tyq_3, inq_3, tz_3, tyq_4, bool_4, tz_4, tyq_9, str_9, tz_9, tyq_38, slq_38, tz_38, Nat.reduceAdd, Nat.reduceSub, Nat.reduceMul, Nat.reduceLT, Nat.reduceLeDiff, Nat.reduceEqDiff, Int.reduceToNat, Int.reduceLE, Int.reduceLT, Int.reduceEq, Int.reduceNeg, reduceCtorEq, reduceIte, decide_true, decide_false, List.forall_mem_cons, List.not_mem_nil, false_implies, implies_true, Bool.and_true, Bool.true_and, and_self, Nat.sub_zero, Nat.zero_add, Nat.add_zero]
  refine hK _ ?_; try clear hK K
  refine WC.trim [0, 1, 4] ?_
  simp only [ET, Nat.reduceEqDiff, reduceIte]
  refine WC.ret ?_
  simp (maxSteps := 1000000) only [↓yld_succ, ↓yld_zero, EV, EO, ED, ↓EW, ↓EI, EB, EP, EL, tyq_3, inq_3, tz_3, tyq_4, bool_4, tz_4, tyq_9, str_9, tz_9, tyq_38, slq_38, tz_38, Nat.reduceAdd, Nat.reduceSub, Nat.reduceMul, Nat.reduceLT, Nat.reduceLeDiff, Nat.reduceEqDiff, Int.reduceToNat, Int.reduceLE, Int.reduceLT, Int.reduceEq, Int.reduceNeg, reduceCtorEq, reduceIte, decide_true, decide_false, List.forall_mem_cons, List.not_mem_nil, false_implies, implies_true, Bool.and_true, Bool.true_and, and_self, Nat.sub_zero, Nat.zero_add, Nat.add_zero, EQ, FnQ, Tryd.results27, wResL, tup, List.reverse_cons, List.reverse_nil, true_and]
  refine endsPure (by simp only [CL]) ?_
  rw [ixF_mem]

/-- The words of the language. -/
def kws : List (List UInt8) := [[112, 97, 114, 97, 109], [102, 117, 110, 99], [113, 117, 101, 114, 121], [118, 97, 114], [114, 101, 116, 117, 114, 110], [98, 111, 111, 108], [105, 110, 116], [110, 97, 116], [114, 101, 97, 108], [108, 105, 115, 116], [105, 102], [101, 108, 115, 101], [114, 101, 112, 101, 97, 116], [119, 104, 105, 108, 101], [111, 98, 115, 101, 114, 118, 101], [119, 101, 105, 103, 104, 116], [116, 114, 117, 101], [102, 97, 108, 115, 101], [108, 101, 110], [112, 117, 115, 104], [102, 108, 105, 112], [117, 110, 105, 102, 111, 114, 109], [116, 97, 98, 108, 101], [98, 105, 110, 111, 109, 105, 97, 108], [103, 101, 111, 109, 101, 116, 114, 105, 99], [105, 110, 116, 101, 114, 118, 97, 108], [98, 101, 116, 97], [112, 111, 115, 116, 101, 114, 105, 111, 114]]

theorem keyword_sem (w : List UInt8) : FSem C 34 [.str w] [] fun r st => r = .ret (.bool (decide (w ∈ kws))) ∧ st = [] := by
  have hkl : kws.length = 28 := rfl
  refine FSem.enter' (C := C) (n := 18) Tryd.func34 rfl rfl ok_34 (by simp) ?_
  simp only [argEnv]
  refine WC.rs fun K hK => ?_
  simp (maxSteps := 1000000) only [↓yld_succ, ↓yld_zero, EV, EO, ED, ↓EW, ↓EI, EB, EP, EL, tyq_0, tz_0, tyq_3, inq_3, tz_3, tyq_4, bool_4, tz_4, tyq_9, str_9, tz_9, tyq_38, slq_38, tz_38, Nat.reduceAdd, Nat.reduceSub, Nat.reduceMul, Nat.reduceLT, Nat.reduceLeDiff, Nat.reduceEqDiff, Int.reduceToNat, Int.reduceLE, Int.reduceLT, Int.reduceEq, Int.reduceNeg, reduceCtorEq, reduceIte, decide_true, decide_false, List.forall_mem_cons, List.not_mem_nil, false_implies, implies_true, Bool.and_true, Bool.true_and, and_self, Nat.sub_zero, Nat.zero_add, Nat.add_zero]
  refine hK _ ?_; try clear hK K
  refine WC.trim [0, 2, 3, 4, 9, 17] ?_
  simp only [ET, Nat.reduceEqDiff, reduceIte]
  refine WC.rs fun K hK => ?_
  simp (maxSteps := 1000000) only [↓yld_succ, ↓yld_zero, EV, EO, ED, ↓EW, ↓EI, EB, EP, EL, tyq_0, tz_0, tyq_3, inq_3, tz_3, tyq_4, bool_4, tz_4, tyq_9, str_9, tz_9, tyq_38, slq_38, tz_38, Nat.reduceAdd, Nat.reduceSub, Nat.reduceMul, Nat.reduceLT, Nat.reduceLeDiff, Nat.reduceEqDiff, Int.reduceToNat, Int.reduceLE, Int.reduceLT, Int.reduceEq, Int.reduceNeg, reduceCtorEq, reduceIte, decide_true, decide_false, List.forall_mem_cons, List.not_mem_nil, false_implies, implies_true, Bool.and_true, Bool.true_and, and_self, Nat.sub_zero, Nat.zero_add, Nat.add_zero]
  refine hK _ ?_; try clear hK K
  refine WC.trim [0, 2, 3, 4, 9, 17] ?_
  simp only [ET, Nat.reduceEqDiff, reduceIte]
  refine WC.sK fun K1 hK1 => ?_
  refine WC.rs fun K hK => ?_
  simp (maxSteps := 1000000) only [↓yld_succ, ↓yld_zero, EV, EO, ED, ↓EW, ↓EI, EB, EP, EL, tyq_0, tz_0, tyq_3, inq_3, tz_3, tyq_4, bool_4, tz_4, tyq_9, str_9, tz_9, tyq_38, slq_38, tz_38, Nat.reduceAdd, Nat.reduceSub, Nat.reduceMul, Nat.reduceLT, Nat.reduceLeDiff, Nat.reduceEqDiff, Int.reduceToNat, Int.reduceLE, Int.reduceLT, Int.reduceEq, Int.reduceNeg, reduceCtorEq, reduceIte, decide_true, decide_false, List.forall_mem_cons, List.not_mem_nil, false_implies, implies_true, Bool.and_true, Bool.true_and, and_self, Nat.sub_zero, Nat.zero_add, Nat.add_zero]
  refine hK _ ?_; try clear hK K
  refine WC.trim [0, 2, 3, 4, 9, 17] ?_
  simp only [ET, Nat.reduceEqDiff, reduceIte]
  refine WC.b1 ?_
  refine WC.loop (X := Nat) (fun i => ⟨[(4, .int .i64 i), (3, .ref (.l 0) 0 28), (2, .bool false), (0, .str w)], [], [.row (kws.map .str) 1 9], []⟩)
    (fun i => i ≤ 28 ∧ (w ∈ kws.drop i ↔ w ∈ kws)) (fun i => 28 - i) 0 [0] ⟨Nat.zero_le _, Iff.rfl⟩ ?_ ?_
  · refine ⟨by simp, by simp (maxSteps := 1000000) only [↓yld_succ, ↓yld_zero, EV, EO, ED, ↓EW, ↓EI, EB, EP, EL, tyq_0, tz_0, tyq_3, inq_3, tz_3, tyq_4, bool_4, tz_4, tyq_9, str_9, tz_9, tyq_38, slq_38, tz_38, Nat.reduceAdd, Nat.reduceSub, Nat.reduceMul, Nat.reduceLT, Nat.reduceLeDiff, Nat.reduceEqDiff, Int.reduceToNat, Int.reduceLE, Int.reduceLT, Int.reduceEq, Int.reduceNeg, reduceCtorEq, reduceIte, decide_true, decide_false, List.forall_mem_cons, List.not_mem_nil, false_implies, implies_true, Bool.and_true, Bool.true_and, and_self, Nat.sub_zero, Nat.zero_add, Nat.add_zero, ER, and_self, kws], by simp (maxSteps := 1000000) only [↓yld_succ, ↓yld_zero, EV, EO, ED, ↓EW, ↓EI, EB, EP, EL, tyq_0, tz_0, tyq_3, inq_3, tz_3, tyq_4, bool_4, tz_4, tyq_9, str_9, tz_9, tyq_38, slq_38, tz_38, Nat.reduceAdd, Nat.reduceSub, Nat.reduceMul, Nat.reduceLT, Nat.reduceLeDiff, Nat.reduceEqDiff, Int.reduceToNat, Int.reduceLE, Int.reduceLT, Int.reduceEq, Int.reduceNeg, reduceCtorEq, reduceIte, decide_true, decide_false, List.forall_mem_cons, List.not_mem_nil, false_implies, implies_true, Bool.and_true, Bool.true_and, and_self, Nat.sub_zero, Nat.zero_add, Nat.add_zero, ER, kws], by simp (maxSteps := 1000000) only [↓yld_succ, ↓yld_zero, EV, EO, ED, ↓EW, ↓EI, EB, EP, EL, tyq_0, tz_0, tyq_3, inq_3, tz_3, tyq_4, bool_4, tz_4, tyq_9, str_9, tz_9, tyq_38, slq_38, tz_38, Nat.reduceAdd, Nat.reduceSub, Nat.reduceMul, Nat.reduceLT, Nat.reduceLeDiff, Nat.reduceEqDiff, Int.reduceToNat, Int.reduceLE, Int.reduceLT, Int.reduceEq, Int.reduceNeg, reduceCtorEq, reduceIte, decide_true, decide_false, List.forall_mem_cons, List.not_mem_nil, false_implies, implies_true, Bool.and_true, Bool.true_and, and_self, Nat.sub_zero, Nat.zero_add, Nat.add_zero, ER, pick, kws], rfl⟩
  · rintro i ⟨h1, h2⟩
    refine WC.sK fun K2 hK2 => ?_
    refine WC.rs fun K hK => ?_
    simp (maxSteps := 1000000) only [↓yld_succ, ↓yld_zero, EV, EO, ED, ↓EW, ↓EI, EB, EP, EL, tyq_0, tz_0, tyq_3, inq_3, tz_3, tyq_4, bool_4, tz_4, tyq_9, str_9, tz_9, tyq_38, slq_38, tz_38, Nat.reduceAdd, Nat.reduceSub, Nat.reduceMul, Nat.reduceLT, Nat.reduceLeDiff, Nat.reduceEqDiff, Int.reduceToNat, Int.reduceLE, Int.reduceLT, Int.reduceEq, Int.reduceNeg, reduceCtorEq, reduceIte, decide_true, decide_false, List.forall_mem_cons, List.not_mem_nil, false_implies, implies_true, Bool.and_true, Bool.true_and, and_self, Nat.sub_zero, Nat.zero_add, Nat.add_zero]
    refine hK _ ?_; try clear hK K
    refine WC.trim [0, 2, 3, 4, 9, 17] ?_
    simp only [ET, Nat.reduceEqDiff, reduceIte]
    refine WC.cond (c := .tmp 9) rfl (fun h => ?_) (fun h => ?_)
    · have hlt : i < kws.length := by rw [hkl]; simp at h; omega
      have hg : (kws.map PVal.str)[i]? = some (.str kws[i]) := by simp [hlt]
      refine WC.skip ?_
      try simp only [EQ, reduceIte, Nat.reduceEqDiff]
      refine hK2 _ ?_; try clear hK2 K2
      refine WC.bs fun K3 hK3 => ?_
      refine WC.rs fun K hK => ?_
      simp (maxSteps := 1000000) only [↓yld_succ, ↓yld_zero, EV, EO, ED, ↓EW, ↓EI, EB, EP, EL, tyq_0, tz_0, tyq_3, inq_3, tz_3, tyq_4, bool_4, tz_4, tyq_9, str_9, tz_9, tyq_38, slq_38, tz_38, Nat.reduceAdd, Nat.reduceSub, Nat.reduceMul, Nat.reduceLT, Nat.reduceLeDiff, Nat.reduceEqDiff, Int.reduceToNat, Int.reduceLE, Int.reduceLT, Int.reduceEq, Int.reduceNeg, reduceCtorEq, reduceIte, decide_true, decide_false, List.forall_mem_cons, List.not_mem_nil, false_implies, implies_true, Bool.and_true, Bool.true_and, and_self, Nat.sub_zero, Nat.zero_add, Nat.add_zero, hg]
      repeat refine ⟨by omega, ?_⟩
      refine hK _ ?_; try clear hK K
      refine WC.trim [0, 2, 3, 4, 9, 17] ?_
      simp only [ET, Nat.reduceEqDiff, reduceIte]
      refine WC.cond (c := .tmp 17) rfl (fun h => ?_) (fun h => ?_)
      · have hw : kws[i] = w := by simpa using h
        refine WC.rs fun K hK => ?_
        simp (maxSteps := 1000000) only [↓yld_succ, ↓yld_zero, EV, EO, ED, ↓EW, ↓EI, EB, EP, EL, tyq_0, tz_0, tyq_3, inq_3, tz_3, tyq_4, bool_4, tz_4, tyq_9, str_9, tz_9, tyq_38, slq_38, tz_38, Nat.reduceAdd, Nat.reduceSub, Nat.reduceMul, Nat.reduceLT, Nat.reduceLeDiff, Nat.reduceEqDiff, Int.reduceToNat, Int.reduceLE, Int.reduceLT, Int.reduceEq, Int.reduceNeg, reduceCtorEq, reduceIte, decide_true, decide_false, List.forall_mem_cons, List.not_mem_nil, false_implies, implies_true, Bool.and_true, Bool.true_and, and_self, Nat.sub_zero, Nat.zero_add, Nat.add_zero]
        refine hK _ ?_; try clear hK K
        refine WC.trim [0, 2, 3, 4, 9, 17] ?_
        simp only [ET, Nat.reduceEqDiff, reduceIte]
        refine WC.ret ?_
        simp (maxSteps := 1000000) only [↓yld_succ, ↓yld_zero, EV, EO, ED, ↓EW, ↓EI, EB, EP, EL, tyq_0, tz_0, tyq_3, inq_3, tz_3, tyq_4, bool_4, tz_4, tyq_9, str_9, tz_9, tyq_38, slq_38, tz_38, Nat.reduceAdd, Nat.reduceSub, Nat.reduceMul, Nat.reduceLT, Nat.reduceLeDiff, Nat.reduceEqDiff, Int.reduceToNat, Int.reduceLE, Int.reduceLT, Int.reduceEq, Int.reduceNeg, reduceCtorEq, reduceIte, decide_true, decide_false, List.forall_mem_cons, List.not_mem_nil, false_implies, implies_true, Bool.and_true, Bool.true_and, and_self, Nat.sub_zero, Nat.zero_add, Nat.add_zero, EQ, FnQ, Tryd.results34, wResL, tup, List.reverse_cons, List.reverse_nil, true_and]
        refine endsPure (by simp only [CL]) ?_
        simp [← hw]
      · have hw : ¬ kws[i] = w := by simpa using h
        refine WC.skip ?_
        try simp only [EQ, reduceIte, Nat.reduceEqDiff]
        refine hK3 _ ?_; try clear hK3 K3
        refine WC.r1 ?_
        simp (maxSteps := 1000000) (disch := omega) only [↓yld_succ, ↓yld_zero, EV, EO, ED, ↓EW, ↓EI, EB, EP, EL, tyq_0, tz_0, tyq_3, inq_3, tz_3, tyq_4, bool_4, tz_4, tyq_9, str_9, tz_9, tyq_38, slq_38, tz_38, Nat.reduceAdd, Nat.reduceSub, Nat.reduceMul, Nat.reduceLT, Nat.reduceLeDiff, Nat.reduceEqDiff, Int.reduceToNat, Int.reduceLE, Int.reduceLT, Int.reduceEq, Int.reduceNeg, reduceCtorEq, reduceIte, decide_true, decide_false, List.forall_mem_cons, List.not_mem_nil, false_implies, implies_true, Bool.and_true, Bool.true_and, and_self, Nat.sub_zero, Nat.zero_add, Nat.add_zero, w64]
        try simp only [EQ, reduceIte, Nat.reduceEqDiff]
        refine ⟨i + 1, [0], ⟨by omega, ?_⟩, by omega, ?_⟩
        · rw [← h2, drop_at hlt]
          rw [List.mem_cons]; exact ⟨fun h => .inr h, fun h => h.elim (fun e => absurd e.symm hw) id⟩
        · refine ⟨by simp, by simp (maxSteps := 1000000) only [↓yld_succ, ↓yld_zero, EV, EO, ED, ↓EW, ↓EI, EB, EP, EL, tyq_0, tz_0, tyq_3, inq_3, tz_3, tyq_4, bool_4, tz_4, tyq_9, str_9, tz_9, tyq_38, slq_38, tz_38, Nat.reduceAdd, Nat.reduceSub, Nat.reduceMul, Nat.reduceLT, Nat.reduceLeDiff, Nat.reduceEqDiff, Int.reduceToNat, Int.reduceLE, Int.reduceLT, Int.reduceEq, Int.reduceNeg, reduceCtorEq, reduceIte, decide_true, decide_false, List.forall_mem_cons, List.not_mem_nil, false_implies, implies_true, Bool.and_true, Bool.true_and, and_self, Nat.sub_zero, Nat.zero_add, Nat.add_zero, ER, and_self, Int.natCast_add, strs_closed kws _], by simp (maxSteps := 1000000) only [↓yld_succ, ↓yld_zero, EV, EO, ED, ↓EW, ↓EI, EB, EP, EL, tyq_0, tz_0, tyq_3, inq_3, tz_3, tyq_4, bool_4, tz_4, tyq_9, str_9, tz_9, tyq_38, slq_38, tz_38, Nat.reduceAdd, Nat.reduceSub, Nat.reduceMul, Nat.reduceLT, Nat.reduceLeDiff, Nat.reduceEqDiff, Int.reduceToNat, Int.reduceLE, Int.reduceLT, Int.reduceEq, Int.reduceNeg, reduceCtorEq, reduceIte, decide_true, decide_false, List.forall_mem_cons, List.not_mem_nil, false_implies, implies_true, Bool.and_true, Bool.true_and, and_self, Nat.sub_zero, Nat.zero_add, Nat.add_zero, ER, Int.natCast_add, strs_closed kws _], by simp (maxSteps := 1000000) only [↓yld_succ, ↓yld_zero, EV, EO, ED, ↓EW, ↓EI, EB, EP, EL, tyq_0, tz_0, tyq_3, inq_3, tz_3, tyq_4, bool_4, tz_4, tyq_9, str_9, tz_9, tyq_38, slq_38, tz_38, Nat.reduceAdd, Nat.reduceSub, Nat.reduceMul, Nat.reduceLT, Nat.reduceLeDiff, Nat.reduceEqDiff, Int.reduceToNat, Int.reduceLE, Int.reduceLT, Int.reduceEq, Int.reduceNeg, reduceCtorEq, reduceIte, decide_true, decide_false, List.forall_mem_cons, List.not_mem_nil, false_implies, implies_true, Bool.and_true, Bool.true_and, and_self, Nat.sub_zero, Nat.zero_add, Nat.add_zero, ER, pick, Int.natCast_add, strs_closed kws _], rfl⟩
    · have hge : i = 28 := by simp at h; omega
      refine WC.exit ?_
      simp only [EQ, reduceIte, Nat.reduceEqDiff]
      try simp only [EQ, reduceIte, Nat.reduceEqDiff]
      refine hK1 _ ?_; try clear hK1 K1
      refine WC.rs fun K hK => ?_
      simp (maxSteps := 1000000) only [↓yld_succ, ↓yld_zero, EV, EO, ED, ↓EW, ↓EI, EB, EP, EL, tyq_0, tz_0, tyq_3, inq_3, tz_3, tyq_4, bool_4, tz_4, tyq_9, str_9, tz_9, tyq_38, slq_38, tz_38, Nat.reduceAdd, Nat.reduceSub, Nat.reduceMul, Nat.reduceLT, Nat.reduceLeDiff, Nat.reduceEqDiff, Int.reduceToNat, Int.reduceLE, Int.reduceLT, Int.reduceEq, Int.reduceNeg, reduceCtorEq, reduceIte, decide_true, decide_false, List.forall_mem_cons, List.not_mem_nil, false_implies, implies_true, Bool.and_true, Bool.true_and, and_self, Nat.sub_zero, Nat.zero_add, Nat.add_zero]
      refine hK _ ?_; try clear hK K
      refine WC.trim [0, 2, 3, 4, 9, 17] ?_
      simp only [ET, Nat.reduceEqDiff, reduceIte]
      refine WC.ret ?_
      simp (maxSteps := 1000000) only [↓yld_succ, ↓yld_zero, EV, EO, ED, ↓EW, ↓EI, EB, EP, EL, tyq_0, tz_0, tyq_3, inq_3, tz_3, tyq_4, bool_4, tz_4, tyq_9, str_9, tz_9, tyq_38, slq_38, tz_38, Nat.reduceAdd, Nat.reduceSub, Nat.reduceMul, Nat.reduceLT, Nat.reduceLeDiff, Nat.reduceEqDiff, Int.reduceToNat, Int.reduceLE, Int.reduceLT, Int.reduceEq, Int.reduceNeg, reduceCtorEq, reduceIte, decide_true, decide_false, List.forall_mem_cons, List.not_mem_nil, false_implies, implies_true, Bool.and_true, Bool.true_and, and_self, Nat.sub_zero, Nat.zero_add, Nat.add_zero, EQ, FnQ, Tryd.results34, wResL, tup, List.reverse_cons, List.reverse_nil, true_and]
      refine endsPure (by simp only [CL]) ?_
      have : w ∉ kws := by
        rw [← h2, hge, ← hkl, List.drop_length]; simp
      simp [this]
end Go.LexSem
