import Derived.Test.YtednoahjadghnaaDoorLexF
set_option linter.unusedSimpArgs false
set_option linter.unusedVariables false
set_option linter.loopingSimpArgs false
namespace Go.LexSem
open Go Go.V Go.Proofs

def twos : List (List UInt8) := [[58, 61], [61, 61], [33, 61], [60, 61], [62, 61], [38, 38], [124, 124]]
def ones : List UInt8 := [126, 60, 62, 43, 45, 42, 47, 40, 41, 91, 93, 123, 125, 44, 59, 58, 63, 46, 33]
def oneNums : List Int := ones.map fun b => (b.toNat : Int)
theorem gb_at {s : List UInt8} {i : Nat} (h : i < s.length) : gb s i = (s[i].toNat : Int) := by simp [gb, List.getD_eq_getElem?_getD, h]
theorem gb_ones {i : Nat} (h : i < 19) : ∃ r, oneNums.drop i = gb ones i :: r ∧ r = oneNums.drop (i + 1) := by
  have h1 : i < oneNums.length := h
  have h2 : i < ones.length := h
  have e : oneNums[i]'h1 = gb ones i := by
    rw [gb_at h2]
    simp only [oneNums, List.getElem_map]
  refine ⟨_, ?_, rfl⟩
  rw [← e]
  exact drop_at h1
/-- How long the sign is that stands first. -/
def signF (s : List UInt8) : Nat := if 2 ≤ s.length ∧ s.take 2 ∈ twos then 2 else if gb s 0 ∈ oneNums then 1 else 0

theorem sign_sem (s : List UInt8) (hs : s.length ≤ 8192) (h0 : 0 < s.length) : FSem C 35 [.str s] [] fun r st => r = .ret (.int .i64 (signF s)) ∧ st = [] := by
  have h2l : twos.length = 7 := rfl
  refine FSem.enter' (C := C) (n := 36) Tryd.func35 rfl rfl ok_35 (by simp) ?_
  simp only [argEnv]
  refine WC.rs fun K hK => ?_
  simp (maxSteps := 1000000) only [↓yld_succ, ↓yld_zero, EV, EO, ED, ↓EW, ↓EI, EB, EP, EL, tyq_0, tz_0, tyq_3, inq_3, tz_3, tyq_4, bool_4, tz_4, tyq_5, inq_5, tz_5, tyq_9, str_9, tz_9, tyq_38, slq_38, tz_38, Nat.reduceAdd, Nat.reduceSub, Nat.reduceMul, Nat.reduceLT, Nat.reduceLeDiff, Nat.reduceEqDiff, Int.reduceToNat, Int.reduceLE, Int.reduceLT, Int.reduceEq, Int.reduceNeg, reduceCtorEq, reduceIte, decide_true, decide_false, List.forall_mem_cons, List.not_mem_nil, false_implies, implies_true, Bool.and_true, Bool.true_and, and_self, Nat.sub_zero, Nat.zero_add, Nat.add_zero]
  refine hK _ ?_; try clear hK K
  refine WC.trim [0, 2, 3, 4, 5, 6, 9, 14, 23, 27, 35] ?_
  simp only [ET, Nat.reduceEqDiff, reduceIte]
  refine WC.sj (¬ (2 ≤ s.length ∧ s.take 2 ∈ twos)) ⟨[(2, .int .i64 0), (0, .str s)], [], [], []⟩ ?_ fun hnot => ?_
  · refine WC.rs fun K hK => ?_
    simp (maxSteps := 1000000) only [↓yld_succ, ↓yld_zero, EV, EO, ED, ↓EW, ↓EI, EB, EP, EL, tyq_0, tz_0, tyq_3, inq_3, tz_3, tyq_4, bool_4, tz_4, tyq_5, inq_5, tz_5, tyq_9, str_9, tz_9, tyq_38, slq_38, tz_38, Nat.reduceAdd, Nat.reduceSub, Nat.reduceMul, Nat.reduceLT, Nat.reduceLeDiff, Nat.reduceEqDiff, Int.reduceToNat, Int.reduceLE, Int.reduceLT, Int.reduceEq, Int.reduceNeg, reduceCtorEq, reduceIte, decide_true, decide_false, List.forall_mem_cons, List.not_mem_nil, false_implies, implies_true, Bool.and_true, Bool.true_and, and_self, Nat.sub_zero, Nat.zero_add, Nat.add_zero]
    refine hK _ ?_; try clear hK K
    refine WC.trim [0, 2, 3, 4, 5, 6, 9, 14, 23, 27, 35] ?_
    simp only [ET, Nat.reduceEqDiff, reduceIte]
    refine WC.cond (c := .tmp 9) rfl (fun h => ?_) (fun h => ?_)
    · have hl2 : 2 ≤ s.length := by simp at h; omega
      refine WC.rs fun K hK => ?_
      simp (maxSteps := 1000000) only [↓yld_succ, ↓yld_zero, EV, EO, ED, ↓EW, ↓EI, EB, EP, EL, tyq_0, tz_0, tyq_3, inq_3, tz_3, tyq_4, bool_4, tz_4, tyq_5, inq_5, tz_5, tyq_9, str_9, tz_9, tyq_38, slq_38, tz_38, Nat.reduceAdd, Nat.reduceSub, Nat.reduceMul, Nat.reduceLT, Nat.reduceLeDiff, Nat.reduceEqDiff, Int.reduceToNat, Int.reduceLE, Int.reduceLT, Int.reduceEq, Int.reduceNeg, reduceCtorEq, reduceIte, decide_true, decide_false, List.forall_mem_cons, List.not_mem_nil, false_implies, implies_true, Bool.and_true, Bool.true_and, and_self, Nat.sub_zero, Nat.zero_add, Nat.add_zero]
      refine hK _ ?_; try clear hK K
      refine WC.trim [0, 2, 3, 4, 5, 6, 9, 14, 23, 27, 35] ?_
      simp only [ET, Nat.reduceEqDiff, reduceIte]
      refine WC.rs fun K hK => ?_
      simp (maxSteps := 1000000) only [↓yld_succ, ↓yld_zero, EV, EO, ED, ↓EW, ↓EI, EB, EP, EL, tyq_0, tz_0, tyq_3, inq_3, tz_3, tyq_4, bool_4, tz_4, tyq_5, inq_5, tz_5, tyq_9, str_9, tz_9, tyq_38, slq_38, tz_38, Nat.reduceAdd, Nat.reduceSub, Nat.reduceMul, Nat.reduceLT, Nat.reduceLeDiff, Nat.reduceEqDiff, Int.reduceToNat, Int.reduceLE, Int.reduceLT, Int.reduceEq, Int.reduceNeg, reduceCtorEq, reduceIte, decide_true, decide_false, List.forall_mem_cons, List.not_mem_nil, false_implies, implies_true, Bool.and_true, Bool.true_and, and_self, Nat.sub_zero, Nat.zero_add, Nat.add_zero]
      refine hK _ ?_; try clear hK K
      refine WC.trim [0, 2, 3, 4, 5, 6, 9, 14, 23, 27, 35] ?_
      simp only [ET, Nat.reduceEqDiff, reduceIte]
      refine WC.b1 ?_
      refine WC.loop (X := Nat) (fun i => ⟨[(4, .int .i64 i), (3, .ref (.l 0) 0 7), (2, .int .i64 0), (0, .str s)], [], [.row (twos.map .str) 1 9], []⟩)
        (fun i => i ≤ 7 ∧ (s.take 2 ∈ twos.drop i ↔ s.take 2 ∈ twos)) (fun i => 7 - i) 0 [0] ⟨Nat.zero_le _, Iff.rfl⟩ ?_ ?_
      · refine ⟨by simp, by simp (maxSteps := 1000000) only [↓yld_succ, ↓yld_zero, EV, EO, ED, ↓EW, ↓EI, EB, EP, EL, tyq_0, tz_0, tyq_3, inq_3, tz_3, tyq_4, bool_4, tz_4, tyq_5, inq_5, tz_5, tyq_9, str_9, tz_9, tyq_38, slq_38, tz_38, Nat.reduceAdd, Nat.reduceSub, Nat.reduceMul, Nat.reduceLT, Nat.reduceLeDiff, Nat.reduceEqDiff, Int.reduceToNat, Int.reduceLE, Int.reduceLT, Int.reduceEq, Int.reduceNeg, reduceCtorEq, reduceIte, decide_true, decide_false, List.forall_mem_cons, List.not_mem_nil, false_implies, implies_true, Bool.and_true, Bool.true_and, and_self, Nat.sub_zero, Nat.zero_add, Nat.add_zero, ER, and_self, twos], by simp (maxSteps := 1000000) only [↓yld_succ, ↓yld_zero, EV, EO, ED, ↓EW, ↓EI, EB, EP, EL, tyq_0, tz_0, tyq_3, inq_3, tz_3, tyq_4, bool_4, tz_4, tyq_5, inq_5, tz_5, tyq_9, str_9, tz_9, tyq_38, slq_38, tz_38, Nat.reduceAdd, Nat.reduceSub, Nat.reduceMul, Nat.reduceLT, Nat.reduceLeDiff, Nat.reduceEqDiff, Int.reduceToNat, Int.reduceLE, Int.reduceLT, Int.reduceEq, Int.reduceNeg, reduceCtorEq, reduceIte, decide_true, decide_false, List.forall_mem_cons, List.not_mem_nil, false_implies, implies_true, Bool.and_true, Bool.true_and, and_self, Nat.sub_zero, Nat.zero_add, Nat.add_zero, ER, twos], by simp (maxSteps := 1000000) only [↓yld_succ, ↓yld_zero, EV, EO, ED, ↓EW, ↓EI, EB, EP, EL, tyq_0, tz_0, tyq_3, inq_3, tz_3, tyq_4, bool_4, tz_4, tyq_5, inq_5, tz_5, tyq_9, str_9, tz_9, tyq_38, slq_38, tz_38, Nat.reduceAdd, Nat.reduceSub, Nat.reduceMul, Nat.reduceLT, Nat.reduceLeDiff, Nat.reduceEqDiff, Int.reduceToNat, Int.reduceLE, Int.reduceLT, Int.reduceEq, Int.reduceNeg, reduceCtorEq, reduceIte, decide_true, decide_false, List.forall_mem_cons, List.not_mem_nil, false_implies, implies_true, Bool.and_true, Bool.true_and, and_self, Nat.sub_zero, Nat.zero_add, Nat.add_zero, ER, pick, twos], rfl⟩
      · rintro i ⟨h1, h2⟩
        refine WC.sK fun K2 hK2 => ?_
        refine WC.rs fun K hK => ?_
        simp (maxSteps := 1000000) only [↓yld_succ, ↓yld_zero, EV, EO, ED, ↓EW, ↓EI, EB, EP, EL, tyq_0, tz_0, tyq_3, inq_3, tz_3, tyq_4, bool_4, tz_4, tyq_5, inq_5, tz_5, tyq_9, str_9, tz_9, tyq_38, slq_38, tz_38, Nat.reduceAdd, Nat.reduceSub, Nat.reduceMul, Nat.reduceLT, Nat.reduceLeDiff, Nat.reduceEqDiff, Int.reduceToNat, Int.reduceLE, Int.reduceLT, Int.reduceEq, Int.reduceNeg, reduceCtorEq, reduceIte, decide_true, decide_false, List.forall_mem_cons, List.not_mem_nil, false_implies, implies_true, Bool.and_true, Bool.true_and, and_self, Nat.sub_zero, Nat.zero_add, Nat.add_zero]
        refine hK _ ?_; try clear hK K
        refine WC.trim [0, 2, 3, 4, 5, 6, 9, 14, 23, 27, 35] ?_
        simp only [ET, Nat.reduceEqDiff, reduceIte]
        refine WC.cond (c := .tmp 14) rfl (fun h => ?_) (fun h => ?_)
        · have hlt : i < twos.length := by rw [h2l]; simp at h; omega
          have hg : (twos.map PVal.str)[i]? = some (.str twos[i]) := by simp [hlt]
          refine WC.skip ?_
          try simp only [EQ, reduceIte, Nat.reduceEqDiff]
          refine hK2 _ ?_; try clear hK2 K2
          refine WC.bs fun K3 hK3 => ?_
          refine WC.ds [⟨0, 0, false, []⟩, ⟨1, 0, false, []⟩, ⟨2, 0, false, []⟩, ⟨3, 0, false, []⟩, ⟨4, 0, false, []⟩, ⟨5, 0, false, []⟩, ⟨6, 0, false, []⟩] [0, 1, 0, 0, 12, 28, 63] mo (by kernel_rfl) (by simp only [EPl, List.getElem?_cons_zero, List.getElem?_cons_succ]; rfl) fun K hK => ?_
          simp (maxSteps := 1000000) only [↓yld_succ, ↓yld_zero, EV, EO, ED, ↓EW, ↓EI, EB, EP, EL, tyq_0, tz_0, tyq_3, inq_3, tz_3, tyq_4, bool_4, tz_4, tyq_5, inq_5, tz_5, tyq_9, str_9, tz_9, tyq_38, slq_38, tz_38, Nat.reduceAdd, Nat.reduceSub, Nat.reduceMul, Nat.reduceLT, Nat.reduceLeDiff, Nat.reduceEqDiff, Int.reduceToNat, Int.reduceLE, Int.reduceLT, Int.reduceEq, Int.reduceNeg, reduceCtorEq, reduceIte, decide_true, decide_false, List.forall_mem_cons, List.not_mem_nil, false_implies, implies_true, Bool.and_true, Bool.true_and, and_self, Nat.sub_zero, Nat.zero_add, Nat.add_zero, hg]
          repeat refine ⟨by omega, ?_⟩
          refine hK _ ?_; try clear hK K
          refine WC.trim [0, 2, 3, 4, 5, 6, 9, 14, 23, 27, 35] ?_
          simp only [ET, Nat.reduceEqDiff, reduceIte]
          refine WC.cond (c := .tmp 23) rfl (fun h => ?_) (fun h => ?_)
          · have hw : s.take 2 = twos[i] := by simpa using h
            refine WC.rs fun K hK => ?_
            simp (maxSteps := 1000000) only [↓yld_succ, ↓yld_zero, EV, EO, ED, ↓EW, ↓EI, EB, EP, EL, tyq_0, tz_0, tyq_3, inq_3, tz_3, tyq_4, bool_4, tz_4, tyq_5, inq_5, tz_5, tyq_9, str_9, tz_9, tyq_38, slq_38, tz_38, Nat.reduceAdd, Nat.reduceSub, Nat.reduceMul, Nat.reduceLT, Nat.reduceLeDiff, Nat.reduceEqDiff, Int.reduceToNat, Int.reduceLE, Int.reduceLT, Int.reduceEq, Int.reduceNeg, reduceCtorEq, reduceIte, decide_true, decide_false, List.forall_mem_cons, List.not_mem_nil, false_implies, implies_true, Bool.and_true, Bool.true_and, and_self, Nat.sub_zero, Nat.zero_add, Nat.add_zero]
            refine hK _ ?_; try clear hK K
            refine WC.trim [0, 2, 3, 4, 5, 6, 9, 14, 23, 27, 35] ?_
            simp only [ET, Nat.reduceEqDiff, reduceIte]
            refine WC.ret ?_
            simp (maxSteps := 1000000) only [↓yld_succ, ↓yld_zero, EV, EO, ED, ↓EW, ↓EI, EB, EP, EL, tyq_0, tz_0, tyq_3, inq_3, tz_3, tyq_4, bool_4, tz_4, tyq_5, inq_5, tz_5, tyq_9, str_9, tz_9, tyq_38, slq_38, tz_38, Nat.reduceAdd, Nat.reduceSub, Nat.reduceMul, Nat.reduceLT, Nat.reduceLeDiff, Nat.reduceEqDiff, Int.reduceToNat, Int.reduceLE, Int.reduceLT, Int.reduceEq, Int.reduceNeg, reduceCtorEq, reduceIte, decide_true, decide_false, List.forall_mem_cons, List.not_mem_nil, false_implies, implies_true, Bool.and_true, Bool.true_and, and_self, Nat.sub_zero, Nat.zero_add, Nat.add_zero, EQ, FnQ, Tryd.results35, wResL, tup, List.reverse_cons, List.reverse_nil, true_and]
            refine endsPure (by simp only [CL]) ?_
            rw [signF, if_pos ⟨hl2, by rw [hw]; exact List.getElem_mem _⟩]; rfl
          · have hw : ¬ s.take 2 = twos[i] := by simpa using h
            refine WC.skip ?_
            try simp only [EQ, reduceIte, Nat.reduceEqDiff]
            refine hK3 _ ?_; try clear hK3 K3
            refine WC.r1 ?_
            simp (maxSteps := 1000000) (disch := omega) only [↓yld_succ, ↓yld_zero, EV, EO, ED, ↓EW, ↓EI, EB, EP, EL, tyq_0, tz_0, tyq_3, inq_3, tz_3, tyq_4, bool_4, tz_4, tyq_5, inq_5, tz_5, tyq_9, str_9, tz_9, tyq_38, slq_38, tz_38, Nat.reduceAdd, Nat.reduceSub, Nat.reduceMul, Nat.reduceLT, Nat.reduceLeDiff, Nat.reduceEqDiff, Int.reduceToNat, Int.reduceLE, Int.reduceLT, Int.reduceEq, Int.reduceNeg, reduceCtorEq, reduceIte, decide_true, decide_false, List.forall_mem_cons, List.not_mem_nil, false_implies, implies_true, Bool.and_true, Bool.true_and, and_self, Nat.sub_zero, Nat.zero_add, Nat.add_zero, w64]
            try simp only [EQ, reduceIte, Nat.reduceEqDiff]
            refine ⟨i + 1, [0], ⟨by omega, ?_⟩, by omega, ?_⟩
            · rw [← h2, drop_at hlt, List.mem_cons]
              exact ⟨fun h => .inr h, fun h => h.elim (fun e => absurd e hw) id⟩
            · refine ⟨by simp, by simp (maxSteps := 1000000) only [↓yld_succ, ↓yld_zero, EV, EO, ED, ↓EW, ↓EI, EB, EP, EL, tyq_0, tz_0, tyq_3, inq_3, tz_3, tyq_4, bool_4, tz_4, tyq_5, inq_5, tz_5, tyq_9, str_9, tz_9, tyq_38, slq_38, tz_38, Nat.reduceAdd, Nat.reduceSub, Nat.reduceMul, Nat.reduceLT, Nat.reduceLeDiff, Nat.reduceEqDiff, Int.reduceToNat, Int.reduceLE, Int.reduceLT, Int.reduceEq, Int.reduceNeg, reduceCtorEq, reduceIte, decide_true, decide_false, List.forall_mem_cons, List.not_mem_nil, false_implies, implies_true, Bool.and_true, Bool.true_and, and_self, Nat.sub_zero, Nat.zero_add, Nat.add_zero, ER, and_self, Int.natCast_add, strs_closed twos _], by simp (maxSteps := 1000000) only [↓yld_succ, ↓yld_zero, EV, EO, ED, ↓EW, ↓EI, EB, EP, EL, tyq_0, tz_0, tyq_3, inq_3, tz_3, tyq_4, bool_4, tz_4, tyq_5, inq_5, tz_5, tyq_9, str_9, tz_9, tyq_38, slq_38, tz_38, Nat.reduceAdd, Nat.reduceSub, Nat.reduceMul, Nat.reduceLT, Nat.reduceLeDiff, Nat.reduceEqDiff, Int.reduceToNat, Int.reduceLE, Int.reduceLT, Int.reduceEq, Int.reduceNeg, reduceCtorEq, reduceIte, decide_true, decide_false, List.forall_mem_cons, List.not_mem_nil, false_implies, implies_true, Bool.and_true, Bool.true_and, and_self, Nat.sub_zero, Nat.zero_add, Nat.add_zero, ER, Int.natCast_add, strs_closed twos _], by simp (maxSteps := 1000000) only [↓yld_succ, ↓yld_zero, EV, EO, ED, ↓EW, ↓EI, EB, EP, EL, tyq_0, tz_0, tyq_3, inq_3, tz_3, tyq_4, bool_4, tz_4, tyq_5, inq_5, tz_5, tyq_9, str_9, tz_9, tyq_38, slq_38, tz_38, Nat.reduceAdd, Nat.reduceSub, Nat.reduceMul, Nat.reduceLT, Nat.reduceLeDiff, Nat.reduceEqDiff, Int.reduceToNat, Int.reduceLE, Int.reduceLT, Int.reduceEq, Int.reduceNeg, reduceCtorEq, reduceIte, decide_true, decide_false, List.forall_mem_cons, List.not_mem_nil, false_implies, implies_true, Bool.and_true, Bool.true_and, and_self, Nat.sub_zero, Nat.zero_add, Nat.add_zero, ER, pick, Int.natCast_add, strs_closed twos _], rfl⟩
        · have hge : i = 7 := by simp at h; omega
          refine WC.exit ?_
          simp only [EQ, reduceIte, Nat.reduceEqDiff]
          try simp only [EQ, reduceIte, Nat.reduceEqDiff]
          refine ⟨fun hh => ?_, [], ?_⟩
          · have := h2.2 hh.2
            rw [hge, ← h2l, List.drop_length] at this
            cases this
          · refine ⟨by simp, by simp (maxSteps := 1000000) only [↓yld_succ, ↓yld_zero, EV, EO, ED, ↓EW, ↓EI, EB, EP, EL, tyq_0, tz_0, tyq_3, inq_3, tz_3, tyq_4, bool_4, tz_4, tyq_5, inq_5, tz_5, tyq_9, str_9, tz_9, tyq_38, slq_38, tz_38, Nat.reduceAdd, Nat.reduceSub, Nat.reduceMul, Nat.reduceLT, Nat.reduceLeDiff, Nat.reduceEqDiff, Int.reduceToNat, Int.reduceLE, Int.reduceLT, Int.reduceEq, Int.reduceNeg, reduceCtorEq, reduceIte, decide_true, decide_false, List.forall_mem_cons, List.not_mem_nil, false_implies, implies_true, Bool.and_true, Bool.true_and, and_self, Nat.sub_zero, Nat.zero_add, Nat.add_zero, ER, and_self], by simp (maxSteps := 1000000) only [↓yld_succ, ↓yld_zero, EV, EO, ED, ↓EW, ↓EI, EB, EP, EL, tyq_0, tz_0, tyq_3, inq_3, tz_3, tyq_4, bool_4, tz_4, tyq_5, inq_5, tz_5, tyq_9, str_9, tz_9, tyq_38, slq_38, tz_38, Nat.reduceAdd, Nat.reduceSub, Nat.reduceMul, Nat.reduceLT, Nat.reduceLeDiff, Nat.reduceEqDiff, Int.reduceToNat, Int.reduceLE, Int.reduceLT, Int.reduceEq, Int.reduceNeg, reduceCtorEq, reduceIte, decide_true, decide_false, List.forall_mem_cons, List.not_mem_nil, false_implies, implies_true, Bool.and_true, Bool.true_and, and_self, Nat.sub_zero, Nat.zero_add, Nat.add_zero, ER], by simp (maxSteps := 1000000) only [↓yld_succ, ↓yld_zero, EV, EO, ED, ↓EW, ↓EI, EB, EP, EL, tyq_0, tz_0, tyq_3, inq_3, tz_3, tyq_4, bool_4, tz_4, tyq_5, inq_5, tz_5, tyq_9, str_9, tz_9, tyq_38, slq_38, tz_38, Nat.reduceAdd, Nat.reduceSub, Nat.reduceMul, Nat.reduceLT, Nat.reduceLeDiff, Nat.reduceEqDiff, Int.reduceToNat, Int.reduceLE, Int.reduceLT, Int.reduceEq, Int.reduceNeg, reduceCtorEq, reduceIte, decide_true, decide_false, List.forall_mem_cons, List.not_mem_nil, false_implies, implies_true, Bool.and_true, Bool.true_and, and_self, Nat.sub_zero, Nat.zero_add, Nat.add_zero, ER, pick], rfl⟩
    · have hl2 : ¬ 2 ≤ s.length := by simp at h; omega
      refine WC.skip ?_
      try simp only [EQ, reduceIte, Nat.reduceEqDiff]
      refine ⟨fun hh => hl2 hh.1, [], ?_⟩
      refine ⟨by simp, by simp (maxSteps := 1000000) only [↓yld_succ, ↓yld_zero, EV, EO, ED, ↓EW, ↓EI, EB, EP, EL, tyq_0, tz_0, tyq_3, inq_3, tz_3, tyq_4, bool_4, tz_4, tyq_5, inq_5, tz_5, tyq_9, str_9, tz_9, tyq_38, slq_38, tz_38, Nat.reduceAdd, Nat.reduceSub, Nat.reduceMul, Nat.reduceLT, Nat.reduceLeDiff, Nat.reduceEqDiff, Int.reduceToNat, Int.reduceLE, Int.reduceLT, Int.reduceEq, Int.reduceNeg, reduceCtorEq, reduceIte, decide_true, decide_false, List.forall_mem_cons, List.not_mem_nil, false_implies, implies_true, Bool.and_true, Bool.true_and, and_self, Nat.sub_zero, Nat.zero_add, Nat.add_zero, ER, and_self], by simp (maxSteps := 1000000) only [↓yld_succ, ↓yld_zero, EV, EO, ED, ↓EW, ↓EI, EB, EP, EL, tyq_0, tz_0, tyq_3, inq_3, tz_3, tyq_4, bool_4, tz_4, tyq_5, inq_5, tz_5, tyq_9, str_9, tz_9, tyq_38, slq_38, tz_38, Nat.reduceAdd, Nat.reduceSub, Nat.reduceMul, Nat.reduceLT, Nat.reduceLeDiff, Nat.reduceEqDiff, Int.reduceToNat, Int.reduceLE, Int.reduceLT, Int.reduceEq, Int.reduceNeg, reduceCtorEq, reduceIte, decide_true, decide_false, List.forall_mem_cons, List.not_mem_nil, false_implies, implies_true, Bool.and_true, Bool.true_and, and_self, Nat.sub_zero, Nat.zero_add, Nat.add_zero, ER], by simp (maxSteps := 1000000) only [↓yld_succ, ↓yld_zero, EV, EO, ED, ↓EW, ↓EI, EB, EP, EL, tyq_0, tz_0, tyq_3, inq_3, tz_3, tyq_4, bool_4, tz_4, tyq_5, inq_5, tz_5, tyq_9, str_9, tz_9, tyq_38, slq_38, tz_38, Nat.reduceAdd, Nat.reduceSub, Nat.reduceMul, Nat.reduceLT, Nat.reduceLeDiff, Nat.reduceEqDiff, Int.reduceToNat, Int.reduceLE, Int.reduceLT, Int.reduceEq, Int.reduceNeg, reduceCtorEq, reduceIte, decide_true, decide_false, List.forall_mem_cons, List.not_mem_nil, false_implies, implies_true, Bool.and_true, Bool.true_and, and_self, Nat.sub_zero, Nat.zero_add, Nat.add_zero, ER, pick], rfl⟩
  · refine WC.rs fun K hK => ?_
    simp (maxSteps := 1000000) only [↓yld_succ, ↓yld_zero, EV, EO, ED, ↓EW, ↓EI, EB, EP, EL, tyq_0, tz_0, tyq_3, inq_3, tz_3, tyq_4, bool_4, tz_4, tyq_5, inq_5, tz_5, tyq_9, str_9, tz_9, tyq_38, slq_38, tz_38, Nat.reduceAdd, Nat.reduceSub, Nat.reduceMul, Nat.reduceLT, Nat.reduceLeDiff, Nat.reduceEqDiff, Int.reduceToNat, Int.reduceLE, Int.reduceLT, Int.reduceEq, Int.reduceNeg, reduceCtorEq, reduceIte, decide_true, decide_false, List.forall_mem_cons, List.not_mem_nil, false_implies, implies_true, Bool.and_true, Bool.true_and, and_self, Nat.sub_zero, Nat.zero_add, Nat.add_zero]
    refine hK _ ?_; try clear hK K
    refine WC.trim [0, 2, 3, 4, 5, 6, 9, 14, 23, 27, 35] ?_
    simp only [ET, Nat.reduceEqDiff, reduceIte]
    refine WC.sK fun K4 hK4 => ?_
    refine WC.rs fun K hK => ?_
    simp (maxSteps := 1000000) only [↓yld_succ, ↓yld_zero, EV, EO, ED, ↓EW, ↓EI, EB, EP, EL, tyq_0, tz_0, tyq_3, inq_3, tz_3, tyq_4, bool_4, tz_4, tyq_5, inq_5, tz_5, tyq_9, str_9, tz_9, tyq_38, slq_38, tz_38, Nat.reduceAdd, Nat.reduceSub, Nat.reduceMul, Nat.reduceLT, Nat.reduceLeDiff, Nat.reduceEqDiff, Int.reduceToNat, Int.reduceLE, Int.reduceLT, Int.reduceEq, Int.reduceNeg, reduceCtorEq, reduceIte, decide_true, decide_false, List.forall_mem_cons, List.not_mem_nil, false_implies, implies_true, Bool.and_true, Bool.true_and, and_self, Nat.sub_zero, Nat.zero_add, Nat.add_zero]
    refine hK _ ?_; try clear hK K
    refine WC.trim [0, 2, 3, 4, 5, 6, 9, 14, 23, 27, 35] ?_
    simp only [ET, Nat.reduceEqDiff, reduceIte]
    refine WC.b1 ?_
    refine WC.loop (X := Nat) (fun i => ⟨[(6, .int .i64 i), (5, .str ones), (2, .int .i64 0), (0, .str s)], [], [], []⟩)
      (fun i => i ≤ 19 ∧ (gb s 0 ∈ oneNums.drop i ↔ gb s 0 ∈ oneNums)) (fun i => 19 - i) 0 [] ⟨Nat.zero_le _, Iff.rfl⟩ ?_ ?_
    · refine ⟨by simp, by simp (maxSteps := 1000000) only [↓yld_succ, ↓yld_zero, EV, EO, ED, ↓EW, ↓EI, EB, EP, EL, tyq_0, tz_0, tyq_3, inq_3, tz_3, tyq_4, bool_4, tz_4, tyq_5, inq_5, tz_5, tyq_9, str_9, tz_9, tyq_38, slq_38, tz_38, Nat.reduceAdd, Nat.reduceSub, Nat.reduceMul, Nat.reduceLT, Nat.reduceLeDiff, Nat.reduceEqDiff, Int.reduceToNat, Int.reduceLE, Int.reduceLT, Int.reduceEq, Int.reduceNeg, reduceCtorEq, reduceIte, decide_true, decide_false, List.forall_mem_cons, List.not_mem_nil, false_implies, implies_true, Bool.and_true, Bool.true_and, and_self, Nat.sub_zero, Nat.zero_add, Nat.add_zero, ER, and_self, ones], by simp (maxSteps := 1000000) only [↓yld_succ, ↓yld_zero, EV, EO, ED, ↓EW, ↓EI, EB, EP, EL, tyq_0, tz_0, tyq_3, inq_3, tz_3, tyq_4, bool_4, tz_4, tyq_5, inq_5, tz_5, tyq_9, str_9, tz_9, tyq_38, slq_38, tz_38, Nat.reduceAdd, Nat.reduceSub, Nat.reduceMul, Nat.reduceLT, Nat.reduceLeDiff, Nat.reduceEqDiff, Int.reduceToNat, Int.reduceLE, Int.reduceLT, Int.reduceEq, Int.reduceNeg, reduceCtorEq, reduceIte, decide_true, decide_false, List.forall_mem_cons, List.not_mem_nil, false_implies, implies_true, Bool.and_true, Bool.true_and, and_self, Nat.sub_zero, Nat.zero_add, Nat.add_zero, ER, ones], by simp (maxSteps := 1000000) only [↓yld_succ, ↓yld_zero, EV, EO, ED, ↓EW, ↓EI, EB, EP, EL, tyq_0, tz_0, tyq_3, inq_3, tz_3, tyq_4, bool_4, tz_4, tyq_5, inq_5, tz_5, tyq_9, str_9, tz_9, tyq_38, slq_38, tz_38, Nat.reduceAdd, Nat.reduceSub, Nat.reduceMul, Nat.reduceLT, Nat.reduceLeDiff, Nat.reduceEqDiff, Int.reduceToNat, Int.reduceLE, Int.reduceLT, Int.reduceEq, Int.reduceNeg, reduceCtorEq, reduceIte, decide_true, decide_false, List.forall_mem_cons, List.not_mem_nil, false_implies, implies_true, Bool.and_true, Bool.true_and, and_self, Nat.sub_zero, Nat.zero_add, Nat.add_zero, ER, pick, ones], rfl⟩
    · rintro i ⟨h1, h2⟩
      have h1l : ones.length = 19 := rfl
      refine WC.sK fun K5 hK5 => ?_
      refine WC.rs fun K hK => ?_
      simp (maxSteps := 1000000) only [↓yld_succ, ↓yld_zero, EV, EO, ED, ↓EW, ↓EI, EB, EP, EL, tyq_0, tz_0, tyq_3, inq_3, tz_3, tyq_4, bool_4, tz_4, tyq_5, inq_5, tz_5, tyq_9, str_9, tz_9, tyq_38, slq_38, tz_38, Nat.reduceAdd, Nat.reduceSub, Nat.reduceMul, Nat.reduceLT, Nat.reduceLeDiff, Nat.reduceEqDiff, Int.reduceToNat, Int.reduceLE, Int.reduceLT, Int.reduceEq, Int.reduceNeg, reduceCtorEq, reduceIte, decide_true, decide_false, List.forall_mem_cons, List.not_mem_nil, false_implies, implies_true, Bool.and_true, Bool.true_and, and_self, Nat.sub_zero, Nat.zero_add, Nat.add_zero, h1l]
      refine hK _ ?_; try clear hK K
      refine WC.trim [0, 2, 3, 4, 5, 6, 9, 14, 23, 27, 35] ?_
      simp only [ET, Nat.reduceEqDiff, reduceIte]
      refine WC.cond (c := .tmp 27) rfl (fun h => ?_) (fun h => ?_)
      · have hlt : i < 19 := by simp at h; omega
        obtain ⟨r, hr1, hr2⟩ := gb_ones hlt
        refine WC.skip ?_
        try simp only [EQ, reduceIte, Nat.reduceEqDiff]
        refine hK5 _ ?_; try clear hK5 K5
        refine WC.bs fun K6 hK6 => ?_
        refine WC.ds [⟨0, 0, false, []⟩, ⟨1, 0, false, []⟩, ⟨2, 0, false, []⟩, ⟨3, 0, false, []⟩, ⟨4, 0, false, []⟩, ⟨5, 0, false, []⟩] [0, 1, 0, 0, 12, 31] mo (by kernel_rfl) (by simp only [EPl, List.getElem?_cons_zero, List.getElem?_cons_succ]; rfl) fun K hK => ?_
        simp (maxSteps := 1000000) only [↓yld_succ, ↓yld_zero, EV, EO, ED, ↓EW, ↓EI, EB, EP, EL, tyq_0, tz_0, tyq_3, inq_3, tz_3, tyq_4, bool_4, tz_4, tyq_5, inq_5, tz_5, tyq_9, str_9, tz_9, tyq_38, slq_38, tz_38, Nat.reduceAdd, Nat.reduceSub, Nat.reduceMul, Nat.reduceLT, Nat.reduceLeDiff, Nat.reduceEqDiff, Int.reduceToNat, Int.reduceLE, Int.reduceLT, Int.reduceEq, Int.reduceNeg, reduceCtorEq, reduceIte, decide_true, decide_false, List.forall_mem_cons, List.not_mem_nil, false_implies, implies_true, Bool.and_true, Bool.true_and, and_self, Nat.sub_zero, Nat.zero_add, Nat.add_zero, h1l]
        repeat refine ⟨by omega, ?_⟩
        refine hK _ ?_; try clear hK K
        refine WC.trim [0, 2, 3, 4, 5, 6, 9, 14, 23, 27, 35] ?_
        simp only [ET, Nat.reduceEqDiff, reduceIte]
        refine WC.cond (c := .tmp 35) rfl (fun h => ?_) (fun h => ?_)
        · have hw : gb s 0 = gb ones i := by simpa using h
          refine WC.rs fun K hK => ?_
          simp (maxSteps := 1000000) only [↓yld_succ, ↓yld_zero, EV, EO, ED, ↓EW, ↓EI, EB, EP, EL, tyq_0, tz_0, tyq_3, inq_3, tz_3, tyq_4, bool_4, tz_4, tyq_5, inq_5, tz_5, tyq_9, str_9, tz_9, tyq_38, slq_38, tz_38, Nat.reduceAdd, Nat.reduceSub, Nat.reduceMul, Nat.reduceLT, Nat.reduceLeDiff, Nat.reduceEqDiff, Int.reduceToNat, Int.reduceLE, Int.reduceLT, Int.reduceEq, Int.reduceNeg, reduceCtorEq, reduceIte, decide_true, decide_false, List.forall_mem_cons, List.not_mem_nil, false_implies, implies_true, Bool.and_true, Bool.true_and, and_self, Nat.sub_zero, Nat.zero_add, Nat.add_zero]
          refine hK _ ?_; try clear hK K
          refine WC.trim [0, 2, 3, 4, 5, 6, 9, 14, 23, 27, 35] ?_
          simp only [ET, Nat.reduceEqDiff, reduceIte]
          refine WC.ret ?_
          simp (maxSteps := 1000000) only [↓yld_succ, ↓yld_zero, EV, EO, ED, ↓EW, ↓EI, EB, EP, EL, tyq_0, tz_0, tyq_3, inq_3, tz_3, tyq_4, bool_4, tz_4, tyq_5, inq_5, tz_5, tyq_9, str_9, tz_9, tyq_38, slq_38, tz_38, Nat.reduceAdd, Nat.reduceSub, Nat.reduceMul, Nat.reduceLT, Nat.reduceLeDiff, Nat.reduceEqDiff, Int.reduceToNat, Int.reduceLE, Int.reduceLT, Int.reduceEq, Int.reduceNeg, reduceCtorEq, reduceIte, decide_true, decide_false, List.forall_mem_cons, List.not_mem_nil, false_implies, implies_true, Bool.and_true, Bool.true_and, and_self, Nat.sub_zero, Nat.zero_add, Nat.add_zero, EQ, FnQ, Tryd.results35, wResL, tup, List.reverse_cons, List.reverse_nil, true_and]
          refine endsPure (by simp only [CL]) ?_
          rw [signF, if_neg hnot, if_pos (by rw [← h2, hr1, hw]; exact List.mem_cons_self)]; rfl
        · have hw : ¬ gb s 0 = gb ones i := by simpa using h
          refine WC.skip ?_
          try simp only [EQ, reduceIte, Nat.reduceEqDiff]
          refine hK6 _ ?_; try clear hK6 K6
          refine WC.r1 ?_
          simp (maxSteps := 1000000) (disch := omega) only [↓yld_succ, ↓yld_zero, EV, EO, ED, ↓EW, ↓EI, EB, EP, EL, tyq_0, tz_0, tyq_3, inq_3, tz_3, tyq_4, bool_4, tz_4, tyq_5, inq_5, tz_5, tyq_9, str_9, tz_9, tyq_38, slq_38, tz_38, Nat.reduceAdd, Nat.reduceSub, Nat.reduceMul, Nat.reduceLT, Nat.reduceLeDiff, Nat.reduceEqDiff, Int.reduceToNat, Int.reduceLE, Int.reduceLT, Int.reduceEq, Int.reduceNeg, reduceCtorEq, reduceIte, decide_true, decide_false, List.forall_mem_cons, List.not_mem_nil, false_implies, implies_true, Bool.and_true, Bool.true_and, and_self, Nat.sub_zero, Nat.zero_add, Nat.add_zero, w64]
          try simp only [EQ, reduceIte, Nat.reduceEqDiff]
          refine ⟨i + 1, [], ⟨by omega, ?_⟩, by omega, ?_⟩
          · rw [← h2, hr1, hr2, List.mem_cons]
            exact ⟨fun h => .inr h, fun h => h.elim (fun e => absurd e hw) id⟩
          · refine ⟨by simp, by simp (maxSteps := 1000000) only [↓yld_succ, ↓yld_zero, EV, EO, ED, ↓EW, ↓EI, EB, EP, EL, tyq_0, tz_0, tyq_3, inq_3, tz_3, tyq_4, bool_4, tz_4, tyq_5, inq_5, tz_5, tyq_9, str_9, tz_9, tyq_38, slq_38, tz_38, Nat.reduceAdd, Nat.reduceSub, Nat.reduceMul, Nat.reduceLT, Nat.reduceLeDiff, Nat.reduceEqDiff, Int.reduceToNat, Int.reduceLE, Int.reduceLT, Int.reduceEq, Int.reduceNeg, reduceCtorEq, reduceIte, decide_true, decide_false, List.forall_mem_cons, List.not_mem_nil, false_implies, implies_true, Bool.and_true, Bool.true_and, and_self, Nat.sub_zero, Nat.zero_add, Nat.add_zero, ER, and_self, Int.natCast_add], by simp (maxSteps := 1000000) only [↓yld_succ, ↓yld_zero, EV, EO, ED, ↓EW, ↓EI, EB, EP, EL, tyq_0, tz_0, tyq_3, inq_3, tz_3, tyq_4, bool_4, tz_4, tyq_5, inq_5, tz_5, tyq_9, str_9, tz_9, tyq_38, slq_38, tz_38, Nat.reduceAdd, Nat.reduceSub, Nat.reduceMul, Nat.reduceLT, Nat.reduceLeDiff, Nat.reduceEqDiff, Int.reduceToNat, Int.reduceLE, Int.reduceLT, Int.reduceEq, Int.reduceNeg, reduceCtorEq, reduceIte, decide_true, decide_false, List.forall_mem_cons, List.not_mem_nil, false_implies, implies_true, Bool.and_true, Bool.true_and, and_self, Nat.sub_zero, Nat.zero_add, Nat.add_zero, ER, Int.natCast_add], by simp (maxSteps := 1000000) only [↓yld_succ, ↓yld_zero, EV, EO, ED, ↓EW, ↓EI, EB, EP, EL, tyq_0, tz_0, tyq_3, inq_3, tz_3, tyq_4, bool_4, tz_4, tyq_5, inq_5, tz_5, tyq_9, str_9, tz_9, tyq_38, slq_38, tz_38, Nat.reduceAdd, Nat.reduceSub, Nat.reduceMul, Nat.reduceLT, Nat.reduceLeDiff, Nat.reduceEqDiff, Int.reduceToNat, Int.reduceLE, Int.reduceLT, Int.reduceEq, Int.reduceNeg, reduceCtorEq, reduceIte, decide_true, decide_false, List.forall_mem_cons, List.not_mem_nil, false_implies, implies_true, Bool.and_true, Bool.true_and, and_self, Nat.sub_zero, Nat.zero_add, Nat.add_zero, ER, pick, Int.natCast_add], rfl⟩
      · have hge : i = 19 := by simp at h; omega
        refine WC.exit ?_
        simp only [EQ, reduceIte, Nat.reduceEqDiff]
        try simp only [EQ, reduceIte, Nat.reduceEqDiff]
        refine hK4 _ ?_; try clear hK4 K4
        refine WC.rs fun K hK => ?_
        simp (maxSteps := 1000000) only [↓yld_succ, ↓yld_zero, EV, EO, ED, ↓EW, ↓EI, EB, EP, EL, tyq_0, tz_0, tyq_3, inq_3, tz_3, tyq_4, bool_4, tz_4, tyq_5, inq_5, tz_5, tyq_9, str_9, tz_9, tyq_38, slq_38, tz_38, Nat.reduceAdd, Nat.reduceSub, Nat.reduceMul, Nat.reduceLT, Nat.reduceLeDiff, Nat.reduceEqDiff, Int.reduceToNat, Int.reduceLE, Int.reduceLT, Int.reduceEq, Int.reduceNeg, reduceCtorEq, reduceIte, decide_true, decide_false, List.forall_mem_cons, List.not_mem_nil, false_implies, implies_true, Bool.and_true, Bool.true_and, and_self, Nat.sub_zero, Nat.zero_add, Nat.add_zero]
        refine hK _ ?_; try clear hK K
        refine WC.trim [0, 2, 3, 4, 5, 6, 9, 14, 23, 27, 35] ?_
        simp only [ET, Nat.reduceEqDiff, reduceIte]
        refine WC.ret ?_
        simp (maxSteps := 1000000) only [↓yld_succ, ↓yld_zero, EV, EO, ED, ↓EW, ↓EI, EB, EP, EL, tyq_0, tz_0, tyq_3, inq_3, tz_3, tyq_4, bool_4, tz_4, tyq_5, inq_5, tz_5, tyq_9, str_9, tz_9, tyq_38, slq_38, tz_38, Nat.reduceAdd, Nat.reduceSub, Nat.reduceMul, Nat.reduceLT, Nat.reduceLeDiff, Nat.reduceEqDiff, Int.reduceToNat, Int.reduceLE, Int.reduceLT, Int.reduceEq, Int.reduceNeg, reduceCtorEq, reduceIte, decide_true, decide_false, List.forall_mem_cons, List.not_mem_nil, false_implies, implies_true, Bool.and_true, Bool.true_and, and_self, Nat.sub_zero, Nat.zero_add, Nat.add_zero, EQ, FnQ, Tryd.results35, wResL, tup, List.reverse_cons, List.reverse_nil, true_and]
        refine endsPure (by simp only [CL]) ?_
        have : gb s 0 ∉ oneNums := fun hh => by
          have := h2.2 hh
          rw [hge] at this
          cases this
        rw [signF, if_neg hnot, if_neg this]; rfl
end Go.LexSem
