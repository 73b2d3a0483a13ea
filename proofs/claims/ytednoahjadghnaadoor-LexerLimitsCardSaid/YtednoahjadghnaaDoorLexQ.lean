import Derived.Test.YtednoahjadghnaaDoorLexP
import Derived.Test.YtednoahjadghnaaDoorLShelf
set_option linter.unusedSimpArgs false
set_option linter.unusedVariables false
set_option linter.loopingSimpArgs false
set_option maxRecDepth 100000
namespace Go.LexSem
open Go Go.V Go.Proofs

/-- strings.Fields at an ASCII text. -/
theorem fieldsT (s : List UInt8) (hs : s.length < 4294967281) (ha : s.all (fun b => decide (b.toNat < 128)) = true) (ws : List (List UInt8)) (h : Lib.fields s = ws) :
    FSem C 37 [.str s] [] fun r st => r = .ret (.slc (ws.map .str)) ∧ st = [] := by
  subst h
  exact fields_sem (C := C) (ρ := lays157_ren) lays157 (by kernel_rfl) ok_37 rfl s hs (fun b hb => by simpa using List.all_eq_true.1 ha b hb)

def kwText : List UInt8 := [112, 97, 114, 97, 109, 32, 102, 117, 110, 99, 32, 113, 117, 101, 114, 121, 32, 118, 97, 114, 32, 114, 101, 116, 117, 114, 110, 32, 98, 111, 111, 108, 32, 105, 110, 116, 32, 110, 97, 116, 32, 114, 101, 97, 108, 32, 108, 105, 115, 116, 32, 105, 102, 32, 101, 108, 115, 101, 32, 114, 101, 112, 101, 97, 116, 32, 119, 104, 105, 108, 101, 32, 111, 98, 115, 101, 114, 118, 101, 32, 119, 101, 105, 103, 104, 116, 32, 116, 114, 117, 101, 32, 102, 97, 108, 115, 101, 32, 108, 101, 110, 32, 112, 117, 115, 104, 32, 102, 108, 105, 112, 32, 117, 110, 105, 102, 111, 114, 109, 32, 116, 97, 98, 108, 101, 32, 98, 105, 110, 111, 109, 105, 97, 108, 32, 103, 101, 111, 109, 101, 116, 114, 105, 99, 32, 105, 110, 116, 101, 114, 118, 97, 108, 32, 98, 101, 116, 97, 32, 112, 111, 115, 116, 101, 114, 105, 111, 114]
def sgText : List UInt8 := [58, 61, 32, 61, 61, 32, 33, 61, 32, 60, 61, 32, 62, 61, 32, 38, 38, 32, 124, 124, 32, 126, 32, 60, 32, 62, 32, 43, 32, 45, 32, 42, 32, 47, 32, 40, 32, 41, 32, 91, 32, 93, 32, 123, 32, 125, 32, 44, 32, 59, 32, 58, 32, 63, 32, 46, 32, 33]

theorem keywords_sem : FSem C 28 [] [] fun r st => r = .ret (.slc (kws.map .str)) ∧ st = [] := by
  refine FSem.enter' (C := C) (n := 2) Tryd.func28 rfl rfl ok_28 (by simp) ?_
  simp only [argEnv]
  refine WC.rs fun K hK => ?_
  simp (maxSteps := 1000000) only [↓yld_succ, ↓yld_zero, EV, EO, ED, ↓EW, ↓EI, EB, EP, EL, tyq_9, str_9, tz_9, tyq_38, slq_38, tz_38, Nat.reduceAdd, Nat.reduceSub, Nat.reduceMul, Nat.reduceLT, Nat.reduceLeDiff, Nat.reduceEqDiff, Int.reduceToNat, Int.reduceLE, Int.reduceLT, Int.reduceEq, Int.reduceNeg, reduceCtorEq, reduceIte, decide_true, decide_false, List.forall_mem_cons, List.not_mem_nil, false_implies, implies_true, Bool.and_true, Bool.true_and, and_self, Nat.sub_zero, Nat.zero_add, Nat.add_zero]
  refine hK _ ?_; try clear hK K
  refine WC.trim [0] ?_
  simp only [ET, Nat.reduceEqDiff, reduceIte]
  refine WC.rs fun K hK => ?_
  simp (maxSteps := 1000000) only [↓yld_succ, ↓yld_zero, EV, EO, ED, ↓EW, ↓EI, EB, EP, EL, tyq_9, str_9, tz_9, tyq_38, slq_38, tz_38, Nat.reduceAdd, Nat.reduceSub, Nat.reduceMul, Nat.reduceLT, Nat.reduceLeDiff, Nat.reduceEqDiff, Int.reduceToNat, Int.reduceLE, Int.reduceLT, Int.reduceEq, Int.reduceNeg, reduceCtorEq, reduceIte, decide_true, decide_false, List.forall_mem_cons, List.not_mem_nil, false_implies, implies_true, Bool.and_true, Bool.true_and, and_self, Nat.sub_zero, Nat.zero_add, Nat.add_zero]
  refine CallX.mk (CallW.pure (fieldsT kwText (by decide) (by decide) kws (by decide)) (by simp only [CL, and_self]) (by simp only [CL, strs_closed]) ?_)
  simp (maxSteps := 1000000) only [↓yld_succ, ↓yld_zero, EV, EO, ED, ↓EW, ↓EI, EB, EP, EL, tyq_9, str_9, tz_9, tyq_38, slq_38, tz_38, Nat.reduceAdd, Nat.reduceSub, Nat.reduceMul, Nat.reduceLT, Nat.reduceLeDiff, Nat.reduceEqDiff, Int.reduceToNat, Int.reduceLE, Int.reduceLT, Int.reduceEq, Int.reduceNeg, reduceCtorEq, reduceIte, decide_true, decide_false, List.forall_mem_cons, List.not_mem_nil, false_implies, implies_true, Bool.and_true, Bool.true_and, and_self, Nat.sub_zero, Nat.zero_add, Nat.add_zero]
  refine hK _ ?_; try clear hK K
  refine WC.trim [0] ?_
  simp only [ET, Nat.reduceEqDiff, reduceIte]
  refine WC.ret ?_
  simp (maxSteps := 1000000) only [↓yld_succ, ↓yld_zero, EV, EO, ED, ↓EW, ↓EI, EB, EP, EL, tyq_9, str_9, tz_9, tyq_38, slq_38, tz_38, Nat.reduceAdd, Nat.reduceSub, Nat.reduceMul, Nat.reduceLT, Nat.reduceLeDiff, Nat.reduceEqDiff, Int.reduceToNat, Int.reduceLE, Int.reduceLT, Int.reduceEq, Int.reduceNeg, reduceCtorEq, reduceIte, decide_true, decide_false, List.forall_mem_cons, List.not_mem_nil, false_implies, implies_true, Bool.and_true, Bool.true_and, and_self, Nat.sub_zero, Nat.zero_add, Nat.add_zero, EQ, FnQ, Tryd.results28, wResL, tup, List.reverse_cons, List.reverse_nil, true_and]
  exact endsPure (by simp only [CL, strs_closed]) rfl
theorem signs_sem : FSem C 30 [] [] fun r st => r = .ret (.slc (sgs.map .str)) ∧ st = [] := by
  refine FSem.enter' (C := C) (n := 2) Tryd.func30 rfl rfl ok_30 (by simp) ?_
  simp only [argEnv]
  refine WC.rs fun K hK => ?_
  simp (maxSteps := 1000000) only [↓yld_succ, ↓yld_zero, EV, EO, ED, ↓EW, ↓EI, EB, EP, EL, tyq_9, str_9, tz_9, tyq_38, slq_38, tz_38, Nat.reduceAdd, Nat.reduceSub, Nat.reduceMul, Nat.reduceLT, Nat.reduceLeDiff, Nat.reduceEqDiff, Int.reduceToNat, Int.reduceLE, Int.reduceLT, Int.reduceEq, Int.reduceNeg, reduceCtorEq, reduceIte, decide_true, decide_false, List.forall_mem_cons, List.not_mem_nil, false_implies, implies_true, Bool.and_true, Bool.true_and, and_self, Nat.sub_zero, Nat.zero_add, Nat.add_zero]
  refine hK _ ?_; try clear hK K
  refine WC.trim [0] ?_
  simp only [ET, Nat.reduceEqDiff, reduceIte]
  refine WC.rs fun K hK => ?_
  simp (maxSteps := 1000000) only [↓yld_succ, ↓yld_zero, EV, EO, ED, ↓EW, ↓EI, EB, EP, EL, tyq_9, str_9, tz_9, tyq_38, slq_38, tz_38, Nat.reduceAdd, Nat.reduceSub, Nat.reduceMul, Nat.reduceLT, Nat.reduceLeDiff, Nat.reduceEqDiff, Int.reduceToNat, Int.reduceLE, Int.reduceLT, Int.reduceEq, Int.reduceNeg, reduceCtorEq, reduceIte, decide_true, decide_false, List.forall_mem_cons, List.not_mem_nil, false_implies, implies_true, Bool.and_true, Bool.true_and, and_self, Nat.sub_zero, Nat.zero_add, Nat.add_zero]
  refine CallX.mk (CallW.pure (fieldsT sgText (by decide) (by decide) sgs (by decide)) (by simp only [CL, and_self]) (by simp only [CL, strs_closed]) ?_)
  simp (maxSteps := 1000000) only [↓yld_succ, ↓yld_zero, EV, EO, ED, ↓EW, ↓EI, EB, EP, EL, tyq_9, str_9, tz_9, tyq_38, slq_38, tz_38, Nat.reduceAdd, Nat.reduceSub, Nat.reduceMul, Nat.reduceLT, Nat.reduceLeDiff, Nat.reduceEqDiff, Int.reduceToNat, Int.reduceLE, Int.reduceLT, Int.reduceEq, Int.reduceNeg, reduceCtorEq, reduceIte, decide_true, decide_false, List.forall_mem_cons, List.not_mem_nil, false_implies, implies_true, Bool.and_true, Bool.true_and, and_self, Nat.sub_zero, Nat.zero_add, Nat.add_zero]
  refine hK _ ?_; try clear hK K
  refine WC.trim [0] ?_
  simp only [ET, Nat.reduceEqDiff, reduceIte]
  refine WC.ret ?_
  simp (maxSteps := 1000000) only [↓yld_succ, ↓yld_zero, EV, EO, ED, ↓EW, ↓EI, EB, EP, EL, tyq_9, str_9, tz_9, tyq_38, slq_38, tz_38, Nat.reduceAdd, Nat.reduceSub, Nat.reduceMul, Nat.reduceLT, Nat.reduceLeDiff, Nat.reduceEqDiff, Int.reduceToNat, Int.reduceLE, Int.reduceLT, Int.reduceEq, Int.reduceNeg, reduceCtorEq, reduceIte, decide_true, decide_false, List.forall_mem_cons, List.not_mem_nil, false_implies, implies_true, Bool.and_true, Bool.true_and, and_self, Nat.sub_zero, Nat.zero_add, Nat.add_zero, EQ, FnQ, Tryd.results30, wResL, tup, List.reverse_cons, List.reverse_nil, true_and]
  exact endsPure (by simp only [CL, strs_closed]) rfl
theorem toks_sem (s : List UInt8) : FSem C 14 [.str s] [] fun r st => r = .ret (.tuple [tokv (tokensF s).1, pl (tokensF s).2.1.1 (tokensF s).2.1.2, .int .i64 (tokensF s).2.2]) ∧ st = [] := tokens_sem keywords_sem signs_sem s
theorem agree_sem (s : List UInt8) : FSem C 9 [.str s] [] fun r st => r = .ret (.bool true) ∧ st = [] := agrees_sem keywords_sem signs_sem s

/-! ### tokens of constant texts -/
def lexN : Nat → List UInt8 → Nat → Nat → Nat → List Tok → List Tok × (Nat × Nat) × Nat
  | 0, _, _, _, _, _ => ([], (0, 0), 0)
  | k + 1, s, a, l, c, acc =>
    if a < s.length then
      if blankI (gb s a) = true then lexN k s (a + 1) (adv s 1 (a, l, c)).2.1 (adv s 1 (a, l, c)).2.2 acc
      else if gb s a = 35 then
        lexN k s (max (a + 1) (adv s (runAt notNl s a).length (a, l, c)).1) (adv s (runAt notNl s a).length (a, l, c)).2.1 (adv s (runAt notNl s a).length (a, l, c)).2.2 acc
      else if (tokenF s a).2.2 = 0 then
        lexN k s (max (a + 1) (adv s (tokenF s a).2.1.length (a, l, c)).1) (adv s (tokenF s a).2.1.length (a, l, c)).2.1 (adv s (tokenF s a).2.1.length (a, l, c)).2.2 (acc ++ [((tokenF s a).1, (tokenF s a).2.1, l, c)])
      else ([], (l, c), (tokenF s a).2.2)
    else (acc ++ [(5, [], l, c)], (0, 0), 0)
theorem lexF_eq (s : List UInt8) : ∀ k a l c acc, s.length - a < k → lexF s a l c acc = lexN k s a l c acc := by
  intro k
  induction k with
  | zero => intro a l c acc h; omega
  | succ k ih =>
    intro a l c acc h
    unfold lexF lexN
    by_cases ha : a < s.length
    · rw [dif_pos ha, if_pos ha]
      split
      · exact ih _ _ _ _ (by omega)
      · split
        · exact ih _ _ _ _ (by omega)
        · split
          · exact ih _ _ _ _ (by omega)
          · rfl
    · rw [dif_neg ha, if_neg ha]
theorem tokensF_at {s : List UInt8} {r : List Tok × (Nat × Nat) × Nat} (hs : s.length ≤ 8192) (h : lexN (s.length + 1) s 0 1 1 [] = r) : tokensF s = r := by
  rw [tokensF, if_neg (by omega), lexF_eq s (s.length + 1) 0 1 1 [] (by omega)]; exact h

def awText : List UInt8 := [120, 49, 32, 58, 61, 32, 51, 59]
theorem aw_tokens : tokensF awText = ([(1, [120, 49], 1, 1), (4, [58, 61], 1, 4), (2, [51], 1, 7), (4, [59], 1, 8), (5, [], 1, 9)], (0, 0), 0) := tokensF_at (by decide) (by decide +kernel)

theorem awake_sem : FSem C 8 [] [] fun r st => r = .ret (.bool true) ∧ st = [] := by
  have h1 := toks_sem awText
  rw [aw_tokens] at h1
  refine FSem.enter' (C := C) (n := 30) Tryd.func8 rfl rfl ok_8 (by simp) ?_
  simp only [argEnv]
  refine WC.rs fun K hK => ?_
  simp (maxSteps := 1000000) only [↓yld_succ, ↓yld_zero, EV, EO, ED, ↓EW, ↓EI, EB, EP, EL, tyq_0, tz_0, tyq_3, inq_3, tz_3, tyq_4, bool_4, tz_4, tyq_9, str_9, tz_9, tyq_30, slq_30, tz_30, tyq_32, fq_32_0, fq_32_1, bq_32, feq_32, tz_32, tyq_33, inq_33, tz_33, tyq_34, tz_34, tyq_37, fq_37_0, fq_37_1, fq_37_2, fq_37_3, bq_37, feq_37, tz_37, Nat.reduceAdd, Nat.reduceSub, Nat.reduceMul, Nat.reduceLT, Nat.reduceLeDiff, Nat.reduceEqDiff, Int.reduceToNat, Int.reduceLE, Int.reduceLT, Int.reduceEq, Int.reduceNeg, reduceCtorEq, reduceIte, decide_true, decide_false, List.forall_mem_cons, List.not_mem_nil, false_implies, implies_true, Bool.and_true, Bool.true_and, and_self, Nat.sub_zero, Nat.zero_add, Nat.add_zero]
  refine hK _ ?_; try clear hK K
  refine WC.trim [0, 1, 3] ?_
  simp only [ET, Nat.reduceEqDiff, reduceIte]
  refine WC.rs fun K hK => ?_
  simp (maxSteps := 1000000) only [↓yld_succ, ↓yld_zero, EV, EO, ED, ↓EW, ↓EI, EB, EP, EL, tyq_0, tz_0, tyq_3, inq_3, tz_3, tyq_4, bool_4, tz_4, tyq_9, str_9, tz_9, tyq_30, slq_30, tz_30, tyq_32, fq_32_0, fq_32_1, bq_32, feq_32, tz_32, tyq_33, inq_33, tz_33, tyq_34, tz_34, tyq_37, fq_37_0, fq_37_1, fq_37_2, fq_37_3, bq_37, feq_37, tz_37, Nat.reduceAdd, Nat.reduceSub, Nat.reduceMul, Nat.reduceLT, Nat.reduceLeDiff, Nat.reduceEqDiff, Int.reduceToNat, Int.reduceLE, Int.reduceLT, Int.reduceEq, Int.reduceNeg, reduceCtorEq, reduceIte, decide_true, decide_false, List.forall_mem_cons, List.not_mem_nil, false_implies, implies_true, Bool.and_true, Bool.true_and, and_self, Nat.sub_zero, Nat.zero_add, Nat.add_zero]
  refine CallX.mk (CallW.pure h1 (by simp only [CL, and_self]) (by simp only [CL, tokv, pl, tkv_closed, and_self]) ?_)
  simp (maxSteps := 1000000) only [↓yld_succ, ↓yld_zero, EV, EO, ED, ↓EW, ↓EI, EB, EP, EL, tyq_0, tz_0, tyq_3, inq_3, tz_3, tyq_4, bool_4, tz_4, tyq_9, str_9, tz_9, tyq_30, slq_30, tz_30, tyq_32, fq_32_0, fq_32_1, bq_32, feq_32, tz_32, tyq_33, inq_33, tz_33, tyq_34, tz_34, tyq_37, fq_37_0, fq_37_1, fq_37_2, fq_37_3, bq_37, feq_37, tz_37, Nat.reduceAdd, Nat.reduceSub, Nat.reduceMul, Nat.reduceLT, Nat.reduceLeDiff, Nat.reduceEqDiff, Int.reduceToNat, Int.reduceLE, Int.reduceLT, Int.reduceEq, Int.reduceNeg, reduceCtorEq, reduceIte, decide_true, decide_false, List.forall_mem_cons, List.not_mem_nil, false_implies, implies_true, Bool.and_true, Bool.true_and, and_self, Nat.sub_zero, Nat.zero_add, Nat.add_zero, tokv, pl]
  refine hK _ ?_; try clear hK K
  refine WC.trim [0, 1, 3] ?_
  simp only [ET, Nat.reduceEqDiff, reduceIte]
  refine WC.rs fun K hK => ?_
  simp (maxSteps := 1000000) only [↓yld_succ, ↓yld_zero, EV, EO, ED, ↓EW, ↓EI, EB, EP, EL, tyq_0, tz_0, tyq_3, inq_3, tz_3, tyq_4, bool_4, tz_4, tyq_9, str_9, tz_9, tyq_30, slq_30, tz_30, tyq_32, fq_32_0, fq_32_1, bq_32, feq_32, tz_32, tyq_33, inq_33, tz_33, tyq_34, tz_34, tyq_37, fq_37_0, fq_37_1, fq_37_2, fq_37_3, bq_37, feq_37, tz_37, Nat.reduceAdd, Nat.reduceSub, Nat.reduceMul, Nat.reduceLT, Nat.reduceLeDiff, Nat.reduceEqDiff, Int.reduceToNat, Int.reduceLE, Int.reduceLT, Int.reduceEq, Int.reduceNeg, reduceCtorEq, reduceIte, decide_true, decide_false, List.forall_mem_cons, List.not_mem_nil, false_implies, implies_true, Bool.and_true, Bool.true_and, and_self, Nat.sub_zero, Nat.zero_add, Nat.add_zero, List.map_cons, List.map_nil, tkv, tk, Int.cast_ofNat_Int, gi, List.getD_cons_zero, List.getD_cons_succ]
  refine hK _ ?_; try clear hK K
  refine WC.trim [0, 1, 3] ?_
  simp only [ET, Nat.reduceEqDiff, reduceIte]
  refine WC.ret ?_
  simp (maxSteps := 1000000) only [↓yld_succ, ↓yld_zero, EV, EO, ED, ↓EW, ↓EI, EB, EP, EL, tyq_0, tz_0, tyq_3, inq_3, tz_3, tyq_4, bool_4, tz_4, tyq_9, str_9, tz_9, tyq_30, slq_30, tz_30, tyq_32, fq_32_0, fq_32_1, bq_32, feq_32, tz_32, tyq_33, inq_33, tz_33, tyq_34, tz_34, tyq_37, fq_37_0, fq_37_1, fq_37_2, fq_37_3, bq_37, feq_37, tz_37, Nat.reduceAdd, Nat.reduceSub, Nat.reduceMul, Nat.reduceLT, Nat.reduceLeDiff, Nat.reduceEqDiff, Int.reduceToNat, Int.reduceLE, Int.reduceLT, Int.reduceEq, Int.reduceNeg, reduceCtorEq, reduceIte, decide_true, decide_false, List.forall_mem_cons, List.not_mem_nil, false_implies, implies_true, Bool.and_true, Bool.true_and, and_self, Nat.sub_zero, Nat.zero_add, Nat.add_zero, EQ, FnQ, Tryd.results8, wResL, tup, List.reverse_cons, List.reverse_nil, true_and]
  exact endsPure (by simp only [CL]) rfl

theorem lexerRaw_sem (s : List UInt8) : FSem C 3 [.str s] [] fun r st => r = .ret (.bool true) ∧ st = [] := by
  refine FSem.enter' (C := C) (n := 12) Tryd.func3 rfl rfl ok_3 (by simp) ?_
  simp only [argEnv]
  refine WC.rs fun K hK => ?_
  simp (maxSteps := 1000000) only [↓yld_succ, ↓yld_zero, EV, EO, ED, ↓EW, ↓EI, EB, EP, EL, tyq_3, inq_3, tz_3, tyq_4, bool_4, tz_4, tyq_9, str_9, tz_9, Nat.reduceAdd, Nat.reduceSub, Nat.reduceMul, Nat.reduceLT, Nat.reduceLeDiff, Nat.reduceEqDiff, Int.reduceToNat, Int.reduceLE, Int.reduceLT, Int.reduceEq, Int.reduceNeg, reduceCtorEq, reduceIte, decide_true, decide_false, List.forall_mem_cons, List.not_mem_nil, false_implies, implies_true, Bool.and_true, Bool.true_and, and_self, Nat.sub_zero, Nat.zero_add, Nat.add_zero]
  refine hK _ ?_; try clear hK K
  refine WC.trim [0, 2, 5] ?_
  simp only [ET, Nat.reduceEqDiff, reduceIte]
  refine WC.sK fun K1 hK1 => ?_
  refine WC.rs fun K hK => ?_
  simp (maxSteps := 1000000) only [↓yld_succ, ↓yld_zero, EV, EO, ED, ↓EW, ↓EI, EB, EP, EL, tyq_3, inq_3, tz_3, tyq_4, bool_4, tz_4, tyq_9, str_9, tz_9, Nat.reduceAdd, Nat.reduceSub, Nat.reduceMul, Nat.reduceLT, Nat.reduceLeDiff, Nat.reduceEqDiff, Int.reduceToNat, Int.reduceLE, Int.reduceLT, Int.reduceEq, Int.reduceNeg, reduceCtorEq, reduceIte, decide_true, decide_false, List.forall_mem_cons, List.not_mem_nil, false_implies, implies_true, Bool.and_true, Bool.true_and, and_self, Nat.sub_zero, Nat.zero_add, Nat.add_zero]
  refine hK _ ?_; try clear hK K
  refine WC.trim [0, 2, 5] ?_
  simp only [ET, Nat.reduceEqDiff, reduceIte]
  refine WC.cond (c := .tmp 5) rfl (fun h => ?_) (fun h => ?_)
  · refine WC.rs fun K hK => ?_
    simp (maxSteps := 1000000) only [↓yld_succ, ↓yld_zero, EV, EO, ED, ↓EW, ↓EI, EB, EP, EL, tyq_3, inq_3, tz_3, tyq_4, bool_4, tz_4, tyq_9, str_9, tz_9, Nat.reduceAdd, Nat.reduceSub, Nat.reduceMul, Nat.reduceLT, Nat.reduceLeDiff, Nat.reduceEqDiff, Int.reduceToNat, Int.reduceLE, Int.reduceLT, Int.reduceEq, Int.reduceNeg, reduceCtorEq, reduceIte, decide_true, decide_false, List.forall_mem_cons, List.not_mem_nil, false_implies, implies_true, Bool.and_true, Bool.true_and, and_self, Nat.sub_zero, Nat.zero_add, Nat.add_zero]
    refine CallX.mk (CallW.pure awake_sem (by simp only [CL, and_self]) (by simp only [CL]) ?_)
    simp (maxSteps := 1000000) only [↓yld_succ, ↓yld_zero, EV, EO, ED, ↓EW, ↓EI, EB, EP, EL, tyq_3, inq_3, tz_3, tyq_4, bool_4, tz_4, tyq_9, str_9, tz_9, Nat.reduceAdd, Nat.reduceSub, Nat.reduceMul, Nat.reduceLT, Nat.reduceLeDiff, Nat.reduceEqDiff, Int.reduceToNat, Int.reduceLE, Int.reduceLT, Int.reduceEq, Int.reduceNeg, reduceCtorEq, reduceIte, decide_true, decide_false, List.forall_mem_cons, List.not_mem_nil, false_implies, implies_true, Bool.and_true, Bool.true_and, and_self, Nat.sub_zero, Nat.zero_add, Nat.add_zero]
    refine hK _ ?_; try clear hK K
    refine WC.trim [0, 2, 5] ?_
    simp only [ET, Nat.reduceEqDiff, reduceIte]
    refine WC.ret ?_
    simp (maxSteps := 1000000) only [↓yld_succ, ↓yld_zero, EV, EO, ED, ↓EW, ↓EI, EB, EP, EL, tyq_3, inq_3, tz_3, tyq_4, bool_4, tz_4, tyq_9, str_9, tz_9, Nat.reduceAdd, Nat.reduceSub, Nat.reduceMul, Nat.reduceLT, Nat.reduceLeDiff, Nat.reduceEqDiff, Int.reduceToNat, Int.reduceLE, Int.reduceLT, Int.reduceEq, Int.reduceNeg, reduceCtorEq, reduceIte, decide_true, decide_false, List.forall_mem_cons, List.not_mem_nil, false_implies, implies_true, Bool.and_true, Bool.true_and, and_self, Nat.sub_zero, Nat.zero_add, Nat.add_zero, EQ, FnQ, Tryd.results3, wResL, tup, List.reverse_cons, List.reverse_nil, true_and]
    exact endsPure (by simp only [CL]) rfl
  · refine WC.skip ?_
    try simp only [EQ, reduceIte, Nat.reduceEqDiff]
    refine hK1 _ ?_; try clear hK1 K1
    refine WC.rs fun K hK => ?_
    simp (maxSteps := 1000000) only [↓yld_succ, ↓yld_zero, EV, EO, ED, ↓EW, ↓EI, EB, EP, EL, tyq_3, inq_3, tz_3, tyq_4, bool_4, tz_4, tyq_9, str_9, tz_9, Nat.reduceAdd, Nat.reduceSub, Nat.reduceMul, Nat.reduceLT, Nat.reduceLeDiff, Nat.reduceEqDiff, Int.reduceToNat, Int.reduceLE, Int.reduceLT, Int.reduceEq, Int.reduceNeg, reduceCtorEq, reduceIte, decide_true, decide_false, List.forall_mem_cons, List.not_mem_nil, false_implies, implies_true, Bool.and_true, Bool.true_and, and_self, Nat.sub_zero, Nat.zero_add, Nat.add_zero]
    refine CallX.mk (CallW.pure (agree_sem s) (by simp only [CL, and_self]) (by simp only [CL]) ?_)
    simp (maxSteps := 1000000) only [↓yld_succ, ↓yld_zero, EV, EO, ED, ↓EW, ↓EI, EB, EP, EL, tyq_3, inq_3, tz_3, tyq_4, bool_4, tz_4, tyq_9, str_9, tz_9, Nat.reduceAdd, Nat.reduceSub, Nat.reduceMul, Nat.reduceLT, Nat.reduceLeDiff, Nat.reduceEqDiff, Int.reduceToNat, Int.reduceLE, Int.reduceLT, Int.reduceEq, Int.reduceNeg, reduceCtorEq, reduceIte, decide_true, decide_false, List.forall_mem_cons, List.not_mem_nil, false_implies, implies_true, Bool.and_true, Bool.true_and, and_self, Nat.sub_zero, Nat.zero_add, Nat.add_zero]
    refine CallX.mk (CallW.pure awake_sem (by simp only [CL, and_self]) (by simp only [CL]) ?_)
    simp (maxSteps := 1000000) only [↓yld_succ, ↓yld_zero, EV, EO, ED, ↓EW, ↓EI, EB, EP, EL, tyq_3, inq_3, tz_3, tyq_4, bool_4, tz_4, tyq_9, str_9, tz_9, Nat.reduceAdd, Nat.reduceSub, Nat.reduceMul, Nat.reduceLT, Nat.reduceLeDiff, Nat.reduceEqDiff, Int.reduceToNat, Int.reduceLE, Int.reduceLT, Int.reduceEq, Int.reduceNeg, reduceCtorEq, reduceIte, decide_true, decide_false, List.forall_mem_cons, List.not_mem_nil, false_implies, implies_true, Bool.and_true, Bool.true_and, and_self, Nat.sub_zero, Nat.zero_add, Nat.add_zero]
    refine hK _ ?_; try clear hK K
    refine WC.trim [0, 2, 5] ?_
    simp only [ET, Nat.reduceEqDiff, reduceIte]
    refine WC.ret ?_
    simp (maxSteps := 1000000) only [↓yld_succ, ↓yld_zero, EV, EO, ED, ↓EW, ↓EI, EB, EP, EL, tyq_3, inq_3, tz_3, tyq_4, bool_4, tz_4, tyq_9, str_9, tz_9, Nat.reduceAdd, Nat.reduceSub, Nat.reduceMul, Nat.reduceLT, Nat.reduceLeDiff, Nat.reduceEqDiff, Int.reduceToNat, Int.reduceLE, Int.reduceLT, Int.reduceEq, Int.reduceNeg, reduceCtorEq, reduceIte, decide_true, decide_false, List.forall_mem_cons, List.not_mem_nil, false_implies, implies_true, Bool.and_true, Bool.true_and, and_self, Nat.sub_zero, Nat.zero_add, Nat.add_zero, EQ, FnQ, Tryd.results3, wResL, tup, List.reverse_cons, List.reverse_nil, true_and]
    exact endsPure (by simp only [CL]) rfl
end Go.LexSem
