import Derived.Test.YtednoahjadghnaaDoorLexT
import Derived.Test.YtednoahjadghnaaDoorLexR
set_option linter.unusedSimpArgs false
set_option linter.unusedVariables false
set_option linter.loopingSimpArgs false
set_option maxRecDepth 100000
namespace Go.LexSem
open Go Go.V Go.Proofs

theorem pieceV_cr (xs : List Int) (a : Nat) : cr none (pieceV xs a) ≤ 2 := by
  have h : ∀ w ∈ pieces, cr none w ≤ 2 := by decide +kernel
  unfold pieceV
  rw [List.getD_eq_getElem?_getD]
  cases hq : pieces[(nV xs a 56).toNat]? with
  | none => simp [cr]
  | some w => exact h w (List.mem_of_getElem? hq)
/-- The texts of some tokens, b behind each. -/
def catB (b : List UInt8) (ts : List Tok) : List UInt8 := (ts.map fun t => t.2.1 ++ b).flatten
theorem catB_take (b : List UInt8) (ts : List Tok) {i : Nat} (h : i < ts.length) : catB b (ts.take (i + 1)) = catB b (ts.take i) ++ (ts[i].2.1 ++ b) := by
  rw [List.take_succ_eq_append_getElem h]; unfold catB
  rw [List.map_append, List.flatten_append]
  simp only [List.map_cons, List.map_nil, List.flatten_cons, List.flatten_nil, List.append_nil]
theorem catB_len (b : List UInt8) (hb : b.length ≤ 10) : ∀ ts : List Tok, (catB b ts).length ≤ 10 * ts.length + (ts.map fun t => t.2.1.length).sum
  | [] => by simp [catB]
  | t :: ts => by
    have := catB_len b hb ts
    simp only [catB, List.map_cons, List.flatten_cons, List.length_append, List.length_cons, List.sum_cons] at this ⊢
    omega
theorem catB_proj (b : List UInt8) : ∀ us : List Tok, catB b us = joinB b (us.map proj)
  | [] => rfl
  | u :: us => by
    have := catB_proj b us
    simp only [catB, joinB, List.map_cons, List.flatten_cons] at this ⊢
    rw [this]; rfl
theorem sum_proj : ∀ us : List Tok, (us.map fun t => t.2.1.length).sum = ((us.map proj).map fun kt => kt.2.length).sum
  | [] => rfl
  | u :: us => by simp only [List.map_cons, List.sum_cons, sum_proj us]; rfl

theorem le_sumT : ∀ (ts : List Tok) {i : Nat} (h : i < ts.length), ts[i].2.1.length ≤ (ts.map fun t => t.2.1.length).sum
  | [], i, h => by simp at h
  | t :: ts, 0, h => by simp
  | t :: ts, i + 1, h => by
    have := le_sumT ts (i := i) (by simpa using h)
    simp only [List.getElem_cons_succ, List.map_cons, List.sum_cons]; omega
theorem proj_at {us vs : List Tok} (h : us.map proj = vs.map proj) {i : Nat} (hu : i < us.length) (hv : i < vs.length) : us[i].1 = vs[i].1 ∧ us[i].2.1 = vs[i].2.1 := by
  have h1 : (us.map proj)[i]'(by simpa using hu) = (vs.map proj)[i]'(by simpa using hv) := by simp only [h]
  simp only [List.getElem_map, proj, Prod.mk.injEq] at h1
  exact h1

theorem lexerBlanks_sem (xs : List Int) (hx : ∀ z ∈ xs, (Lit.int .i64 z).wf = true) (z : Int) (hz : (Lit.int .u8 z).wf = true) : FSem C 6 [.slc (xs.map (.int .i64)), .int .u8 z] [] fun r st => r = .ret (.bool true) ∧ st = [] := by
  have hx1 : ∀ z ∈ xs.take 1000, in64 z := fun z hz => by
    have := hx z (List.mem_of_mem_take hz)
    simp [Lit.wf, IntKind.min, IntKind.max, IntKind.signed, IntKind.bits] at this
    exact this
  have hl1 : (xs.take 1000).length ≤ 1000 := by simp; omega
  obtain ⟨n, rfl, hn⟩ : ∃ n : Nat, z = n ∧ n ≤ 255 := by
    simp [Lit.wf, IntKind.min, IntKind.max, IntKind.signed, IntKind.bits] at hz
    exact ⟨z.toNat, by omega, by omega⟩
  have h5 : (n : Int).tmod 5 = ((n % 5 : Nat) : Int) := by rw [Int.tmod_eq_emod_of_nonneg (by omega)]; omega
  obtain ⟨bl, hbl⟩ : ∃ bl, betw[n % 5]? = some bl := ⟨betw[n % 5]'(by show n % 5 < 5; omega), by simp⟩
  have hbm : bl ∈ betw := List.mem_of_getElem? hbl
  refine FSem.enter' (C := C) (n := 116) Tryd.func6 rfl rfl ok_6 (by simp) ?_
  simp only [argEnv]
  refine WC.rs fun K hK => ?_
  simp (maxSteps := 1000000) only [↓yld_succ, ↓yld_zero, EV, EO, ED, ↓EW, ↓EI, EB, EP, EL, tyq_0, tz_0, tyq_3, inq_3, tz_3, tyq_4, bool_4, tz_4, tyq_5, inq_5, tz_5, tyq_9, str_9, tz_9, tyq_24, slq_24, tz_24, tyq_25, ptq_25, tz_25, tyq_30, slq_30, tz_30, tyq_32, fq_32_0, fq_32_1, bq_32, feq_32, tz_32, tyq_33, inq_33, tz_33, tyq_34, tz_34, tyq_37, fq_37_0, fq_37_1, fq_37_2, fq_37_3, bq_37, feq_37, tz_37, tyq_38, slq_38, tz_38, Nat.reduceAdd, Nat.reduceSub, Nat.reduceMul, Nat.reduceLT, Nat.reduceLeDiff, Nat.reduceEqDiff, Int.reduceToNat, Int.reduceLE, Int.reduceLT, Int.reduceEq, Int.reduceNeg, reduceCtorEq, reduceIte, decide_true, decide_false, List.forall_mem_cons, List.not_mem_nil, false_implies, implies_true, Bool.and_true, Bool.true_and, and_self, Nat.sub_zero, Nat.zero_add, Nat.add_zero]
  refine hK _ ?_; try clear hK K
  refine WC.trim [0, 1, 4, 5, 6, 7, 8, 10, 11, 12, 13, 14, 16, 17, 29, 43, 58, 84, 88, 114] ?_
  simp only [ET, Nat.reduceEqDiff, reduceIte]
  refine WC.rs fun K hK => ?_
  simp (maxSteps := 1000000) only [↓yld_succ, ↓yld_zero, EV, EO, ED, ↓EW, ↓EI, EB, EP, EL, tyq_0, tz_0, tyq_3, inq_3, tz_3, tyq_4, bool_4, tz_4, tyq_5, inq_5, tz_5, tyq_9, str_9, tz_9, tyq_24, slq_24, tz_24, tyq_25, ptq_25, tz_25, tyq_30, slq_30, tz_30, tyq_32, fq_32_0, fq_32_1, bq_32, feq_32, tz_32, tyq_33, inq_33, tz_33, tyq_34, tz_34, tyq_37, fq_37_0, fq_37_1, fq_37_2, fq_37_3, bq_37, feq_37, tz_37, tyq_38, slq_38, tz_38, Nat.reduceAdd, Nat.reduceSub, Nat.reduceMul, Nat.reduceLT, Nat.reduceLeDiff, Nat.reduceEqDiff, Int.reduceToNat, Int.reduceLE, Int.reduceLT, Int.reduceEq, Int.reduceNeg, reduceCtorEq, reduceIte, decide_true, decide_false, List.forall_mem_cons, List.not_mem_nil, false_implies, implies_true, Bool.and_true, Bool.true_and, and_self, Nat.sub_zero, Nat.zero_add, Nat.add_zero]
  refine CallX.mk (CallW.new1 (new_sem xs) (by simp only [CL, ints_closed, and_self]) (src_closed _ _ _) ?_)
  generalize xs.take 1000 = ys at hx1 hl1
  simp (maxSteps := 1000000) only [↓yld_succ, ↓yld_zero, EV, EO, ED, ↓EW, ↓EI, EB, EP, EL, tyq_0, tz_0, tyq_3, inq_3, tz_3, tyq_4, bool_4, tz_4, tyq_5, inq_5, tz_5, tyq_9, str_9, tz_9, tyq_24, slq_24, tz_24, tyq_25, ptq_25, tz_25, tyq_30, slq_30, tz_30, tyq_32, fq_32_0, fq_32_1, bq_32, feq_32, tz_32, tyq_33, inq_33, tz_33, tyq_34, tz_34, tyq_37, fq_37_0, fq_37_1, fq_37_2, fq_37_3, bq_37, feq_37, tz_37, tyq_38, slq_38, tz_38, Nat.reduceAdd, Nat.reduceSub, Nat.reduceMul, Nat.reduceLT, Nat.reduceLeDiff, Nat.reduceEqDiff, Int.reduceToNat, Int.reduceLE, Int.reduceLT, Int.reduceEq, Int.reduceNeg, reduceCtorEq, reduceIte, decide_true, decide_false, List.forall_mem_cons, List.not_mem_nil, false_implies, implies_true, Bool.and_true, Bool.true_and, and_self, Nat.sub_zero, Nat.zero_add, Nat.add_zero]
  refine hK _ ?_; try clear hK K
  refine WC.trim [0, 1, 4, 5, 6, 7, 8, 10, 11, 12, 13, 14, 16, 17, 29, 43, 58, 84, 88, 114] ?_
  simp only [ET, Nat.reduceEqDiff, reduceIte]
  refine WC.rs fun K hK => ?_
  simp (maxSteps := 1000000) only [↓yld_succ, ↓yld_zero, EV, EO, ED, ↓EW, ↓EI, EB, EP, EL, tyq_0, tz_0, tyq_3, inq_3, tz_3, tyq_4, bool_4, tz_4, tyq_5, inq_5, tz_5, tyq_9, str_9, tz_9, tyq_24, slq_24, tz_24, tyq_25, ptq_25, tz_25, tyq_30, slq_30, tz_30, tyq_32, fq_32_0, fq_32_1, bq_32, feq_32, tz_32, tyq_33, inq_33, tz_33, tyq_34, tz_34, tyq_37, fq_37_0, fq_37_1, fq_37_2, fq_37_3, bq_37, feq_37, tz_37, tyq_38, slq_38, tz_38, Nat.reduceAdd, Nat.reduceSub, Nat.reduceMul, Nat.reduceLT, Nat.reduceLeDiff, Nat.reduceEqDiff, Int.reduceToNat, Int.reduceLE, Int.reduceLT, Int.reduceEq, Int.reduceNeg, reduceCtorEq, reduceIte, decide_true, decide_false, List.forall_mem_cons, List.not_mem_nil, false_implies, implies_true, Bool.and_true, Bool.true_and, and_self, Nat.sub_zero, Nat.zero_add, Nat.add_zero]
  refine hK _ ?_; try clear hK K
  refine WC.trim [0, 1, 4, 5, 6, 7, 8, 10, 11, 12, 13, 14, 16, 17, 29, 43, 58, 84, 88, 114] ?_
  simp only [ET, Nat.reduceEqDiff, reduceIte]
  refine WC.sK fun K1 hK1 => ?_
  refine WC.rs fun K hK => ?_
  simp (maxSteps := 1000000) only [↓yld_succ, ↓yld_zero, EV, EO, ED, ↓EW, ↓EI, EB, EP, EL, tyq_0, tz_0, tyq_3, inq_3, tz_3, tyq_4, bool_4, tz_4, tyq_5, inq_5, tz_5, tyq_9, str_9, tz_9, tyq_24, slq_24, tz_24, tyq_25, ptq_25, tz_25, tyq_30, slq_30, tz_30, tyq_32, fq_32_0, fq_32_1, bq_32, feq_32, tz_32, tyq_33, inq_33, tz_33, tyq_34, tz_34, tyq_37, fq_37_0, fq_37_1, fq_37_2, fq_37_3, bq_37, feq_37, tz_37, tyq_38, slq_38, tz_38, Nat.reduceAdd, Nat.reduceSub, Nat.reduceMul, Nat.reduceLT, Nat.reduceLeDiff, Nat.reduceEqDiff, Int.reduceToNat, Int.reduceLE, Int.reduceLT, Int.reduceEq, Int.reduceNeg, reduceCtorEq, reduceIte, decide_true, decide_false, List.forall_mem_cons, List.not_mem_nil, false_implies, implies_true, Bool.and_true, Bool.true_and, and_self, Nat.sub_zero, Nat.zero_add, Nat.add_zero]
  refine hK _ ?_; try clear hK K
  refine WC.trim [0, 1, 4, 5, 6, 7, 8, 10, 11, 12, 13, 14, 16, 17, 29, 43, 58, 84, 88, 114] ?_
  simp only [ET, Nat.reduceEqDiff, reduceIte]
  refine WC.b1 ?_
  refine WC.loop (X := Nat × Nat × List UInt8) (fun x => ⟨[(7, .int .i64 x.1), (6, .str x.2.2), (5, .ptr (.l 0) 0 0), (4, .bool false), (1, .int .u8 n)], [], [src ys x.2.1 0], []⟩)
    (fun x => x.1 ≤ 20 ∧ x.2.1 ≤ ys.length ∧ x.2.2.length ≤ 61 * x.1 ∧ cr none x.2.2 ≤ 2 * x.1) (fun x => 20 - x.1) (0, 0, []) [0] ⟨Nat.zero_le _, Nat.zero_le _, by simp, by simp [cr]⟩ ?_ ?_
  · refine ⟨by simp, by simp (maxSteps := 1000000) only [↓yld_succ, ↓yld_zero, EV, EO, ED, ↓EW, ↓EI, EB, EP, EL, tyq_0, tz_0, tyq_3, inq_3, tz_3, tyq_4, bool_4, tz_4, tyq_5, inq_5, tz_5, tyq_9, str_9, tz_9, tyq_24, slq_24, tz_24, tyq_25, ptq_25, tz_25, tyq_30, slq_30, tz_30, tyq_32, fq_32_0, fq_32_1, bq_32, feq_32, tz_32, tyq_33, inq_33, tz_33, tyq_34, tz_34, tyq_37, fq_37_0, fq_37_1, fq_37_2, fq_37_3, bq_37, feq_37, tz_37, tyq_38, slq_38, tz_38, Nat.reduceAdd, Nat.reduceSub, Nat.reduceMul, Nat.reduceLT, Nat.reduceLeDiff, Nat.reduceEqDiff, Int.reduceToNat, Int.reduceLE, Int.reduceLT, Int.reduceEq, Int.reduceNeg, reduceCtorEq, reduceIte, decide_true, decide_false, List.forall_mem_cons, List.not_mem_nil, false_implies, implies_true, Bool.and_true, Bool.true_and, and_self, Nat.sub_zero, Nat.zero_add, Nat.add_zero, ER, and_self, src, ints_closed ys _], by simp (maxSteps := 1000000) only [↓yld_succ, ↓yld_zero, EV, EO, ED, ↓EW, ↓EI, EB, EP, EL, tyq_0, tz_0, tyq_3, inq_3, tz_3, tyq_4, bool_4, tz_4, tyq_5, inq_5, tz_5, tyq_9, str_9, tz_9, tyq_24, slq_24, tz_24, tyq_25, ptq_25, tz_25, tyq_30, slq_30, tz_30, tyq_32, fq_32_0, fq_32_1, bq_32, feq_32, tz_32, tyq_33, inq_33, tz_33, tyq_34, tz_34, tyq_37, fq_37_0, fq_37_1, fq_37_2, fq_37_3, bq_37, feq_37, tz_37, tyq_38, slq_38, tz_38, Nat.reduceAdd, Nat.reduceSub, Nat.reduceMul, Nat.reduceLT, Nat.reduceLeDiff, Nat.reduceEqDiff, Int.reduceToNat, Int.reduceLE, Int.reduceLT, Int.reduceEq, Int.reduceNeg, reduceCtorEq, reduceIte, decide_true, decide_false, List.forall_mem_cons, List.not_mem_nil, false_implies, implies_true, Bool.and_true, Bool.true_and, and_self, Nat.sub_zero, Nat.zero_add, Nat.add_zero, ER, src, ints_closed ys _], by simp (maxSteps := 1000000) only [↓yld_succ, ↓yld_zero, EV, EO, ED, ↓EW, ↓EI, EB, EP, EL, tyq_0, tz_0, tyq_3, inq_3, tz_3, tyq_4, bool_4, tz_4, tyq_5, inq_5, tz_5, tyq_9, str_9, tz_9, tyq_24, slq_24, tz_24, tyq_25, ptq_25, tz_25, tyq_30, slq_30, tz_30, tyq_32, fq_32_0, fq_32_1, bq_32, feq_32, tz_32, tyq_33, inq_33, tz_33, tyq_34, tz_34, tyq_37, fq_37_0, fq_37_1, fq_37_2, fq_37_3, bq_37, feq_37, tz_37, tyq_38, slq_38, tz_38, Nat.reduceAdd, Nat.reduceSub, Nat.reduceMul, Nat.reduceLT, Nat.reduceLeDiff, Nat.reduceEqDiff, Int.reduceToNat, Int.reduceLE, Int.reduceLT, Int.reduceEq, Int.reduceNeg, reduceCtorEq, reduceIte, decide_true, decide_false, List.forall_mem_cons, List.not_mem_nil, false_implies, implies_true, Bool.and_true, Bool.true_and, and_self, Nat.sub_zero, Nat.zero_add, Nat.add_zero, ER, pick, src, ints_closed ys _], rfl⟩
  · rintro ⟨i, a, text⟩ ⟨h1, h2, h3, h4⟩
    dsimp only at h1 h2 h3 h4 ⊢
    refine WC.sK fun K2 hK2 => ?_
    refine WC.rj ⟨[(29, .bool (decide (i < 20) && (decide (i < 2) || decide (a < ys.length)))), (7, .int .i64 i), (6, .str text), (5, .ptr (.l 0) 0 0), (4, .bool false), (1, .int .u8 n)], [], [src ys a 0], []⟩ ?_ ?_
    · simp (maxSteps := 1000000) only [↓yld_succ, ↓yld_zero, EV, EO, ED, ↓EW, ↓EI, EB, EP, EL, tyq_0, tz_0, tyq_3, inq_3, tz_3, tyq_4, bool_4, tz_4, tyq_5, inq_5, tz_5, tyq_9, str_9, tz_9, tyq_24, slq_24, tz_24, tyq_25, ptq_25, tz_25, tyq_30, slq_30, tz_30, tyq_32, fq_32_0, fq_32_1, bq_32, feq_32, tz_32, tyq_33, inq_33, tz_33, tyq_34, tz_34, tyq_37, fq_37_0, fq_37_1, fq_37_2, fq_37_3, bq_37, feq_37, tz_37, tyq_38, slq_38, tz_38, Nat.reduceAdd, Nat.reduceSub, Nat.reduceMul, Nat.reduceLT, Nat.reduceLeDiff, Nat.reduceEqDiff, Int.reduceToNat, Int.reduceLE, Int.reduceLT, Int.reduceEq, Int.reduceNeg, reduceCtorEq, reduceIte, decide_true, decide_false, List.forall_mem_cons, List.not_mem_nil, false_implies, implies_true, Bool.and_true, Bool.true_and, and_self, Nat.sub_zero, Nat.zero_add, Nat.add_zero]
      repeat' ((first | refine gW_split (fun h => ?_) (fun h => ?_) | refine gP_split (fun h => ?_) (fun h => ?_) | refine CallX.mk (CallW.one (r := .l 0) (more_sem ys a 0 hl1) rfl (src_closed _ _ _) (src_closed _ _ _) (by simp only [CL]) (by simp [renL, ren, fCall]) ?_)) <;> (try simp (maxSteps := 1000000) only [↓yld_succ, ↓yld_zero, EV, EO, ED, ↓EW, ↓EI, EB, EP, EL, tyq_0, tz_0, tyq_3, inq_3, tz_3, tyq_4, bool_4, tz_4, tyq_5, inq_5, tz_5, tyq_9, str_9, tz_9, tyq_24, slq_24, tz_24, tyq_25, ptq_25, tz_25, tyq_30, slq_30, tz_30, tyq_32, fq_32_0, fq_32_1, bq_32, feq_32, tz_32, tyq_33, inq_33, tz_33, tyq_34, tz_34, tyq_37, fq_37_0, fq_37_1, fq_37_2, fq_37_3, bq_37, feq_37, tz_37, tyq_38, slq_38, tz_38, Nat.reduceAdd, Nat.reduceSub, Nat.reduceMul, Nat.reduceLT, Nat.reduceLeDiff, Nat.reduceEqDiff, Int.reduceToNat, Int.reduceLE, Int.reduceLT, Int.reduceEq, Int.reduceNeg, reduceCtorEq, reduceIte, decide_true, decide_false, List.forall_mem_cons, List.not_mem_nil, false_implies, implies_true, Bool.and_true, Bool.true_and, and_self, Nat.sub_zero, Nat.zero_add, Nat.add_zero, h, Bool.not_true, Bool.not_false]))
      all_goals
        refine ⟨[0], ?_⟩
        refine ⟨by simp, ?_, by simp (maxSteps := 1000000) only [↓yld_succ, ↓yld_zero, EV, EO, ED, ↓EW, ↓EI, EB, EP, EL, tyq_0, tz_0, tyq_3, inq_3, tz_3, tyq_4, bool_4, tz_4, tyq_5, inq_5, tz_5, tyq_9, str_9, tz_9, tyq_24, slq_24, tz_24, tyq_25, ptq_25, tz_25, tyq_30, slq_30, tz_30, tyq_32, fq_32_0, fq_32_1, bq_32, feq_32, tz_32, tyq_33, inq_33, tz_33, tyq_34, tz_34, tyq_37, fq_37_0, fq_37_1, fq_37_2, fq_37_3, bq_37, feq_37, tz_37, tyq_38, slq_38, tz_38, Nat.reduceAdd, Nat.reduceSub, Nat.reduceMul, Nat.reduceLT, Nat.reduceLeDiff, Nat.reduceEqDiff, Int.reduceToNat, Int.reduceLE, Int.reduceLT, Int.reduceEq, Int.reduceNeg, reduceCtorEq, reduceIte, decide_true, decide_false, List.forall_mem_cons, List.not_mem_nil, false_implies, implies_true, Bool.and_true, Bool.true_and, and_self, Nat.sub_zero, Nat.zero_add, Nat.add_zero, ER, src, ints_closed ys _], by simp (maxSteps := 1000000) only [↓yld_succ, ↓yld_zero, EV, EO, ED, ↓EW, ↓EI, EB, EP, EL, tyq_0, tz_0, tyq_3, inq_3, tz_3, tyq_4, bool_4, tz_4, tyq_5, inq_5, tz_5, tyq_9, str_9, tz_9, tyq_24, slq_24, tz_24, tyq_25, ptq_25, tz_25, tyq_30, slq_30, tz_30, tyq_32, fq_32_0, fq_32_1, bq_32, feq_32, tz_32, tyq_33, inq_33, tz_33, tyq_34, tz_34, tyq_37, fq_37_0, fq_37_1, fq_37_2, fq_37_3, bq_37, feq_37, tz_37, tyq_38, slq_38, tz_38, Nat.reduceAdd, Nat.reduceSub, Nat.reduceMul, Nat.reduceLT, Nat.reduceLeDiff, Nat.reduceEqDiff, Int.reduceToNat, Int.reduceLE, Int.reduceLT, Int.reduceEq, Int.reduceNeg, reduceCtorEq, reduceIte, decide_true, decide_false, List.forall_mem_cons, List.not_mem_nil, false_implies, implies_true, Bool.and_true, Bool.true_and, and_self, Nat.sub_zero, Nat.zero_add, Nat.add_zero, ER, pick, src, ints_closed ys _], rfl⟩
        simp (maxSteps := 1000000) only [↓yld_succ, ↓yld_zero, EV, EO, ED, ↓EW, ↓EI, EB, EP, EL, tyq_0, tz_0, tyq_3, inq_3, tz_3, tyq_4, bool_4, tz_4, tyq_5, inq_5, tz_5, tyq_9, str_9, tz_9, tyq_24, slq_24, tz_24, tyq_25, ptq_25, tz_25, tyq_30, slq_30, tz_30, tyq_32, fq_32_0, fq_32_1, bq_32, feq_32, tz_32, tyq_33, inq_33, tz_33, tyq_34, tz_34, tyq_37, fq_37_0, fq_37_1, fq_37_2, fq_37_3, bq_37, feq_37, tz_37, tyq_38, slq_38, tz_38, Nat.reduceAdd, Nat.reduceSub, Nat.reduceMul, Nat.reduceLT, Nat.reduceLeDiff, Nat.reduceEqDiff, Int.reduceToNat, Int.reduceLE, Int.reduceLT, Int.reduceEq, Int.reduceNeg, reduceCtorEq, reduceIte, decide_true, decide_false, List.forall_mem_cons, List.not_mem_nil, false_implies, implies_true, Bool.and_true, Bool.true_and, and_self, Nat.sub_zero, Nat.zero_add, Nat.add_zero, ER, and_self, src, ints_closed ys _]
        clear hK1 hK2
        simp_all
        try first | omega | (intro _; omega) | (rw [Bool.eq_iff_iff]; simp; omega)
    · refine WC.cond (c := .tmp 29) rfl (fun h => ?_) (fun h => ?_)
      · have hc : i < 20 := by clear hK1 hK2; simp at h; exact h.1
        have hp := pieceV_len ys a
        have hcr := pieceV_cr ys a
        have hcat := cr_cat text (pieceV ys a)
        have hnA := nA_le h2 56
        refine WC.skip ?_
        try simp only [EQ, reduceIte, Nat.reduceEqDiff]
        refine hK2 _ ?_; try clear hK2 K2
        refine WC.bs fun K3 hK3 => ?_
        refine WC.r1 ?_
        simp (maxSteps := 1000000) only [↓yld_succ, ↓yld_zero, EV, EO, ED, ↓EW, ↓EI, EB, EP, EL, tyq_0, tz_0, tyq_3, inq_3, tz_3, tyq_4, bool_4, tz_4, tyq_5, inq_5, tz_5, tyq_9, str_9, tz_9, tyq_24, slq_24, tz_24, tyq_25, ptq_25, tz_25, tyq_30, slq_30, tz_30, tyq_32, fq_32_0, fq_32_1, bq_32, feq_32, tz_32, tyq_33, inq_33, tz_33, tyq_34, tz_34, tyq_37, fq_37_0, fq_37_1, fq_37_2, fq_37_3, bq_37, feq_37, tz_37, tyq_38, slq_38, tz_38, Nat.reduceAdd, Nat.reduceSub, Nat.reduceMul, Nat.reduceLT, Nat.reduceLeDiff, Nat.reduceEqDiff, Int.reduceToNat, Int.reduceLE, Int.reduceLT, Int.reduceEq, Int.reduceNeg, reduceCtorEq, reduceIte, decide_true, decide_false, List.forall_mem_cons, List.not_mem_nil, false_implies, implies_true, Bool.and_true, Bool.true_and, and_self, Nat.sub_zero, Nat.zero_add, Nat.add_zero]
        refine CallX.mk (CallW.one (r := .l 0) (piece_sem ys a 0 hl1 h2 hx1) rfl (src_closed _ _ _) (src_closed _ _ _) (by simp only [CL]) (by simp [renL, ren, fCall]) ?_)
        simp (maxSteps := 1000000) only [↓yld_succ, ↓yld_zero, EV, EO, ED, ↓EW, ↓EI, EB, EP, EL, tyq_0, tz_0, tyq_3, inq_3, tz_3, tyq_4, bool_4, tz_4, tyq_5, inq_5, tz_5, tyq_9, str_9, tz_9, tyq_24, slq_24, tz_24, tyq_25, ptq_25, tz_25, tyq_30, slq_30, tz_30, tyq_32, fq_32_0, fq_32_1, bq_32, feq_32, tz_32, tyq_33, inq_33, tz_33, tyq_34, tz_34, tyq_37, fq_37_0, fq_37_1, fq_37_2, fq_37_3, bq_37, feq_37, tz_37, tyq_38, slq_38, tz_38, Nat.reduceAdd, Nat.reduceSub, Nat.reduceMul, Nat.reduceLT, Nat.reduceLeDiff, Nat.reduceEqDiff, Int.reduceToNat, Int.reduceLE, Int.reduceLT, Int.reduceEq, Int.reduceNeg, reduceCtorEq, reduceIte, decide_true, decide_false, List.forall_mem_cons, List.not_mem_nil, false_implies, implies_true, Bool.and_true, Bool.true_and, and_self, Nat.sub_zero, Nat.zero_add, Nat.add_zero]
        repeat refine ⟨by omega, ?_⟩
        try simp only [EQ, reduceIte, Nat.reduceEqDiff]
        refine hK3 _ ?_; try clear hK3 K3
        refine WC.r1 ?_
        simp (maxSteps := 1000000) (disch := omega) only [↓yld_succ, ↓yld_zero, EV, EO, ED, ↓EW, ↓EI, EB, EP, EL, tyq_0, tz_0, tyq_3, inq_3, tz_3, tyq_4, bool_4, tz_4, tyq_5, inq_5, tz_5, tyq_9, str_9, tz_9, tyq_24, slq_24, tz_24, tyq_25, ptq_25, tz_25, tyq_30, slq_30, tz_30, tyq_32, fq_32_0, fq_32_1, bq_32, feq_32, tz_32, tyq_33, inq_33, tz_33, tyq_34, tz_34, tyq_37, fq_37_0, fq_37_1, fq_37_2, fq_37_3, bq_37, feq_37, tz_37, tyq_38, slq_38, tz_38, Nat.reduceAdd, Nat.reduceSub, Nat.reduceMul, Nat.reduceLT, Nat.reduceLeDiff, Nat.reduceEqDiff, Int.reduceToNat, Int.reduceLE, Int.reduceLT, Int.reduceEq, Int.reduceNeg, reduceCtorEq, reduceIte, decide_true, decide_false, List.forall_mem_cons, List.not_mem_nil, false_implies, implies_true, Bool.and_true, Bool.true_and, and_self, Nat.sub_zero, Nat.zero_add, Nat.add_zero, w64]
        try simp only [EQ, reduceIte, Nat.reduceEqDiff]
        refine ⟨(i + 1, nA ys a 56, text ++ pieceV ys a), [0], ⟨by dsimp only; omega, hnA, by dsimp only; simp only [List.length_append]; omega, by dsimp only; omega⟩, by dsimp only; omega, ?_⟩
        refine ⟨by simp, by simp (maxSteps := 1000000) only [↓yld_succ, ↓yld_zero, EV, EO, ED, ↓EW, ↓EI, EB, EP, EL, tyq_0, tz_0, tyq_3, inq_3, tz_3, tyq_4, bool_4, tz_4, tyq_5, inq_5, tz_5, tyq_9, str_9, tz_9, tyq_24, slq_24, tz_24, tyq_25, ptq_25, tz_25, tyq_30, slq_30, tz_30, tyq_32, fq_32_0, fq_32_1, bq_32, feq_32, tz_32, tyq_33, inq_33, tz_33, tyq_34, tz_34, tyq_37, fq_37_0, fq_37_1, fq_37_2, fq_37_3, bq_37, feq_37, tz_37, tyq_38, slq_38, tz_38, Nat.reduceAdd, Nat.reduceSub, Nat.reduceMul, Nat.reduceLT, Nat.reduceLeDiff, Nat.reduceEqDiff, Int.reduceToNat, Int.reduceLE, Int.reduceLT, Int.reduceEq, Int.reduceNeg, reduceCtorEq, reduceIte, decide_true, decide_false, List.forall_mem_cons, List.not_mem_nil, false_implies, implies_true, Bool.and_true, Bool.true_and, and_self, Nat.sub_zero, Nat.zero_add, Nat.add_zero, ER, and_self, src, ints_closed ys _, Int.natCast_add], by simp (maxSteps := 1000000) only [↓yld_succ, ↓yld_zero, EV, EO, ED, ↓EW, ↓EI, EB, EP, EL, tyq_0, tz_0, tyq_3, inq_3, tz_3, tyq_4, bool_4, tz_4, tyq_5, inq_5, tz_5, tyq_9, str_9, tz_9, tyq_24, slq_24, tz_24, tyq_25, ptq_25, tz_25, tyq_30, slq_30, tz_30, tyq_32, fq_32_0, fq_32_1, bq_32, feq_32, tz_32, tyq_33, inq_33, tz_33, tyq_34, tz_34, tyq_37, fq_37_0, fq_37_1, fq_37_2, fq_37_3, bq_37, feq_37, tz_37, tyq_38, slq_38, tz_38, Nat.reduceAdd, Nat.reduceSub, Nat.reduceMul, Nat.reduceLT, Nat.reduceLeDiff, Nat.reduceEqDiff, Int.reduceToNat, Int.reduceLE, Int.reduceLT, Int.reduceEq, Int.reduceNeg, reduceCtorEq, reduceIte, decide_true, decide_false, List.forall_mem_cons, List.not_mem_nil, false_implies, implies_true, Bool.and_true, Bool.true_and, and_self, Nat.sub_zero, Nat.zero_add, Nat.add_zero, ER, src, ints_closed ys _, Int.natCast_add], by simp (maxSteps := 1000000) only [↓yld_succ, ↓yld_zero, EV, EO, ED, ↓EW, ↓EI, EB, EP, EL, tyq_0, tz_0, tyq_3, inq_3, tz_3, tyq_4, bool_4, tz_4, tyq_5, inq_5, tz_5, tyq_9, str_9, tz_9, tyq_24, slq_24, tz_24, tyq_25, ptq_25, tz_25, tyq_30, slq_30, tz_30, tyq_32, fq_32_0, fq_32_1, bq_32, feq_32, tz_32, tyq_33, inq_33, tz_33, tyq_34, tz_34, tyq_37, fq_37_0, fq_37_1, fq_37_2, fq_37_3, bq_37, feq_37, tz_37, tyq_38, slq_38, tz_38, Nat.reduceAdd, Nat.reduceSub, Nat.reduceMul, Nat.reduceLT, Nat.reduceLeDiff, Nat.reduceEqDiff, Int.reduceToNat, Int.reduceLE, Int.reduceLT, Int.reduceEq, Int.reduceNeg, reduceCtorEq, reduceIte, decide_true, decide_false, List.forall_mem_cons, List.not_mem_nil, false_implies, implies_true, Bool.and_true, Bool.true_and, and_self, Nat.sub_zero, Nat.zero_add, Nat.add_zero, ER, pick, src, ints_closed ys _, Int.natCast_add], rfl⟩
      · refine WC.exit ?_
        simp only [EQ, reduceIte, Nat.reduceEqDiff]
        try simp only [EQ, reduceIte, Nat.reduceEqDiff]
        refine hK1 _ ?_; try clear hK1 K1
        have ht := toks_sem text
        have htD := tokensF_D (s := text) (by omega)
        cases hq : lexD text with
        | none =>
          rw [hq] at htD
          generalize tokensF text = tr at ht htD
          obtain ⟨ts, ⟨l, c⟩, e⟩ := tr
          dsimp only at ht htD
          refine WC.rs fun K hK => ?_
          simp (maxSteps := 1000000) only [↓yld_succ, ↓yld_zero, EV, EO, ED, ↓EW, ↓EI, EB, EP, EL, tyq_0, tz_0, tyq_3, inq_3, tz_3, tyq_4, bool_4, tz_4, tyq_5, inq_5, tz_5, tyq_9, str_9, tz_9, tyq_24, slq_24, tz_24, tyq_25, ptq_25, tz_25, tyq_30, slq_30, tz_30, tyq_32, fq_32_0, fq_32_1, bq_32, feq_32, tz_32, tyq_33, inq_33, tz_33, tyq_34, tz_34, tyq_37, fq_37_0, fq_37_1, fq_37_2, fq_37_3, bq_37, feq_37, tz_37, tyq_38, slq_38, tz_38, Nat.reduceAdd, Nat.reduceSub, Nat.reduceMul, Nat.reduceLT, Nat.reduceLeDiff, Nat.reduceEqDiff, Int.reduceToNat, Int.reduceLE, Int.reduceLT, Int.reduceEq, Int.reduceNeg, reduceCtorEq, reduceIte, decide_true, decide_false, List.forall_mem_cons, List.not_mem_nil, false_implies, implies_true, Bool.and_true, Bool.true_and, and_self, Nat.sub_zero, Nat.zero_add, Nat.add_zero]
          refine CallX.mk (CallW.pure ht (by simp only [CL, and_self]) (by cases ts <;> simp only [CL, tokv, pl, tkv_closed, and_self]) ?_)
          simp (maxSteps := 1000000) only [↓yld_succ, ↓yld_zero, EV, EO, ED, ↓EW, ↓EI, EB, EP, EL, tyq_0, tz_0, tyq_3, inq_3, tz_3, tyq_4, bool_4, tz_4, tyq_5, inq_5, tz_5, tyq_9, str_9, tz_9, tyq_24, slq_24, tz_24, tyq_25, ptq_25, tz_25, tyq_30, slq_30, tz_30, tyq_32, fq_32_0, fq_32_1, bq_32, feq_32, tz_32, tyq_33, inq_33, tz_33, tyq_34, tz_34, tyq_37, fq_37_0, fq_37_1, fq_37_2, fq_37_3, bq_37, feq_37, tz_37, tyq_38, slq_38, tz_38, Nat.reduceAdd, Nat.reduceSub, Nat.reduceMul, Nat.reduceLT, Nat.reduceLeDiff, Nat.reduceEqDiff, Int.reduceToNat, Int.reduceLE, Int.reduceLT, Int.reduceEq, Int.reduceNeg, reduceCtorEq, reduceIte, decide_true, decide_false, List.forall_mem_cons, List.not_mem_nil, false_implies, implies_true, Bool.and_true, Bool.true_and, and_self, Nat.sub_zero, Nat.zero_add, Nat.add_zero, pl]
          refine hK _ ?_; try clear hK K
          refine WC.trim [0, 1, 4, 5, 6, 7, 8, 10, 11, 12, 13, 14, 16, 17, 29, 43, 58, 84, 88, 114] ?_
          simp only [ET, Nat.reduceEqDiff, reduceIte]
          refine WC.sK fun K4 hK4 => ?_
          refine WC.rs fun K hK => ?_
          simp (maxSteps := 1000000) only [↓yld_succ, ↓yld_zero, EV, EO, ED, ↓EW, ↓EI, EB, EP, EL, tyq_0, tz_0, tyq_3, inq_3, tz_3, tyq_4, bool_4, tz_4, tyq_5, inq_5, tz_5, tyq_9, str_9, tz_9, tyq_24, slq_24, tz_24, tyq_25, ptq_25, tz_25, tyq_30, slq_30, tz_30, tyq_32, fq_32_0, fq_32_1, bq_32, feq_32, tz_32, tyq_33, inq_33, tz_33, tyq_34, tz_34, tyq_37, fq_37_0, fq_37_1, fq_37_2, fq_37_3, bq_37, feq_37, tz_37, tyq_38, slq_38, tz_38, Nat.reduceAdd, Nat.reduceSub, Nat.reduceMul, Nat.reduceLT, Nat.reduceLeDiff, Nat.reduceEqDiff, Int.reduceToNat, Int.reduceLE, Int.reduceLT, Int.reduceEq, Int.reduceNeg, reduceCtorEq, reduceIte, decide_true, decide_false, List.forall_mem_cons, List.not_mem_nil, false_implies, implies_true, Bool.and_true, Bool.true_and, and_self, Nat.sub_zero, Nat.zero_add, Nat.add_zero]
          refine hK _ ?_; try clear hK K
          refine WC.trim [0, 1, 4, 5, 6, 7, 8, 10, 11, 12, 13, 14, 16, 17, 29, 43, 58, 84, 88, 114] ?_
          simp only [ET, Nat.reduceEqDiff, reduceIte]
          refine WC.cond (c := .tmp 43) rfl (fun h => ?_) (fun h => ?_)
          · refine WC.rs fun K hK => ?_
            simp (maxSteps := 1000000) only [↓yld_succ, ↓yld_zero, EV, EO, ED, ↓EW, ↓EI, EB, EP, EL, tyq_0, tz_0, tyq_3, inq_3, tz_3, tyq_4, bool_4, tz_4, tyq_5, inq_5, tz_5, tyq_9, str_9, tz_9, tyq_24, slq_24, tz_24, tyq_25, ptq_25, tz_25, tyq_30, slq_30, tz_30, tyq_32, fq_32_0, fq_32_1, bq_32, feq_32, tz_32, tyq_33, inq_33, tz_33, tyq_34, tz_34, tyq_37, fq_37_0, fq_37_1, fq_37_2, fq_37_3, bq_37, feq_37, tz_37, tyq_38, slq_38, tz_38, Nat.reduceAdd, Nat.reduceSub, Nat.reduceMul, Nat.reduceLT, Nat.reduceLeDiff, Nat.reduceEqDiff, Int.reduceToNat, Int.reduceLE, Int.reduceLT, Int.reduceEq, Int.reduceNeg, reduceCtorEq, reduceIte, decide_true, decide_false, List.forall_mem_cons, List.not_mem_nil, false_implies, implies_true, Bool.and_true, Bool.true_and, and_self, Nat.sub_zero, Nat.zero_add, Nat.add_zero]
            refine CallX.mk (CallW.pure (agree_sem text) (by simp only [CL, and_self]) (by simp only [CL]) ?_)
            simp (maxSteps := 1000000) only [↓yld_succ, ↓yld_zero, EV, EO, ED, ↓EW, ↓EI, EB, EP, EL, tyq_0, tz_0, tyq_3, inq_3, tz_3, tyq_4, bool_4, tz_4, tyq_5, inq_5, tz_5, tyq_9, str_9, tz_9, tyq_24, slq_24, tz_24, tyq_25, ptq_25, tz_25, tyq_30, slq_30, tz_30, tyq_32, fq_32_0, fq_32_1, bq_32, feq_32, tz_32, tyq_33, inq_33, tz_33, tyq_34, tz_34, tyq_37, fq_37_0, fq_37_1, fq_37_2, fq_37_3, bq_37, feq_37, tz_37, tyq_38, slq_38, tz_38, Nat.reduceAdd, Nat.reduceSub, Nat.reduceMul, Nat.reduceLT, Nat.reduceLeDiff, Nat.reduceEqDiff, Int.reduceToNat, Int.reduceLE, Int.reduceLT, Int.reduceEq, Int.reduceNeg, reduceCtorEq, reduceIte, decide_true, decide_false, List.forall_mem_cons, List.not_mem_nil, false_implies, implies_true, Bool.and_true, Bool.true_and, and_self, Nat.sub_zero, Nat.zero_add, Nat.add_zero]
            refine CallX.mk (CallW.pure awake_sem (by simp only [CL, and_self]) (by simp only [CL]) ?_)
            simp (maxSteps := 1000000) only [↓yld_succ, ↓yld_zero, EV, EO, ED, ↓EW, ↓EI, EB, EP, EL, tyq_0, tz_0, tyq_3, inq_3, tz_3, tyq_4, bool_4, tz_4, tyq_5, inq_5, tz_5, tyq_9, str_9, tz_9, tyq_24, slq_24, tz_24, tyq_25, ptq_25, tz_25, tyq_30, slq_30, tz_30, tyq_32, fq_32_0, fq_32_1, bq_32, feq_32, tz_32, tyq_33, inq_33, tz_33, tyq_34, tz_34, tyq_37, fq_37_0, fq_37_1, fq_37_2, fq_37_3, bq_37, feq_37, tz_37, tyq_38, slq_38, tz_38, Nat.reduceAdd, Nat.reduceSub, Nat.reduceMul, Nat.reduceLT, Nat.reduceLeDiff, Nat.reduceEqDiff, Int.reduceToNat, Int.reduceLE, Int.reduceLT, Int.reduceEq, Int.reduceNeg, reduceCtorEq, reduceIte, decide_true, decide_false, List.forall_mem_cons, List.not_mem_nil, false_implies, implies_true, Bool.and_true, Bool.true_and, and_self, Nat.sub_zero, Nat.zero_add, Nat.add_zero]
            refine hK _ ?_; try clear hK K
            refine WC.trim [0, 1, 4, 5, 6, 7, 8, 10, 11, 12, 13, 14, 16, 17, 29, 43, 58, 84, 88, 114] ?_
            simp only [ET, Nat.reduceEqDiff, reduceIte]
            refine WC.ret ?_
            simp (maxSteps := 1000000) only [↓yld_succ, ↓yld_zero, EV, EO, ED, ↓EW, ↓EI, EB, EP, EL, tyq_0, tz_0, tyq_3, inq_3, tz_3, tyq_4, bool_4, tz_4, tyq_5, inq_5, tz_5, tyq_9, str_9, tz_9, tyq_24, slq_24, tz_24, tyq_25, ptq_25, tz_25, tyq_30, slq_30, tz_30, tyq_32, fq_32_0, fq_32_1, bq_32, feq_32, tz_32, tyq_33, inq_33, tz_33, tyq_34, tz_34, tyq_37, fq_37_0, fq_37_1, fq_37_2, fq_37_3, bq_37, feq_37, tz_37, tyq_38, slq_38, tz_38, Nat.reduceAdd, Nat.reduceSub, Nat.reduceMul, Nat.reduceLT, Nat.reduceLeDiff, Nat.reduceEqDiff, Int.reduceToNat, Int.reduceLE, Int.reduceLT, Int.reduceEq, Int.reduceNeg, reduceCtorEq, reduceIte, decide_true, decide_false, List.forall_mem_cons, List.not_mem_nil, false_implies, implies_true, Bool.and_true, Bool.true_and, and_self, Nat.sub_zero, Nat.zero_add, Nat.add_zero, EQ, FnQ, Tryd.results6, wResL, tup, List.reverse_cons, List.reverse_nil, true_and]
            exact endsPure (by simp only [CL]) rfl
          · simp at h; omega
        | some ks =>
          rw [hq] at htD
          obtain ⟨us, l, c, hus, htk⟩ := htD
          rw [htk] at ht
          obtain ⟨hgood, hsum⟩ := lexD_good _ _ _ (Nat.le_refl _) hq
          have hcount := lexD_len hq
          have hgb : ([.str [32], .str [10], .str [9, 32], .str [35, 120, 10], .str [32, 35, 32, 121, 32, 35, 32, 122, 10, 10]] : List PVal)[n % 5]? = some (.str bl) := by
            have := congrArg (Option.map PVal.str) hbl
            rw [← List.getElem?_map] at this
            exact this
          obtain ⟨_, _, _, _, hb10⟩ := betw_head hbm
          have huslen : us.length = ks.length := by rw [← hus, List.length_map]
          have htslen : ∃ ts : List Tok, ts = us ++ [(5, [], l, c)] := ⟨_, rfl⟩
          obtain ⟨ts, hts⟩ := htslen
          have hlen : ts.length = ks.length + 1 := by rw [hts]; simp [huslen]
          have hsumT : (ts.map fun t => t.2.1.length).sum ≤ text.length := by
            rw [hts, List.map_append, List.sum_append, sum_proj us, hus]; simpa using hsum
          have hjoin : lexD (bl ++ catB bl ts) = some ks := by
            have e : catB bl ts = joinB bl ks ++ bl := by
              rw [hts, ← hus, ← catB_proj]; simp [catB]
            rw [e, lexD_betw hbm, lexD_join hbm ks hgood]
          have hcl : ∀ i, (catB bl (ts.take i)).length ≤ 10 * ts.length + text.length := fun i => by
            have h1 := catB_len bl hb10 (ts.take i)
            have h2 : ((ts.take i).map fun t => t.2.1.length).sum ≤ (ts.map fun t => t.2.1.length).sum := by
              conv => rhs; rw [← List.take_append_drop i ts]
              rw [List.map_append, List.sum_append]; omega
            have h3 : (ts.take i).length ≤ ts.length := by simp; omega
            omega
          have hjl : (bl ++ catB bl ts).length ≤ 8192 := by
            have := hcl ts.length
            rw [List.take_length] at this
            rw [List.length_append]; omega
          have hts0 : tokv ts = .slc (ts.map tkv) := by rw [hts, tokv_append]
          rw [← hts, hts0] at ht
          have ht2 := toks_sem (bl ++ catB bl ts)
          have htD2 := tokensF_D hjl
          rw [hjoin] at htD2
          obtain ⟨vs, l2, c2, hvs, htk2⟩ := htD2
          rw [htk2] at ht2
          obtain ⟨ws, hws⟩ : ∃ ws : List Tok, ws = vs ++ [(5, [], l2, c2)] := ⟨_, rfl⟩
          have hws0 : tokv ws = .slc (ws.map tkv) := by rw [hws, tokv_append]
          rw [← hws, hws0] at ht2
          have hsame : ws.map proj = ts.map proj := by rw [hws, hts, List.map_append, List.map_append, hvs, hus]; rfl
          have hwl : ws.length = ts.length := by have := congrArg List.length hsame; simpa using this
          have h8 : ts.length ≤ 8192 := by omega
          clear htk htk2 hsum hgood hcount hjoin
          refine WC.rs fun K hK => ?_
          simp (maxSteps := 1000000) only [↓yld_succ, ↓yld_zero, EV, EO, ED, ↓EW, ↓EI, EB, EP, EL, tyq_0, tz_0, tyq_3, inq_3, tz_3, tyq_4, bool_4, tz_4, tyq_5, inq_5, tz_5, tyq_9, str_9, tz_9, tyq_24, slq_24, tz_24, tyq_25, ptq_25, tz_25, tyq_30, slq_30, tz_30, tyq_32, fq_32_0, fq_32_1, bq_32, feq_32, tz_32, tyq_33, inq_33, tz_33, tyq_34, tz_34, tyq_37, fq_37_0, fq_37_1, fq_37_2, fq_37_3, bq_37, feq_37, tz_37, tyq_38, slq_38, tz_38, Nat.reduceAdd, Nat.reduceSub, Nat.reduceMul, Nat.reduceLT, Nat.reduceLeDiff, Nat.reduceEqDiff, Int.reduceToNat, Int.reduceLE, Int.reduceLT, Int.reduceEq, Int.reduceNeg, reduceCtorEq, reduceIte, decide_true, decide_false, List.forall_mem_cons, List.not_mem_nil, false_implies, implies_true, Bool.and_true, Bool.true_and, and_self, Nat.sub_zero, Nat.zero_add, Nat.add_zero]
          refine CallX.mk (CallW.pure ht (by simp only [CL, and_self]) (by simp only [CL, pl, tkv_closed, and_self]) ?_)
          simp (maxSteps := 1000000) only [↓yld_succ, ↓yld_zero, EV, EO, ED, ↓EW, ↓EI, EB, EP, EL, tyq_0, tz_0, tyq_3, inq_3, tz_3, tyq_4, bool_4, tz_4, tyq_5, inq_5, tz_5, tyq_9, str_9, tz_9, tyq_24, slq_24, tz_24, tyq_25, ptq_25, tz_25, tyq_30, slq_30, tz_30, tyq_32, fq_32_0, fq_32_1, bq_32, feq_32, tz_32, tyq_33, inq_33, tz_33, tyq_34, tz_34, tyq_37, fq_37_0, fq_37_1, fq_37_2, fq_37_3, bq_37, feq_37, tz_37, tyq_38, slq_38, tz_38, Nat.reduceAdd, Nat.reduceSub, Nat.reduceMul, Nat.reduceLT, Nat.reduceLeDiff, Nat.reduceEqDiff, Int.reduceToNat, Int.reduceLE, Int.reduceLT, Int.reduceEq, Int.reduceNeg, reduceCtorEq, reduceIte, decide_true, decide_false, List.forall_mem_cons, List.not_mem_nil, false_implies, implies_true, Bool.and_true, Bool.true_and, and_self, Nat.sub_zero, Nat.zero_add, Nat.add_zero, pl]
          refine hK _ ?_; try clear hK K
          refine WC.trim [0, 1, 4, 5, 6, 7, 8, 10, 11, 12, 13, 14, 16, 17, 29, 43, 58, 84, 88, 114] ?_
          simp only [ET, Nat.reduceEqDiff, reduceIte]
          refine WC.sK fun K4 hK4 => ?_
          refine WC.rs fun K hK => ?_
          simp (maxSteps := 1000000) only [↓yld_succ, ↓yld_zero, EV, EO, ED, ↓EW, ↓EI, EB, EP, EL, tyq_0, tz_0, tyq_3, inq_3, tz_3, tyq_4, bool_4, tz_4, tyq_5, inq_5, tz_5, tyq_9, str_9, tz_9, tyq_24, slq_24, tz_24, tyq_25, ptq_25, tz_25, tyq_30, slq_30, tz_30, tyq_32, fq_32_0, fq_32_1, bq_32, feq_32, tz_32, tyq_33, inq_33, tz_33, tyq_34, tz_34, tyq_37, fq_37_0, fq_37_1, fq_37_2, fq_37_3, bq_37, feq_37, tz_37, tyq_38, slq_38, tz_38, Nat.reduceAdd, Nat.reduceSub, Nat.reduceMul, Nat.reduceLT, Nat.reduceLeDiff, Nat.reduceEqDiff, Int.reduceToNat, Int.reduceLE, Int.reduceLT, Int.reduceEq, Int.reduceNeg, reduceCtorEq, reduceIte, decide_true, decide_false, List.forall_mem_cons, List.not_mem_nil, false_implies, implies_true, Bool.and_true, Bool.true_and, and_self, Nat.sub_zero, Nat.zero_add, Nat.add_zero, Int.cast_ofNat_Int, Bool.not_true]
          refine hK _ ?_; try clear hK K
          refine WC.trim [0, 1, 4, 5, 6, 7, 8, 10, 11, 12, 13, 14, 16, 17, 29, 43, 58, 84, 88, 114] ?_
          simp only [ET, Nat.reduceEqDiff, reduceIte]
          refine WC.cond (c := .tmp 43) rfl (fun h => ?_) (fun h => ?_)
          · simp at h
          refine WC.skip ?_
          try simp only [EQ, reduceIte, Nat.reduceEqDiff]
          refine hK4 _ ?_; try clear hK4 K4
          refine WC.rs fun K hK => ?_
          simp (maxSteps := 1000000) only [↓yld_succ, ↓yld_zero, EV, EO, ED, ↓EW, ↓EI, EB, EP, EL, tyq_0, tz_0, tyq_3, inq_3, tz_3, tyq_4, bool_4, tz_4, tyq_5, inq_5, tz_5, tyq_9, str_9, tz_9, tyq_24, slq_24, tz_24, tyq_25, ptq_25, tz_25, tyq_30, slq_30, tz_30, tyq_32, fq_32_0, fq_32_1, bq_32, feq_32, tz_32, tyq_33, inq_33, tz_33, tyq_34, tz_34, tyq_37, fq_37_0, fq_37_1, fq_37_2, fq_37_3, bq_37, feq_37, tz_37, tyq_38, slq_38, tz_38, Nat.reduceAdd, Nat.reduceSub, Nat.reduceMul, Nat.reduceLT, Nat.reduceLeDiff, Nat.reduceEqDiff, Int.reduceToNat, Int.reduceLE, Int.reduceLT, Int.reduceEq, Int.reduceNeg, reduceCtorEq, reduceIte, decide_true, decide_false, List.forall_mem_cons, List.not_mem_nil, false_implies, implies_true, Bool.and_true, Bool.true_and, and_self, Nat.sub_zero, Nat.zero_add, Nat.add_zero, h5, hgb, Int.toNat_natCast]
          repeat refine ⟨by omega, ?_⟩
          refine hK _ ?_; try clear hK K
          refine WC.trim [0, 1, 4, 5, 6, 7, 8, 10, 11, 12, 13, 14, 16, 17, 29, 43, 58, 84, 88, 114] ?_
          simp only [ET, Nat.reduceEqDiff, reduceIte]
          refine WC.rs fun K hK => ?_
          simp (maxSteps := 1000000) only [↓yld_succ, ↓yld_zero, EV, EO, ED, ↓EW, ↓EI, EB, EP, EL, tyq_0, tz_0, tyq_3, inq_3, tz_3, tyq_4, bool_4, tz_4, tyq_5, inq_5, tz_5, tyq_9, str_9, tz_9, tyq_24, slq_24, tz_24, tyq_25, ptq_25, tz_25, tyq_30, slq_30, tz_30, tyq_32, fq_32_0, fq_32_1, bq_32, feq_32, tz_32, tyq_33, inq_33, tz_33, tyq_34, tz_34, tyq_37, fq_37_0, fq_37_1, fq_37_2, fq_37_3, bq_37, feq_37, tz_37, tyq_38, slq_38, tz_38, Nat.reduceAdd, Nat.reduceSub, Nat.reduceMul, Nat.reduceLT, Nat.reduceLeDiff, Nat.reduceEqDiff, Int.reduceToNat, Int.reduceLE, Int.reduceLT, Int.reduceEq, Int.reduceNeg, reduceCtorEq, reduceIte, decide_true, decide_false, List.forall_mem_cons, List.not_mem_nil, false_implies, implies_true, Bool.and_true, Bool.true_and, and_self, Nat.sub_zero, Nat.zero_add, Nat.add_zero]
          refine hK _ ?_; try clear hK K
          refine WC.trim [0, 1, 4, 5, 6, 7, 8, 10, 11, 12, 13, 14, 16, 17, 29, 43, 58, 84, 88, 114] ?_
          simp only [ET, Nat.reduceEqDiff, reduceIte]
          refine WC.sj True ⟨[(12, .str (bl ++ catB bl ts)), (8, .slc (ts.map tkv)), (4, .bool false)], [], [], []⟩ ?_ fun _ => ?_
          · refine WC.rs fun K hK => ?_
            simp (maxSteps := 1000000) only [↓yld_succ, ↓yld_zero, EV, EO, ED, ↓EW, ↓EI, EB, EP, EL, tyq_0, tz_0, tyq_3, inq_3, tz_3, tyq_4, bool_4, tz_4, tyq_5, inq_5, tz_5, tyq_9, str_9, tz_9, tyq_24, slq_24, tz_24, tyq_25, ptq_25, tz_25, tyq_30, slq_30, tz_30, tyq_32, fq_32_0, fq_32_1, bq_32, feq_32, tz_32, tyq_33, inq_33, tz_33, tyq_34, tz_34, tyq_37, fq_37_0, fq_37_1, fq_37_2, fq_37_3, bq_37, feq_37, tz_37, tyq_38, slq_38, tz_38, Nat.reduceAdd, Nat.reduceSub, Nat.reduceMul, Nat.reduceLT, Nat.reduceLeDiff, Nat.reduceEqDiff, Int.reduceToNat, Int.reduceLE, Int.reduceLT, Int.reduceEq, Int.reduceNeg, reduceCtorEq, reduceIte, decide_true, decide_false, List.forall_mem_cons, List.not_mem_nil, false_implies, implies_true, Bool.and_true, Bool.true_and, and_self, Nat.sub_zero, Nat.zero_add, Nat.add_zero]
            refine hK _ ?_; try clear hK K
            refine WC.trim [0, 1, 4, 5, 6, 7, 8, 10, 11, 12, 13, 14, 16, 17, 29, 43, 58, 84, 88, 114] ?_
            simp only [ET, Nat.reduceEqDiff, reduceIte]
            refine WC.b1 ?_
            refine WC.loop (X := Nat) (fun i => ⟨[(13, .int .i64 i), (12, .str (bl ++ catB bl (ts.take i))), (11, .str bl), (8, .slc (ts.map tkv)), (4, .bool false)], [], [], []⟩)
              (fun i => i ≤ ts.length) (fun i => ts.length - i) 0 [] (Nat.zero_le _) ?_ ?_
            · refine ⟨by simp, by simp (maxSteps := 1000000) only [↓yld_succ, ↓yld_zero, EV, EO, ED, ↓EW, ↓EI, EB, EP, EL, tyq_0, tz_0, tyq_3, inq_3, tz_3, tyq_4, bool_4, tz_4, tyq_5, inq_5, tz_5, tyq_9, str_9, tz_9, tyq_24, slq_24, tz_24, tyq_25, ptq_25, tz_25, tyq_30, slq_30, tz_30, tyq_32, fq_32_0, fq_32_1, bq_32, feq_32, tz_32, tyq_33, inq_33, tz_33, tyq_34, tz_34, tyq_37, fq_37_0, fq_37_1, fq_37_2, fq_37_3, bq_37, feq_37, tz_37, tyq_38, slq_38, tz_38, Nat.reduceAdd, Nat.reduceSub, Nat.reduceMul, Nat.reduceLT, Nat.reduceLeDiff, Nat.reduceEqDiff, Int.reduceToNat, Int.reduceLE, Int.reduceLT, Int.reduceEq, Int.reduceNeg, reduceCtorEq, reduceIte, decide_true, decide_false, List.forall_mem_cons, List.not_mem_nil, false_implies, implies_true, Bool.and_true, Bool.true_and, and_self, Nat.sub_zero, Nat.zero_add, Nat.add_zero, ER, and_self, tkv_closed ts _, catB, List.flatten_nil], by simp (maxSteps := 1000000) only [↓yld_succ, ↓yld_zero, EV, EO, ED, ↓EW, ↓EI, EB, EP, EL, tyq_0, tz_0, tyq_3, inq_3, tz_3, tyq_4, bool_4, tz_4, tyq_5, inq_5, tz_5, tyq_9, str_9, tz_9, tyq_24, slq_24, tz_24, tyq_25, ptq_25, tz_25, tyq_30, slq_30, tz_30, tyq_32, fq_32_0, fq_32_1, bq_32, feq_32, tz_32, tyq_33, inq_33, tz_33, tyq_34, tz_34, tyq_37, fq_37_0, fq_37_1, fq_37_2, fq_37_3, bq_37, feq_37, tz_37, tyq_38, slq_38, tz_38, Nat.reduceAdd, Nat.reduceSub, Nat.reduceMul, Nat.reduceLT, Nat.reduceLeDiff, Nat.reduceEqDiff, Int.reduceToNat, Int.reduceLE, Int.reduceLT, Int.reduceEq, Int.reduceNeg, reduceCtorEq, reduceIte, decide_true, decide_false, List.forall_mem_cons, List.not_mem_nil, false_implies, implies_true, Bool.and_true, Bool.true_and, and_self, Nat.sub_zero, Nat.zero_add, Nat.add_zero, ER, tkv_closed ts _, catB, List.flatten_nil], by simp (maxSteps := 1000000) only [↓yld_succ, ↓yld_zero, EV, EO, ED, ↓EW, ↓EI, EB, EP, EL, tyq_0, tz_0, tyq_3, inq_3, tz_3, tyq_4, bool_4, tz_4, tyq_5, inq_5, tz_5, tyq_9, str_9, tz_9, tyq_24, slq_24, tz_24, tyq_25, ptq_25, tz_25, tyq_30, slq_30, tz_30, tyq_32, fq_32_0, fq_32_1, bq_32, feq_32, tz_32, tyq_33, inq_33, tz_33, tyq_34, tz_34, tyq_37, fq_37_0, fq_37_1, fq_37_2, fq_37_3, bq_37, feq_37, tz_37, tyq_38, slq_38, tz_38, Nat.reduceAdd, Nat.reduceSub, Nat.reduceMul, Nat.reduceLT, Nat.reduceLeDiff, Nat.reduceEqDiff, Int.reduceToNat, Int.reduceLE, Int.reduceLT, Int.reduceEq, Int.reduceNeg, reduceCtorEq, reduceIte, decide_true, decide_false, List.forall_mem_cons, List.not_mem_nil, false_implies, implies_true, Bool.and_true, Bool.true_and, and_self, Nat.sub_zero, Nat.zero_add, Nat.add_zero, ER, pick, tkv_closed ts _, catB, List.flatten_nil], rfl⟩
            · rintro i hi
              refine WC.sK fun K5 hK5 => ?_
              refine WC.rs fun K hK => ?_
              simp (maxSteps := 1000000) only [↓yld_succ, ↓yld_zero, EV, EO, ED, ↓EW, ↓EI, EB, EP, EL, tyq_0, tz_0, tyq_3, inq_3, tz_3, tyq_4, bool_4, tz_4, tyq_5, inq_5, tz_5, tyq_9, str_9, tz_9, tyq_24, slq_24, tz_24, tyq_25, ptq_25, tz_25, tyq_30, slq_30, tz_30, tyq_32, fq_32_0, fq_32_1, bq_32, feq_32, tz_32, tyq_33, inq_33, tz_33, tyq_34, tz_34, tyq_37, fq_37_0, fq_37_1, fq_37_2, fq_37_3, bq_37, feq_37, tz_37, tyq_38, slq_38, tz_38, Nat.reduceAdd, Nat.reduceSub, Nat.reduceMul, Nat.reduceLT, Nat.reduceLeDiff, Nat.reduceEqDiff, Int.reduceToNat, Int.reduceLE, Int.reduceLT, Int.reduceEq, Int.reduceNeg, reduceCtorEq, reduceIte, decide_true, decide_false, List.forall_mem_cons, List.not_mem_nil, false_implies, implies_true, Bool.and_true, Bool.true_and, and_self, Nat.sub_zero, Nat.zero_add, Nat.add_zero, List.length_map]
              refine hK _ ?_; try clear hK K
              refine WC.trim [0, 1, 4, 5, 6, 7, 8, 10, 11, 12, 13, 14, 16, 17, 29, 43, 58, 84, 88, 114] ?_
              simp only [ET, Nat.reduceEqDiff, reduceIte]
              refine WC.cond (c := .tmp 58) rfl (fun h => ?_) (fun h => ?_)
              · have hlt : i < ts.length := by simp at h; omega
                have hg := gi_map tkv ts hlt
                have hcli := hcl i
                have hti : ts[i].2.1.length ≤ text.length := by
                  have h1 := hcl (i + 1)
                  have := le_sumT ts hlt
                  omega
                refine WC.skip ?_
                try simp only [EQ, reduceIte, Nat.reduceEqDiff]
                refine hK5 _ ?_; try clear hK5 K5
                refine WC.bs fun K6 hK6 => ?_
                refine WC.r1 ?_
                simp (maxSteps := 1000000) only [↓yld_succ, ↓yld_zero, EV, EO, ED, ↓EW, ↓EI, EB, EP, EL, tyq_0, tz_0, tyq_3, inq_3, tz_3, tyq_4, bool_4, tz_4, tyq_5, inq_5, tz_5, tyq_9, str_9, tz_9, tyq_24, slq_24, tz_24, tyq_25, ptq_25, tz_25, tyq_30, slq_30, tz_30, tyq_32, fq_32_0, fq_32_1, bq_32, feq_32, tz_32, tyq_33, inq_33, tz_33, tyq_34, tz_34, tyq_37, fq_37_0, fq_37_1, fq_37_2, fq_37_3, bq_37, feq_37, tz_37, tyq_38, slq_38, tz_38, Nat.reduceAdd, Nat.reduceSub, Nat.reduceMul, Nat.reduceLT, Nat.reduceLeDiff, Nat.reduceEqDiff, Int.reduceToNat, Int.reduceLE, Int.reduceLT, Int.reduceEq, Int.reduceNeg, reduceCtorEq, reduceIte, decide_true, decide_false, List.forall_mem_cons, List.not_mem_nil, false_implies, implies_true, Bool.and_true, Bool.true_and, and_self, Nat.sub_zero, Nat.zero_add, Nat.add_zero, List.length_map, hg, tkv, tk, List.length_append]
                repeat refine ⟨by omega, ?_⟩
                try simp only [EQ, reduceIte, Nat.reduceEqDiff]
                refine hK6 _ ?_; try clear hK6 K6
                refine WC.r1 ?_
                simp (maxSteps := 1000000) (disch := omega) only [↓yld_succ, ↓yld_zero, EV, EO, ED, ↓EW, ↓EI, EB, EP, EL, tyq_0, tz_0, tyq_3, inq_3, tz_3, tyq_4, bool_4, tz_4, tyq_5, inq_5, tz_5, tyq_9, str_9, tz_9, tyq_24, slq_24, tz_24, tyq_25, ptq_25, tz_25, tyq_30, slq_30, tz_30, tyq_32, fq_32_0, fq_32_1, bq_32, feq_32, tz_32, tyq_33, inq_33, tz_33, tyq_34, tz_34, tyq_37, fq_37_0, fq_37_1, fq_37_2, fq_37_3, bq_37, feq_37, tz_37, tyq_38, slq_38, tz_38, Nat.reduceAdd, Nat.reduceSub, Nat.reduceMul, Nat.reduceLT, Nat.reduceLeDiff, Nat.reduceEqDiff, Int.reduceToNat, Int.reduceLE, Int.reduceLT, Int.reduceEq, Int.reduceNeg, reduceCtorEq, reduceIte, decide_true, decide_false, List.forall_mem_cons, List.not_mem_nil, false_implies, implies_true, Bool.and_true, Bool.true_and, and_self, Nat.sub_zero, Nat.zero_add, Nat.add_zero, w64]
                try simp only [EQ, reduceIte, Nat.reduceEqDiff]
                refine ⟨i + 1, [], by omega, by omega, ?_⟩
                refine ⟨by simp, by simp (maxSteps := 1000000) only [↓yld_succ, ↓yld_zero, EV, EO, ED, ↓EW, ↓EI, EB, EP, EL, tyq_0, tz_0, tyq_3, inq_3, tz_3, tyq_4, bool_4, tz_4, tyq_5, inq_5, tz_5, tyq_9, str_9, tz_9, tyq_24, slq_24, tz_24, tyq_25, ptq_25, tz_25, tyq_30, slq_30, tz_30, tyq_32, fq_32_0, fq_32_1, bq_32, feq_32, tz_32, tyq_33, inq_33, tz_33, tyq_34, tz_34, tyq_37, fq_37_0, fq_37_1, fq_37_2, fq_37_3, bq_37, feq_37, tz_37, tyq_38, slq_38, tz_38, Nat.reduceAdd, Nat.reduceSub, Nat.reduceMul, Nat.reduceLT, Nat.reduceLeDiff, Nat.reduceEqDiff, Int.reduceToNat, Int.reduceLE, Int.reduceLT, Int.reduceEq, Int.reduceNeg, reduceCtorEq, reduceIte, decide_true, decide_false, List.forall_mem_cons, List.not_mem_nil, false_implies, implies_true, Bool.and_true, Bool.true_and, and_self, Nat.sub_zero, Nat.zero_add, Nat.add_zero, ER, and_self, Int.natCast_add, tkv_closed ts _, catB_take bl ts hlt, List.append_assoc], by simp (maxSteps := 1000000) only [↓yld_succ, ↓yld_zero, EV, EO, ED, ↓EW, ↓EI, EB, EP, EL, tyq_0, tz_0, tyq_3, inq_3, tz_3, tyq_4, bool_4, tz_4, tyq_5, inq_5, tz_5, tyq_9, str_9, tz_9, tyq_24, slq_24, tz_24, tyq_25, ptq_25, tz_25, tyq_30, slq_30, tz_30, tyq_32, fq_32_0, fq_32_1, bq_32, feq_32, tz_32, tyq_33, inq_33, tz_33, tyq_34, tz_34, tyq_37, fq_37_0, fq_37_1, fq_37_2, fq_37_3, bq_37, feq_37, tz_37, tyq_38, slq_38, tz_38, Nat.reduceAdd, Nat.reduceSub, Nat.reduceMul, Nat.reduceLT, Nat.reduceLeDiff, Nat.reduceEqDiff, Int.reduceToNat, Int.reduceLE, Int.reduceLT, Int.reduceEq, Int.reduceNeg, reduceCtorEq, reduceIte, decide_true, decide_false, List.forall_mem_cons, List.not_mem_nil, false_implies, implies_true, Bool.and_true, Bool.true_and, and_self, Nat.sub_zero, Nat.zero_add, Nat.add_zero, ER, Int.natCast_add, tkv_closed ts _, catB_take bl ts hlt, List.append_assoc], by simp (maxSteps := 1000000) only [↓yld_succ, ↓yld_zero, EV, EO, ED, ↓EW, ↓EI, EB, EP, EL, tyq_0, tz_0, tyq_3, inq_3, tz_3, tyq_4, bool_4, tz_4, tyq_5, inq_5, tz_5, tyq_9, str_9, tz_9, tyq_24, slq_24, tz_24, tyq_25, ptq_25, tz_25, tyq_30, slq_30, tz_30, tyq_32, fq_32_0, fq_32_1, bq_32, feq_32, tz_32, tyq_33, inq_33, tz_33, tyq_34, tz_34, tyq_37, fq_37_0, fq_37_1, fq_37_2, fq_37_3, bq_37, feq_37, tz_37, tyq_38, slq_38, tz_38, Nat.reduceAdd, Nat.reduceSub, Nat.reduceMul, Nat.reduceLT, Nat.reduceLeDiff, Nat.reduceEqDiff, Int.reduceToNat, Int.reduceLE, Int.reduceLT, Int.reduceEq, Int.reduceNeg, reduceCtorEq, reduceIte, decide_true, decide_false, List.forall_mem_cons, List.not_mem_nil, false_implies, implies_true, Bool.and_true, Bool.true_and, and_self, Nat.sub_zero, Nat.zero_add, Nat.add_zero, ER, pick, Int.natCast_add, tkv_closed ts _, catB_take bl ts hlt, List.append_assoc], rfl⟩
              · have hge : i = ts.length := by simp at h; omega
                subst hge
                refine WC.exit ?_
                simp only [EQ, reduceIte, Nat.reduceEqDiff]
                refine ⟨trivial, [], ?_⟩
                refine ⟨by simp, by simp (maxSteps := 1000000) only [↓yld_succ, ↓yld_zero, EV, EO, ED, ↓EW, ↓EI, EB, EP, EL, tyq_0, tz_0, tyq_3, inq_3, tz_3, tyq_4, bool_4, tz_4, tyq_5, inq_5, tz_5, tyq_9, str_9, tz_9, tyq_24, slq_24, tz_24, tyq_25, ptq_25, tz_25, tyq_30, slq_30, tz_30, tyq_32, fq_32_0, fq_32_1, bq_32, feq_32, tz_32, tyq_33, inq_33, tz_33, tyq_34, tz_34, tyq_37, fq_37_0, fq_37_1, fq_37_2, fq_37_3, bq_37, feq_37, tz_37, tyq_38, slq_38, tz_38, Nat.reduceAdd, Nat.reduceSub, Nat.reduceMul, Nat.reduceLT, Nat.reduceLeDiff, Nat.reduceEqDiff, Int.reduceToNat, Int.reduceLE, Int.reduceLT, Int.reduceEq, Int.reduceNeg, reduceCtorEq, reduceIte, decide_true, decide_false, List.forall_mem_cons, List.not_mem_nil, false_implies, implies_true, Bool.and_true, Bool.true_and, and_self, Nat.sub_zero, Nat.zero_add, Nat.add_zero, ER, and_self, List.take_length, tkv_closed ts _], by simp (maxSteps := 1000000) only [↓yld_succ, ↓yld_zero, EV, EO, ED, ↓EW, ↓EI, EB, EP, EL, tyq_0, tz_0, tyq_3, inq_3, tz_3, tyq_4, bool_4, tz_4, tyq_5, inq_5, tz_5, tyq_9, str_9, tz_9, tyq_24, slq_24, tz_24, tyq_25, ptq_25, tz_25, tyq_30, slq_30, tz_30, tyq_32, fq_32_0, fq_32_1, bq_32, feq_32, tz_32, tyq_33, inq_33, tz_33, tyq_34, tz_34, tyq_37, fq_37_0, fq_37_1, fq_37_2, fq_37_3, bq_37, feq_37, tz_37, tyq_38, slq_38, tz_38, Nat.reduceAdd, Nat.reduceSub, Nat.reduceMul, Nat.reduceLT, Nat.reduceLeDiff, Nat.reduceEqDiff, Int.reduceToNat, Int.reduceLE, Int.reduceLT, Int.reduceEq, Int.reduceNeg, reduceCtorEq, reduceIte, decide_true, decide_false, List.forall_mem_cons, List.not_mem_nil, false_implies, implies_true, Bool.and_true, Bool.true_and, and_self, Nat.sub_zero, Nat.zero_add, Nat.add_zero, ER, List.take_length, tkv_closed ts _], by simp (maxSteps := 1000000) only [↓yld_succ, ↓yld_zero, EV, EO, ED, ↓EW, ↓EI, EB, EP, EL, tyq_0, tz_0, tyq_3, inq_3, tz_3, tyq_4, bool_4, tz_4, tyq_5, inq_5, tz_5, tyq_9, str_9, tz_9, tyq_24, slq_24, tz_24, tyq_25, ptq_25, tz_25, tyq_30, slq_30, tz_30, tyq_32, fq_32_0, fq_32_1, bq_32, feq_32, tz_32, tyq_33, inq_33, tz_33, tyq_34, tz_34, tyq_37, fq_37_0, fq_37_1, fq_37_2, fq_37_3, bq_37, feq_37, tz_37, tyq_38, slq_38, tz_38, Nat.reduceAdd, Nat.reduceSub, Nat.reduceMul, Nat.reduceLT, Nat.reduceLeDiff, Nat.reduceEqDiff, Int.reduceToNat, Int.reduceLE, Int.reduceLT, Int.reduceEq, Int.reduceNeg, reduceCtorEq, reduceIte, decide_true, decide_false, List.forall_mem_cons, List.not_mem_nil, false_implies, implies_true, Bool.and_true, Bool.true_and, and_self, Nat.sub_zero, Nat.zero_add, Nat.add_zero, ER, pick, List.take_length, tkv_closed ts _], rfl⟩
          refine WC.rs fun K hK => ?_
          simp (maxSteps := 1000000) only [↓yld_succ, ↓yld_zero, EV, EO, ED, ↓EW, ↓EI, EB, EP, EL, tyq_0, tz_0, tyq_3, inq_3, tz_3, tyq_4, bool_4, tz_4, tyq_5, inq_5, tz_5, tyq_9, str_9, tz_9, tyq_24, slq_24, tz_24, tyq_25, ptq_25, tz_25, tyq_30, slq_30, tz_30, tyq_32, fq_32_0, fq_32_1, bq_32, feq_32, tz_32, tyq_33, inq_33, tz_33, tyq_34, tz_34, tyq_37, fq_37_0, fq_37_1, fq_37_2, fq_37_3, bq_37, feq_37, tz_37, tyq_38, slq_38, tz_38, Nat.reduceAdd, Nat.reduceSub, Nat.reduceMul, Nat.reduceLT, Nat.reduceLeDiff, Nat.reduceEqDiff, Int.reduceToNat, Int.reduceLE, Int.reduceLT, Int.reduceEq, Int.reduceNeg, reduceCtorEq, reduceIte, decide_true, decide_false, List.forall_mem_cons, List.not_mem_nil, false_implies, implies_true, Bool.and_true, Bool.true_and, and_self, Nat.sub_zero, Nat.zero_add, Nat.add_zero]
          refine CallX.mk (CallW.pure ht2 (by simp only [CL, and_self]) (by simp only [CL, pl, tkv_closed, and_self]) ?_)
          simp (maxSteps := 1000000) only [↓yld_succ, ↓yld_zero, EV, EO, ED, ↓EW, ↓EI, EB, EP, EL, tyq_0, tz_0, tyq_3, inq_3, tz_3, tyq_4, bool_4, tz_4, tyq_5, inq_5, tz_5, tyq_9, str_9, tz_9, tyq_24, slq_24, tz_24, tyq_25, ptq_25, tz_25, tyq_30, slq_30, tz_30, tyq_32, fq_32_0, fq_32_1, bq_32, feq_32, tz_32, tyq_33, inq_33, tz_33, tyq_34, tz_34, tyq_37, fq_37_0, fq_37_1, fq_37_2, fq_37_3, bq_37, feq_37, tz_37, tyq_38, slq_38, tz_38, Nat.reduceAdd, Nat.reduceSub, Nat.reduceMul, Nat.reduceLT, Nat.reduceLeDiff, Nat.reduceEqDiff, Int.reduceToNat, Int.reduceLE, Int.reduceLT, Int.reduceEq, Int.reduceNeg, reduceCtorEq, reduceIte, decide_true, decide_false, List.forall_mem_cons, List.not_mem_nil, false_implies, implies_true, Bool.and_true, Bool.true_and, and_self, Nat.sub_zero, Nat.zero_add, Nat.add_zero, pl]
          refine hK _ ?_; try clear hK K
          refine WC.trim [0, 1, 4, 5, 6, 7, 8, 10, 11, 12, 13, 14, 16, 17, 29, 43, 58, 84, 88, 114] ?_
          simp only [ET, Nat.reduceEqDiff, reduceIte]
          refine WC.sK fun K7 hK7 => ?_
          refine WC.rs fun K hK => ?_
          simp (maxSteps := 1000000) only [↓yld_succ, ↓yld_zero, EV, EO, ED, ↓EW, ↓EI, EB, EP, EL, tyq_0, tz_0, tyq_3, inq_3, tz_3, tyq_4, bool_4, tz_4, tyq_5, inq_5, tz_5, tyq_9, str_9, tz_9, tyq_24, slq_24, tz_24, tyq_25, ptq_25, tz_25, tyq_30, slq_30, tz_30, tyq_32, fq_32_0, fq_32_1, bq_32, feq_32, tz_32, tyq_33, inq_33, tz_33, tyq_34, tz_34, tyq_37, fq_37_0, fq_37_1, fq_37_2, fq_37_3, bq_37, feq_37, tz_37, tyq_38, slq_38, tz_38, Nat.reduceAdd, Nat.reduceSub, Nat.reduceMul, Nat.reduceLT, Nat.reduceLeDiff, Nat.reduceEqDiff, Int.reduceToNat, Int.reduceLE, Int.reduceLT, Int.reduceEq, Int.reduceNeg, reduceCtorEq, reduceIte, decide_true, decide_false, List.forall_mem_cons, List.not_mem_nil, false_implies, implies_true, Bool.and_true, Bool.true_and, and_self, Nat.sub_zero, Nat.zero_add, Nat.add_zero, Int.cast_ofNat_Int, Bool.not_true, Bool.not_false, List.length_map, hwl]
          refine hK _ ?_; try clear hK K
          refine WC.trim [0, 1, 4, 5, 6, 7, 8, 10, 11, 12, 13, 14, 16, 17, 29, 43, 58, 84, 88, 114] ?_
          simp only [ET, Nat.reduceEqDiff, reduceIte]
          refine WC.cond (c := .tmp 84) rfl (fun h => ?_) (fun h => ?_)
          · simp at h
          refine WC.skip ?_
          try simp only [EQ, reduceIte, Nat.reduceEqDiff]
          refine hK7 _ ?_; try clear hK7 K7
          refine WC.sK fun K8 hK8 => ?_
          refine WC.rs fun K hK => ?_
          simp (maxSteps := 1000000) only [↓yld_succ, ↓yld_zero, EV, EO, ED, ↓EW, ↓EI, EB, EP, EL, tyq_0, tz_0, tyq_3, inq_3, tz_3, tyq_4, bool_4, tz_4, tyq_5, inq_5, tz_5, tyq_9, str_9, tz_9, tyq_24, slq_24, tz_24, tyq_25, ptq_25, tz_25, tyq_30, slq_30, tz_30, tyq_32, fq_32_0, fq_32_1, bq_32, feq_32, tz_32, tyq_33, inq_33, tz_33, tyq_34, tz_34, tyq_37, fq_37_0, fq_37_1, fq_37_2, fq_37_3, bq_37, feq_37, tz_37, tyq_38, slq_38, tz_38, Nat.reduceAdd, Nat.reduceSub, Nat.reduceMul, Nat.reduceLT, Nat.reduceLeDiff, Nat.reduceEqDiff, Int.reduceToNat, Int.reduceLE, Int.reduceLT, Int.reduceEq, Int.reduceNeg, reduceCtorEq, reduceIte, decide_true, decide_false, List.forall_mem_cons, List.not_mem_nil, false_implies, implies_true, Bool.and_true, Bool.true_and, and_self, Nat.sub_zero, Nat.zero_add, Nat.add_zero]
          refine hK _ ?_; try clear hK K
          refine WC.trim [0, 1, 4, 5, 6, 7, 8, 10, 11, 12, 13, 14, 16, 17, 29, 43, 58, 84, 88, 114] ?_
          simp only [ET, Nat.reduceEqDiff, reduceIte]
          refine WC.b1 ?_
          refine WC.loop (X := Nat) (fun i => ⟨[(17, .int .i64 i), (14, .slc (ws.map tkv)), (8, .slc (ts.map tkv)), (4, .bool false)], [], [], []⟩)
            (fun i => i ≤ ts.length) (fun i => ts.length - i) 0 [] (Nat.zero_le _) ?_ ?_
          · refine ⟨by simp, by simp (maxSteps := 1000000) only [↓yld_succ, ↓yld_zero, EV, EO, ED, ↓EW, ↓EI, EB, EP, EL, tyq_0, tz_0, tyq_3, inq_3, tz_3, tyq_4, bool_4, tz_4, tyq_5, inq_5, tz_5, tyq_9, str_9, tz_9, tyq_24, slq_24, tz_24, tyq_25, ptq_25, tz_25, tyq_30, slq_30, tz_30, tyq_32, fq_32_0, fq_32_1, bq_32, feq_32, tz_32, tyq_33, inq_33, tz_33, tyq_34, tz_34, tyq_37, fq_37_0, fq_37_1, fq_37_2, fq_37_3, bq_37, feq_37, tz_37, tyq_38, slq_38, tz_38, Nat.reduceAdd, Nat.reduceSub, Nat.reduceMul, Nat.reduceLT, Nat.reduceLeDiff, Nat.reduceEqDiff, Int.reduceToNat, Int.reduceLE, Int.reduceLT, Int.reduceEq, Int.reduceNeg, reduceCtorEq, reduceIte, decide_true, decide_false, List.forall_mem_cons, List.not_mem_nil, false_implies, implies_true, Bool.and_true, Bool.true_and, and_self, Nat.sub_zero, Nat.zero_add, Nat.add_zero, ER, and_self, tkv_closed ts _, tkv_closed ws _], by simp (maxSteps := 1000000) only [↓yld_succ, ↓yld_zero, EV, EO, ED, ↓EW, ↓EI, EB, EP, EL, tyq_0, tz_0, tyq_3, inq_3, tz_3, tyq_4, bool_4, tz_4, tyq_5, inq_5, tz_5, tyq_9, str_9, tz_9, tyq_24, slq_24, tz_24, tyq_25, ptq_25, tz_25, tyq_30, slq_30, tz_30, tyq_32, fq_32_0, fq_32_1, bq_32, feq_32, tz_32, tyq_33, inq_33, tz_33, tyq_34, tz_34, tyq_37, fq_37_0, fq_37_1, fq_37_2, fq_37_3, bq_37, feq_37, tz_37, tyq_38, slq_38, tz_38, Nat.reduceAdd, Nat.reduceSub, Nat.reduceMul, Nat.reduceLT, Nat.reduceLeDiff, Nat.reduceEqDiff, Int.reduceToNat, Int.reduceLE, Int.reduceLT, Int.reduceEq, Int.reduceNeg, reduceCtorEq, reduceIte, decide_true, decide_false, List.forall_mem_cons, List.not_mem_nil, false_implies, implies_true, Bool.and_true, Bool.true_and, and_self, Nat.sub_zero, Nat.zero_add, Nat.add_zero, ER, tkv_closed ts _, tkv_closed ws _], by simp (maxSteps := 1000000) only [↓yld_succ, ↓yld_zero, EV, EO, ED, ↓EW, ↓EI, EB, EP, EL, tyq_0, tz_0, tyq_3, inq_3, tz_3, tyq_4, bool_4, tz_4, tyq_5, inq_5, tz_5, tyq_9, str_9, tz_9, tyq_24, slq_24, tz_24, tyq_25, ptq_25, tz_25, tyq_30, slq_30, tz_30, tyq_32, fq_32_0, fq_32_1, bq_32, feq_32, tz_32, tyq_33, inq_33, tz_33, tyq_34, tz_34, tyq_37, fq_37_0, fq_37_1, fq_37_2, fq_37_3, bq_37, feq_37, tz_37, tyq_38, slq_38, tz_38, Nat.reduceAdd, Nat.reduceSub, Nat.reduceMul, Nat.reduceLT, Nat.reduceLeDiff, Nat.reduceEqDiff, Int.reduceToNat, Int.reduceLE, Int.reduceLT, Int.reduceEq, Int.reduceNeg, reduceCtorEq, reduceIte, decide_true, decide_false, List.forall_mem_cons, List.not_mem_nil, false_implies, implies_true, Bool.and_true, Bool.true_and, and_self, Nat.sub_zero, Nat.zero_add, Nat.add_zero, ER, pick, tkv_closed ts _, tkv_closed ws _], rfl⟩
          · rintro i hi
            refine WC.sK fun K9 hK9 => ?_
            refine WC.rs fun K hK => ?_
            simp (maxSteps := 1000000) only [↓yld_succ, ↓yld_zero, EV, EO, ED, ↓EW, ↓EI, EB, EP, EL, tyq_0, tz_0, tyq_3, inq_3, tz_3, tyq_4, bool_4, tz_4, tyq_5, inq_5, tz_5, tyq_9, str_9, tz_9, tyq_24, slq_24, tz_24, tyq_25, ptq_25, tz_25, tyq_30, slq_30, tz_30, tyq_32, fq_32_0, fq_32_1, bq_32, feq_32, tz_32, tyq_33, inq_33, tz_33, tyq_34, tz_34, tyq_37, fq_37_0, fq_37_1, fq_37_2, fq_37_3, bq_37, feq_37, tz_37, tyq_38, slq_38, tz_38, Nat.reduceAdd, Nat.reduceSub, Nat.reduceMul, Nat.reduceLT, Nat.reduceLeDiff, Nat.reduceEqDiff, Int.reduceToNat, Int.reduceLE, Int.reduceLT, Int.reduceEq, Int.reduceNeg, reduceCtorEq, reduceIte, decide_true, decide_false, List.forall_mem_cons, List.not_mem_nil, false_implies, implies_true, Bool.and_true, Bool.true_and, and_self, Nat.sub_zero, Nat.zero_add, Nat.add_zero, List.length_map]
            refine hK _ ?_; try clear hK K
            refine WC.trim [0, 1, 4, 5, 6, 7, 8, 10, 11, 12, 13, 14, 16, 17, 29, 43, 58, 84, 88, 114] ?_
            simp only [ET, Nat.reduceEqDiff, reduceIte]
            refine WC.cond (c := .tmp 88) rfl (fun h => ?_) (fun h => ?_)
            · have hlt : i < ts.length := by simp at h; omega
              have hltw : i < ws.length := by omega
              have hg := gi_map tkv ts hlt
              have hgw := gi_map tkv ws hltw
              obtain ⟨p1, p2⟩ := proj_at hsame hltw hlt
              refine WC.skip ?_
              try simp only [EQ, reduceIte, Nat.reduceEqDiff]
              refine hK9 _ ?_; try clear hK9 K9
              refine WC.bs fun K10 hK10 => ?_
              refine WC.ds [⟨0, 0, false, []⟩, ⟨1, 0, false, []⟩, ⟨2, 0, false, []⟩, ⟨3, 0, false, []⟩, ⟨4, 0, false, []⟩, ⟨5, 0, false, []⟩, ⟨6, 0, false, []⟩, ⟨7, 0, false, []⟩, ⟨8, 0, false, []⟩, ⟨9, 0, false, []⟩, ⟨10, 0, false, []⟩, ⟨11, 0, false, []⟩, ⟨12, 0, false, []⟩, ⟨13, 0, false, []⟩, ⟨14, 0, false, []⟩, ⟨15, 0, false, []⟩, ⟨16, 0, false, []⟩, ⟨17, 0, false, []⟩, ⟨18, 0, false, []⟩, ⟨19, 0, false, []⟩, ⟨20, 0, false, []⟩, ⟨21, 0, false, []⟩, ⟨22, 0, false, []⟩, ⟨23, 0, false, []⟩] [0, 0, 3, 7, 15, 0, 0, 96, 224, 480, 1023, 2047, 4095, 4095, 16383, 32767, 65535, 4095, 4095, 397311, 921599, 1970175, 4194303, 8388607] mo (by kernel_rfl) (by simp only [EPl, List.getElem?_cons_zero, List.getElem?_cons_succ]; rfl) fun K hK => ?_
              simp (maxSteps := 1000000) only [↓yld_succ, ↓yld_zero, EV, EO, ED, ↓EW, ↓EI, EB, EP, EL, tyq_0, tz_0, tyq_3, inq_3, tz_3, tyq_4, bool_4, tz_4, tyq_5, inq_5, tz_5, tyq_9, str_9, tz_9, tyq_24, slq_24, tz_24, tyq_25, ptq_25, tz_25, tyq_30, slq_30, tz_30, tyq_32, fq_32_0, fq_32_1, bq_32, feq_32, tz_32, tyq_33, inq_33, tz_33, tyq_34, tz_34, tyq_37, fq_37_0, fq_37_1, fq_37_2, fq_37_3, bq_37, feq_37, tz_37, tyq_38, slq_38, tz_38, Nat.reduceAdd, Nat.reduceSub, Nat.reduceMul, Nat.reduceLT, Nat.reduceLeDiff, Nat.reduceEqDiff, Int.reduceToNat, Int.reduceLE, Int.reduceLT, Int.reduceEq, Int.reduceNeg, reduceCtorEq, reduceIte, decide_true, decide_false, List.forall_mem_cons, List.not_mem_nil, false_implies, implies_true, Bool.and_true, Bool.true_and, and_self, Nat.sub_zero, Nat.zero_add, Nat.add_zero, List.length_map, hg, hgw, tkv, tk, p1, p2, hwl, Bool.not_true, Bool.not_false]
              repeat refine ⟨by omega, ?_⟩
              refine hK _ ?_; try clear hK K
              refine WC.trim [0, 1, 4, 5, 6, 7, 8, 10, 11, 12, 13, 14, 16, 17, 29, 43, 58, 84, 88, 114] ?_
              simp only [ET, Nat.reduceEqDiff, reduceIte]
              refine WC.cond (c := .tmp 114) rfl (fun h => ?_) (fun h => ?_)
              · simp at h
              refine WC.skip ?_
              try simp only [EQ, reduceIte, Nat.reduceEqDiff]
              refine hK10 _ ?_; try clear hK10 K10
              refine WC.r1 ?_
              simp (maxSteps := 1000000) (disch := omega) only [↓yld_succ, ↓yld_zero, EV, EO, ED, ↓EW, ↓EI, EB, EP, EL, tyq_0, tz_0, tyq_3, inq_3, tz_3, tyq_4, bool_4, tz_4, tyq_5, inq_5, tz_5, tyq_9, str_9, tz_9, tyq_24, slq_24, tz_24, tyq_25, ptq_25, tz_25, tyq_30, slq_30, tz_30, tyq_32, fq_32_0, fq_32_1, bq_32, feq_32, tz_32, tyq_33, inq_33, tz_33, tyq_34, tz_34, tyq_37, fq_37_0, fq_37_1, fq_37_2, fq_37_3, bq_37, feq_37, tz_37, tyq_38, slq_38, tz_38, Nat.reduceAdd, Nat.reduceSub, Nat.reduceMul, Nat.reduceLT, Nat.reduceLeDiff, Nat.reduceEqDiff, Int.reduceToNat, Int.reduceLE, Int.reduceLT, Int.reduceEq, Int.reduceNeg, reduceCtorEq, reduceIte, decide_true, decide_false, List.forall_mem_cons, List.not_mem_nil, false_implies, implies_true, Bool.and_true, Bool.true_and, and_self, Nat.sub_zero, Nat.zero_add, Nat.add_zero, w64]
              try simp only [EQ, reduceIte, Nat.reduceEqDiff]
              refine ⟨i + 1, [], by omega, by omega, ?_⟩
              refine ⟨by simp, by simp (maxSteps := 1000000) only [↓yld_succ, ↓yld_zero, EV, EO, ED, ↓EW, ↓EI, EB, EP, EL, tyq_0, tz_0, tyq_3, inq_3, tz_3, tyq_4, bool_4, tz_4, tyq_5, inq_5, tz_5, tyq_9, str_9, tz_9, tyq_24, slq_24, tz_24, tyq_25, ptq_25, tz_25, tyq_30, slq_30, tz_30, tyq_32, fq_32_0, fq_32_1, bq_32, feq_32, tz_32, tyq_33, inq_33, tz_33, tyq_34, tz_34, tyq_37, fq_37_0, fq_37_1, fq_37_2, fq_37_3, bq_37, feq_37, tz_37, tyq_38, slq_38, tz_38, Nat.reduceAdd, Nat.reduceSub, Nat.reduceMul, Nat.reduceLT, Nat.reduceLeDiff, Nat.reduceEqDiff, Int.reduceToNat, Int.reduceLE, Int.reduceLT, Int.reduceEq, Int.reduceNeg, reduceCtorEq, reduceIte, decide_true, decide_false, List.forall_mem_cons, List.not_mem_nil, false_implies, implies_true, Bool.and_true, Bool.true_and, and_self, Nat.sub_zero, Nat.zero_add, Nat.add_zero, ER, and_self, Int.natCast_add, tkv_closed ts _, tkv_closed ws _], by simp (maxSteps := 1000000) only [↓yld_succ, ↓yld_zero, EV, EO, ED, ↓EW, ↓EI, EB, EP, EL, tyq_0, tz_0, tyq_3, inq_3, tz_3, tyq_4, bool_4, tz_4, tyq_5, inq_5, tz_5, tyq_9, str_9, tz_9, tyq_24, slq_24, tz_24, tyq_25, ptq_25, tz_25, tyq_30, slq_30, tz_30, tyq_32, fq_32_0, fq_32_1, bq_32, feq_32, tz_32, tyq_33, inq_33, tz_33, tyq_34, tz_34, tyq_37, fq_37_0, fq_37_1, fq_37_2, fq_37_3, bq_37, feq_37, tz_37, tyq_38, slq_38, tz_38, Nat.reduceAdd, Nat.reduceSub, Nat.reduceMul, Nat.reduceLT, Nat.reduceLeDiff, Nat.reduceEqDiff, Int.reduceToNat, Int.reduceLE, Int.reduceLT, Int.reduceEq, Int.reduceNeg, reduceCtorEq, reduceIte, decide_true, decide_false, List.forall_mem_cons, List.not_mem_nil, false_implies, implies_true, Bool.and_true, Bool.true_and, and_self, Nat.sub_zero, Nat.zero_add, Nat.add_zero, ER, Int.natCast_add, tkv_closed ts _, tkv_closed ws _], by simp (maxSteps := 1000000) only [↓yld_succ, ↓yld_zero, EV, EO, ED, ↓EW, ↓EI, EB, EP, EL, tyq_0, tz_0, tyq_3, inq_3, tz_3, tyq_4, bool_4, tz_4, tyq_5, inq_5, tz_5, tyq_9, str_9, tz_9, tyq_24, slq_24, tz_24, tyq_25, ptq_25, tz_25, tyq_30, slq_30, tz_30, tyq_32, fq_32_0, fq_32_1, bq_32, feq_32, tz_32, tyq_33, inq_33, tz_33, tyq_34, tz_34, tyq_37, fq_37_0, fq_37_1, fq_37_2, fq_37_3, bq_37, feq_37, tz_37, tyq_38, slq_38, tz_38, Nat.reduceAdd, Nat.reduceSub, Nat.reduceMul, Nat.reduceLT, Nat.reduceLeDiff, Nat.reduceEqDiff, Int.reduceToNat, Int.reduceLE, Int.reduceLT, Int.reduceEq, Int.reduceNeg, reduceCtorEq, reduceIte, decide_true, decide_false, List.forall_mem_cons, List.not_mem_nil, false_implies, implies_true, Bool.and_true, Bool.true_and, and_self, Nat.sub_zero, Nat.zero_add, Nat.add_zero, ER, pick, Int.natCast_add, tkv_closed ts _, tkv_closed ws _], rfl⟩
            · refine WC.exit ?_
              simp only [EQ, reduceIte, Nat.reduceEqDiff]
              try simp only [EQ, reduceIte, Nat.reduceEqDiff]
              refine hK8 _ ?_; try clear hK8 K8
              refine WC.rs fun K hK => ?_
              simp (maxSteps := 1000000) only [↓yld_succ, ↓yld_zero, EV, EO, ED, ↓EW, ↓EI, EB, EP, EL, tyq_0, tz_0, tyq_3, inq_3, tz_3, tyq_4, bool_4, tz_4, tyq_5, inq_5, tz_5, tyq_9, str_9, tz_9, tyq_24, slq_24, tz_24, tyq_25, ptq_25, tz_25, tyq_30, slq_30, tz_30, tyq_32, fq_32_0, fq_32_1, bq_32, feq_32, tz_32, tyq_33, inq_33, tz_33, tyq_34, tz_34, tyq_37, fq_37_0, fq_37_1, fq_37_2, fq_37_3, bq_37, feq_37, tz_37, tyq_38, slq_38, tz_38, Nat.reduceAdd, Nat.reduceSub, Nat.reduceMul, Nat.reduceLT, Nat.reduceLeDiff, Nat.reduceEqDiff, Int.reduceToNat, Int.reduceLE, Int.reduceLT, Int.reduceEq, Int.reduceNeg, reduceCtorEq, reduceIte, decide_true, decide_false, List.forall_mem_cons, List.not_mem_nil, false_implies, implies_true, Bool.and_true, Bool.true_and, and_self, Nat.sub_zero, Nat.zero_add, Nat.add_zero]
              refine CallX.mk (CallW.pure awake_sem (by simp only [CL, and_self]) (by simp only [CL]) ?_)
              simp (maxSteps := 1000000) only [↓yld_succ, ↓yld_zero, EV, EO, ED, ↓EW, ↓EI, EB, EP, EL, tyq_0, tz_0, tyq_3, inq_3, tz_3, tyq_4, bool_4, tz_4, tyq_5, inq_5, tz_5, tyq_9, str_9, tz_9, tyq_24, slq_24, tz_24, tyq_25, ptq_25, tz_25, tyq_30, slq_30, tz_30, tyq_32, fq_32_0, fq_32_1, bq_32, feq_32, tz_32, tyq_33, inq_33, tz_33, tyq_34, tz_34, tyq_37, fq_37_0, fq_37_1, fq_37_2, fq_37_3, bq_37, feq_37, tz_37, tyq_38, slq_38, tz_38, Nat.reduceAdd, Nat.reduceSub, Nat.reduceMul, Nat.reduceLT, Nat.reduceLeDiff, Nat.reduceEqDiff, Int.reduceToNat, Int.reduceLE, Int.reduceLT, Int.reduceEq, Int.reduceNeg, reduceCtorEq, reduceIte, decide_true, decide_false, List.forall_mem_cons, List.not_mem_nil, false_implies, implies_true, Bool.and_true, Bool.true_and, and_self, Nat.sub_zero, Nat.zero_add, Nat.add_zero]
              refine hK _ ?_; try clear hK K
              refine WC.trim [0, 1, 4, 5, 6, 7, 8, 10, 11, 12, 13, 14, 16, 17, 29, 43, 58, 84, 88, 114] ?_
              simp only [ET, Nat.reduceEqDiff, reduceIte]
              refine WC.ret ?_
              simp (maxSteps := 1000000) only [↓yld_succ, ↓yld_zero, EV, EO, ED, ↓EW, ↓EI, EB, EP, EL, tyq_0, tz_0, tyq_3, inq_3, tz_3, tyq_4, bool_4, tz_4, tyq_5, inq_5, tz_5, tyq_9, str_9, tz_9, tyq_24, slq_24, tz_24, tyq_25, ptq_25, tz_25, tyq_30, slq_30, tz_30, tyq_32, fq_32_0, fq_32_1, bq_32, feq_32, tz_32, tyq_33, inq_33, tz_33, tyq_34, tz_34, tyq_37, fq_37_0, fq_37_1, fq_37_2, fq_37_3, bq_37, feq_37, tz_37, tyq_38, slq_38, tz_38, Nat.reduceAdd, Nat.reduceSub, Nat.reduceMul, Nat.reduceLT, Nat.reduceLeDiff, Nat.reduceEqDiff, Int.reduceToNat, Int.reduceLE, Int.reduceLT, Int.reduceEq, Int.reduceNeg, reduceCtorEq, reduceIte, decide_true, decide_false, List.forall_mem_cons, List.not_mem_nil, false_implies, implies_true, Bool.and_true, Bool.true_and, and_self, Nat.sub_zero, Nat.zero_add, Nat.add_zero, EQ, FnQ, Tryd.results6, wResL, tup, List.reverse_cons, List.reverse_nil, true_and]
              exact endsPure (by simp only [CL]) rfl
end Go.LexSem
