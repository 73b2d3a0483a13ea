import Derived.Test.YtednoahjadghnaaDoorLexQ
import Derived.Test.YtednoahjadghnaaDoorMakeA
set_option linter.unusedSimpArgs false
set_option linter.unusedVariables false
set_option linter.loopingSimpArgs false
set_option maxRecDepth 100000
namespace Go.LexSem
open Go Go.V Go.Proofs

def pieces : List (List UInt8) := [[120], [121, 49], [95], [112, 97, 114, 97, 109], [102, 117, 110, 99], [108, 105, 115, 116], [108, 101, 110], [112, 111, 115, 116, 101, 114, 105, 111, 114], [114, 101, 112, 101, 97, 116], [111, 98, 115, 101, 114, 118, 101], [48], [55], [49, 48, 48, 48, 48, 48, 48], [48, 48, 55], [58, 61], [61, 61], [33, 61], [60, 61], [62, 61], [38, 38], [124, 124], [126], [60], [62], [43], [45], [42], [47], [40], [41], [91], [93], [123], [125], [44], [59], [58], [63], [46], [33], [32], [32, 32], [10], [9], [35, 32, 99, 111, 109, 109, 101, 110, 116, 10], [35], [38], [124], [61], [36], [13], [97, 98, 99, 100, 101, 102, 103, 104, 105, 106, 107, 108], [97, 98, 99, 100, 101, 102, 103, 104, 105, 106, 107, 108, 109], [116, 114, 117, 101, 116, 114, 117, 101, 116, 114, 117, 101], [49, 50, 51, 52, 53, 54, 55, 56, 57, 48, 49, 50, 51, 52, 53, 54, 55, 56, 57, 48, 49, 50, 51, 52, 53, 54, 55, 56, 57, 48, 49, 50, 51, 52, 53, 54, 55, 56, 57, 48, 49, 50, 51, 52, 53, 54, 55, 56, 57, 48, 49, 50, 51, 52, 53, 54, 55, 56, 57, 48], [49, 50, 51, 52, 53, 54, 55, 56, 57, 48, 49, 50, 51, 52, 53, 54, 55, 56, 57, 48, 49, 50, 51, 52, 53, 54, 55, 56, 57, 48, 49, 50, 51, 52, 53, 54, 55, 56, 57, 48, 49, 50, 51, 52, 53, 54, 55, 56, 57, 48, 49, 50, 51, 52, 53, 54, 55, 56, 57, 48, 49]]
def pieceV (xs : List Int) (a : Nat) : List UInt8 := pieces.getD (nV xs a 56).toNat []
theorem pieces_len : pieces.length = 56 := rfl
theorem pieceV_len (xs : List Int) (a : Nat) : (pieceV xs a).length ≤ 61 := by
  have h : ∀ w ∈ pieces, w.length ≤ 61 := by decide
  unfold pieceV
  rw [List.getD_eq_getElem?_getD]
  cases hq : pieces[(nV xs a 56).toNat]? with
  | none => simp
  | some w => exact h w (List.mem_of_getElem? hq)

theorem piece_sem (xs : List Int) (a : Nat) (k : Int) (hl : xs.length ≤ 1000) (ha : a ≤ xs.length) (hx : ∀ z ∈ xs, in64 z) :
    FSem C 12 [.ptr (.o 0) 0 0] [src xs a k] fun r st => r = .ret (.str (pieceV xs a)) ∧ st = [src xs (nA xs a 56) k] := by
  have hn0 := nV_nonneg xs a 56
  have hn1 := nV_lt xs a (n := 56) (by decide)
  have hlt : (nV xs a 56).toNat < pieces.length := by rw [pieces_len]; omega
  have hg : (pieces.map PVal.str)[(nV xs a 56).toNat]? = some (.str (pieceV xs a)) := by simp [pieceV, List.getD_eq_getElem?_getD, hlt]
  refine FSem.enter' (C := C) (n := 12) Tryd.func12 rfl rfl ok_12 (by simp) ?_
  simp only [argEnv]
  refine WC.rs fun K hK => ?_
  simp (maxSteps := 1000000) only [↓yld_succ, ↓yld_zero, EV, EO, ED, ↓EW, ↓EI, EB, EP, EL, tyq_0, tz_0, tyq_3, inq_3, tz_3, tyq_9, str_9, tz_9, tyq_25, ptq_25, tz_25, tyq_38, slq_38, tz_38, Nat.reduceAdd, Nat.reduceSub, Nat.reduceMul, Nat.reduceLT, Nat.reduceLeDiff, Nat.reduceEqDiff, Int.reduceToNat, Int.reduceLE, Int.reduceLT, Int.reduceEq, Int.reduceNeg, reduceCtorEq, reduceIte, decide_true, decide_false, List.forall_mem_cons, List.not_mem_nil, false_implies, implies_true, Bool.and_true, Bool.true_and, and_self, Nat.sub_zero, Nat.zero_add, Nat.add_zero]
  refine hK _ ?_; try clear hK K
  refine WC.trim [0, 2, 3] ?_
  simp only [ET, Nat.reduceEqDiff, reduceIte]
  refine WC.rj ⟨[(3, .ref (.l 0) 0 56), (0, .ptr (.o 0) 0 0)], [src xs a k], [.row (pieces.map .str) 1 9], []⟩ ?_ ?_
  · simp (maxSteps := 1000000) only [↓yld_succ, ↓yld_zero, EV, EO, ED, ↓EW, ↓EI, EB, EP, EL, tyq_0, tz_0, tyq_3, inq_3, tz_3, tyq_9, str_9, tz_9, tyq_25, ptq_25, tz_25, tyq_38, slq_38, tz_38, Nat.reduceAdd, Nat.reduceSub, Nat.reduceMul, Nat.reduceLT, Nat.reduceLeDiff, Nat.reduceEqDiff, Int.reduceToNat, Int.reduceLE, Int.reduceLT, Int.reduceEq, Int.reduceNeg, reduceCtorEq, reduceIte, decide_true, decide_false, List.forall_mem_cons, List.not_mem_nil, false_implies, implies_true, Bool.and_true, Bool.true_and, and_self, Nat.sub_zero, Nat.zero_add, Nat.add_zero]
    refine ⟨[0], ?_⟩
    refine ⟨by simp, by simp (maxSteps := 1000000) only [↓yld_succ, ↓yld_zero, EV, EO, ED, ↓EW, ↓EI, EB, EP, EL, tyq_0, tz_0, tyq_3, inq_3, tz_3, tyq_9, str_9, tz_9, tyq_25, ptq_25, tz_25, tyq_38, slq_38, tz_38, Nat.reduceAdd, Nat.reduceSub, Nat.reduceMul, Nat.reduceLT, Nat.reduceLeDiff, Nat.reduceEqDiff, Int.reduceToNat, Int.reduceLE, Int.reduceLT, Int.reduceEq, Int.reduceNeg, reduceCtorEq, reduceIte, decide_true, decide_false, List.forall_mem_cons, List.not_mem_nil, false_implies, implies_true, Bool.and_true, Bool.true_and, and_self, Nat.sub_zero, Nat.zero_add, Nat.add_zero, ER, and_self, pieces, src, ints_closed xs _], by simp (maxSteps := 1000000) only [↓yld_succ, ↓yld_zero, EV, EO, ED, ↓EW, ↓EI, EB, EP, EL, tyq_0, tz_0, tyq_3, inq_3, tz_3, tyq_9, str_9, tz_9, tyq_25, ptq_25, tz_25, tyq_38, slq_38, tz_38, Nat.reduceAdd, Nat.reduceSub, Nat.reduceMul, Nat.reduceLT, Nat.reduceLeDiff, Nat.reduceEqDiff, Int.reduceToNat, Int.reduceLE, Int.reduceLT, Int.reduceEq, Int.reduceNeg, reduceCtorEq, reduceIte, decide_true, decide_false, List.forall_mem_cons, List.not_mem_nil, false_implies, implies_true, Bool.and_true, Bool.true_and, and_self, Nat.sub_zero, Nat.zero_add, Nat.add_zero, ER, pieces, src, ints_closed xs _], by simp (maxSteps := 1000000) only [↓yld_succ, ↓yld_zero, EV, EO, ED, ↓EW, ↓EI, EB, EP, EL, tyq_0, tz_0, tyq_3, inq_3, tz_3, tyq_9, str_9, tz_9, tyq_25, ptq_25, tz_25, tyq_38, slq_38, tz_38, Nat.reduceAdd, Nat.reduceSub, Nat.reduceMul, Nat.reduceLT, Nat.reduceLeDiff, Nat.reduceEqDiff, Int.reduceToNat, Int.reduceLE, Int.reduceLT, Int.reduceEq, Int.reduceNeg, reduceCtorEq, reduceIte, decide_true, decide_false, List.forall_mem_cons, List.not_mem_nil, false_implies, implies_true, Bool.and_true, Bool.true_and, and_self, Nat.sub_zero, Nat.zero_add, Nat.add_zero, ER, pick, pieces, src, ints_closed xs _], rfl⟩
  refine WC.rs fun K hK => ?_
  simp (maxSteps := 1000000) only [↓yld_succ, ↓yld_zero, EV, EO, ED, ↓EW, ↓EI, EB, EP, EL, tyq_0, tz_0, tyq_3, inq_3, tz_3, tyq_9, str_9, tz_9, tyq_25, ptq_25, tz_25, tyq_38, slq_38, tz_38, Nat.reduceAdd, Nat.reduceSub, Nat.reduceMul, Nat.reduceLT, Nat.reduceLeDiff, Nat.reduceEqDiff, Int.reduceToNat, Int.reduceLE, Int.reduceLT, Int.reduceEq, Int.reduceNeg, reduceCtorEq, reduceIte, decide_true, decide_false, List.forall_mem_cons, List.not_mem_nil, false_implies, implies_true, Bool.and_true, Bool.true_and, and_self, Nat.sub_zero, Nat.zero_add, Nat.add_zero]
  refine CallX.mk (CallW.one (r := .o 0) (n_sem xs a k 56 hl ha hx ⟨by decide, by decide⟩) rfl (src_closed _ _ _) (src_closed _ _ _) (by simp only [CL]) (by simp [renL, ren, fCall]) ?_)
  simp (maxSteps := 1000000) only [↓yld_succ, ↓yld_zero, EV, EO, ED, ↓EW, ↓EI, EB, EP, EL, tyq_0, tz_0, tyq_3, inq_3, tz_3, tyq_9, str_9, tz_9, tyq_25, ptq_25, tz_25, tyq_38, slq_38, tz_38, Nat.reduceAdd, Nat.reduceSub, Nat.reduceMul, Nat.reduceLT, Nat.reduceLeDiff, Nat.reduceEqDiff, Int.reduceToNat, Int.reduceLE, Int.reduceLT, Int.reduceEq, Int.reduceNeg, reduceCtorEq, reduceIte, decide_true, decide_false, List.forall_mem_cons, List.not_mem_nil, false_implies, implies_true, Bool.and_true, Bool.true_and, and_self, Nat.sub_zero, Nat.zero_add, Nat.add_zero, hg]
  repeat refine ⟨by omega, ?_⟩
  refine hK _ ?_; try clear hK K
  refine WC.trim [0, 2, 3] ?_
  simp only [ET, Nat.reduceEqDiff, reduceIte]
  refine WC.ret ?_
  simp (maxSteps := 1000000) only [↓yld_succ, ↓yld_zero, EV, EO, ED, ↓EW, ↓EI, EB, EP, EL, tyq_0, tz_0, tyq_3, inq_3, tz_3, tyq_9, str_9, tz_9, tyq_25, ptq_25, tz_25, tyq_38, slq_38, tz_38, Nat.reduceAdd, Nat.reduceSub, Nat.reduceMul, Nat.reduceLT, Nat.reduceLeDiff, Nat.reduceEqDiff, Int.reduceToNat, Int.reduceLE, Int.reduceLT, Int.reduceEq, Int.reduceNeg, reduceCtorEq, reduceIte, decide_true, decide_false, List.forall_mem_cons, List.not_mem_nil, false_implies, implies_true, Bool.and_true, Bool.true_and, and_self, Nat.sub_zero, Nat.zero_add, Nat.add_zero, EQ, FnQ, Tryd.results12, wResL, tup, List.reverse_cons, List.reverse_nil, true_and]
  exact endsSame (by simp only [CL]) (closedBs_cons (src_closed _ _ _) closedBs_nil) ⟨rfl, rfl⟩

theorem lexerBuilt_sem (xs : List Int) (hx : ∀ z ∈ xs, (Lit.int .i64 z).wf = true) : FSem C 4 [.slc (xs.map (.int .i64))] [] fun r st => r = .ret (.bool true) ∧ st = [] := by
  have hx1 : ∀ z ∈ xs.take 1000, in64 z := fun z hz => by
    have := hx z (List.mem_of_mem_take hz)
    simp [Lit.wf, IntKind.min, IntKind.max, IntKind.signed, IntKind.bits] at this
    exact this
  have hl1 : (xs.take 1000).length ≤ 1000 := by simp; omega
  refine FSem.enter' (C := C) (n := 34) Tryd.func4 rfl rfl ok_4 (by simp) ?_
  simp only [argEnv]
  refine WC.rs fun K hK => ?_
  simp (maxSteps := 1000000) only [↓yld_succ, ↓yld_zero, EV, EO, ED, ↓EW, ↓EI, EB, EP, EL, tyq_3, inq_3, tz_3, tyq_4, bool_4, tz_4, tyq_9, str_9, tz_9, tyq_24, slq_24, tz_24, tyq_25, ptq_25, tz_25, Nat.reduceAdd, Nat.reduceSub, Nat.reduceMul, Nat.reduceLT, Nat.reduceLeDiff, Nat.reduceEqDiff, Int.reduceToNat, Int.reduceLE, Int.reduceLT, Int.reduceEq, Int.reduceNeg, reduceCtorEq, reduceIte, decide_true, decide_false, List.forall_mem_cons, List.not_mem_nil, false_implies, implies_true, Bool.and_true, Bool.true_and, and_self, Nat.sub_zero, Nat.zero_add, Nat.add_zero]
  refine hK _ ?_; try clear hK K
  refine WC.trim [0, 2, 3, 4, 5, 17, 26] ?_
  simp only [ET, Nat.reduceEqDiff, reduceIte]
  refine WC.rs fun K hK => ?_
  simp (maxSteps := 1000000) only [↓yld_succ, ↓yld_zero, EV, EO, ED, ↓EW, ↓EI, EB, EP, EL, tyq_3, inq_3, tz_3, tyq_4, bool_4, tz_4, tyq_9, str_9, tz_9, tyq_24, slq_24, tz_24, tyq_25, ptq_25, tz_25, Nat.reduceAdd, Nat.reduceSub, Nat.reduceMul, Nat.reduceLT, Nat.reduceLeDiff, Nat.reduceEqDiff, Int.reduceToNat, Int.reduceLE, Int.reduceLT, Int.reduceEq, Int.reduceNeg, reduceCtorEq, reduceIte, decide_true, decide_false, List.forall_mem_cons, List.not_mem_nil, false_implies, implies_true, Bool.and_true, Bool.true_and, and_self, Nat.sub_zero, Nat.zero_add, Nat.add_zero]
  refine CallX.mk (CallW.new1 (new_sem xs) (by simp only [CL, ints_closed, and_self]) (src_closed _ _ _) ?_)
  generalize xs.take 1000 = ys at hx1 hl1
  simp (maxSteps := 1000000) only [↓yld_succ, ↓yld_zero, EV, EO, ED, ↓EW, ↓EI, EB, EP, EL, tyq_3, inq_3, tz_3, tyq_4, bool_4, tz_4, tyq_9, str_9, tz_9, tyq_24, slq_24, tz_24, tyq_25, ptq_25, tz_25, Nat.reduceAdd, Nat.reduceSub, Nat.reduceMul, Nat.reduceLT, Nat.reduceLeDiff, Nat.reduceEqDiff, Int.reduceToNat, Int.reduceLE, Int.reduceLT, Int.reduceEq, Int.reduceNeg, reduceCtorEq, reduceIte, decide_true, decide_false, List.forall_mem_cons, List.not_mem_nil, false_implies, implies_true, Bool.and_true, Bool.true_and, and_self, Nat.sub_zero, Nat.zero_add, Nat.add_zero]
  refine hK _ ?_; try clear hK K
  refine WC.trim [0, 2, 3, 4, 5, 17, 26] ?_
  simp only [ET, Nat.reduceEqDiff, reduceIte]
  refine WC.rs fun K hK => ?_
  simp (maxSteps := 1000000) only [↓yld_succ, ↓yld_zero, EV, EO, ED, ↓EW, ↓EI, EB, EP, EL, tyq_3, inq_3, tz_3, tyq_4, bool_4, tz_4, tyq_9, str_9, tz_9, tyq_24, slq_24, tz_24, tyq_25, ptq_25, tz_25, Nat.reduceAdd, Nat.reduceSub, Nat.reduceMul, Nat.reduceLT, Nat.reduceLeDiff, Nat.reduceEqDiff, Int.reduceToNat, Int.reduceLE, Int.reduceLT, Int.reduceEq, Int.reduceNeg, reduceCtorEq, reduceIte, decide_true, decide_false, List.forall_mem_cons, List.not_mem_nil, false_implies, implies_true, Bool.and_true, Bool.true_and, and_self, Nat.sub_zero, Nat.zero_add, Nat.add_zero]
  refine hK _ ?_; try clear hK K
  refine WC.trim [0, 2, 3, 4, 5, 17, 26] ?_
  simp only [ET, Nat.reduceEqDiff, reduceIte]
  refine WC.sK fun K1 hK1 => ?_
  refine WC.rs fun K hK => ?_
  simp (maxSteps := 1000000) only [↓yld_succ, ↓yld_zero, EV, EO, ED, ↓EW, ↓EI, EB, EP, EL, tyq_3, inq_3, tz_3, tyq_4, bool_4, tz_4, tyq_9, str_9, tz_9, tyq_24, slq_24, tz_24, tyq_25, ptq_25, tz_25, Nat.reduceAdd, Nat.reduceSub, Nat.reduceMul, Nat.reduceLT, Nat.reduceLeDiff, Nat.reduceEqDiff, Int.reduceToNat, Int.reduceLE, Int.reduceLT, Int.reduceEq, Int.reduceNeg, reduceCtorEq, reduceIte, decide_true, decide_false, List.forall_mem_cons, List.not_mem_nil, false_implies, implies_true, Bool.and_true, Bool.true_and, and_self, Nat.sub_zero, Nat.zero_add, Nat.add_zero]
  refine hK _ ?_; try clear hK K
  refine WC.trim [0, 2, 3, 4, 5, 17, 26] ?_
  simp only [ET, Nat.reduceEqDiff, reduceIte]
  refine WC.b1 ?_
  refine WC.loop (X := Nat × Nat × List UInt8) (fun x => ⟨[(5, .int .i64 x.1), (4, .str x.2.2), (3, .ptr (.l 0) 0 0), (2, .bool false)], [], [src ys x.2.1 0], []⟩)
    (fun x => x.1 ≤ 30 ∧ x.2.1 ≤ ys.length ∧ x.2.2.length ≤ 100 * x.1) (fun x => 30 - x.1) (0, 0, []) [0] ⟨Nat.zero_le _, Nat.zero_le _, by simp⟩ ?_ ?_
  · refine ⟨by simp, by simp (maxSteps := 1000000) only [↓yld_succ, ↓yld_zero, EV, EO, ED, ↓EW, ↓EI, EB, EP, EL, tyq_3, inq_3, tz_3, tyq_4, bool_4, tz_4, tyq_9, str_9, tz_9, tyq_24, slq_24, tz_24, tyq_25, ptq_25, tz_25, Nat.reduceAdd, Nat.reduceSub, Nat.reduceMul, Nat.reduceLT, Nat.reduceLeDiff, Nat.reduceEqDiff, Int.reduceToNat, Int.reduceLE, Int.reduceLT, Int.reduceEq, Int.reduceNeg, reduceCtorEq, reduceIte, decide_true, decide_false, List.forall_mem_cons, List.not_mem_nil, false_implies, implies_true, Bool.and_true, Bool.true_and, and_self, Nat.sub_zero, Nat.zero_add, Nat.add_zero, ER, and_self, src, ints_closed ys _], by simp (maxSteps := 1000000) only [↓yld_succ, ↓yld_zero, EV, EO, ED, ↓EW, ↓EI, EB, EP, EL, tyq_3, inq_3, tz_3, tyq_4, bool_4, tz_4, tyq_9, str_9, tz_9, tyq_24, slq_24, tz_24, tyq_25, ptq_25, tz_25, Nat.reduceAdd, Nat.reduceSub, Nat.reduceMul, Nat.reduceLT, Nat.reduceLeDiff, Nat.reduceEqDiff, Int.reduceToNat, Int.reduceLE, Int.reduceLT, Int.reduceEq, Int.reduceNeg, reduceCtorEq, reduceIte, decide_true, decide_false, List.forall_mem_cons, List.not_mem_nil, false_implies, implies_true, Bool.and_true, Bool.true_and, and_self, Nat.sub_zero, Nat.zero_add, Nat.add_zero, ER, src, ints_closed ys _], by simp (maxSteps := 1000000) only [↓yld_succ, ↓yld_zero, EV, EO, ED, ↓EW, ↓EI, EB, EP, EL, tyq_3, inq_3, tz_3, tyq_4, bool_4, tz_4, tyq_9, str_9, tz_9, tyq_24, slq_24, tz_24, tyq_25, ptq_25, tz_25, Nat.reduceAdd, Nat.reduceSub, Nat.reduceMul, Nat.reduceLT, Nat.reduceLeDiff, Nat.reduceEqDiff, Int.reduceToNat, Int.reduceLE, Int.reduceLT, Int.reduceEq, Int.reduceNeg, reduceCtorEq, reduceIte, decide_true, decide_false, List.forall_mem_cons, List.not_mem_nil, false_implies, implies_true, Bool.and_true, Bool.true_and, and_self, Nat.sub_zero, Nat.zero_add, Nat.add_zero, ER, pick, src, ints_closed ys _], rfl⟩
  · rintro ⟨i, a, text⟩ ⟨h1, h2, h3⟩
    dsimp only at h1 h2 h3 ⊢
    refine WC.sK fun K2 hK2 => ?_
    refine WC.rj ⟨[(17, .bool (decide (i < 30) && (decide (i < 2) || decide (a < ys.length)))), (5, .int .i64 i), (4, .str text), (3, .ptr (.l 0) 0 0), (2, .bool false)], [], [src ys a 0], []⟩ ?_ ?_
    · simp (maxSteps := 1000000) only [↓yld_succ, ↓yld_zero, EV, EO, ED, ↓EW, ↓EI, EB, EP, EL, tyq_3, inq_3, tz_3, tyq_4, bool_4, tz_4, tyq_9, str_9, tz_9, tyq_24, slq_24, tz_24, tyq_25, ptq_25, tz_25, Nat.reduceAdd, Nat.reduceSub, Nat.reduceMul, Nat.reduceLT, Nat.reduceLeDiff, Nat.reduceEqDiff, Int.reduceToNat, Int.reduceLE, Int.reduceLT, Int.reduceEq, Int.reduceNeg, reduceCtorEq, reduceIte, decide_true, decide_false, List.forall_mem_cons, List.not_mem_nil, false_implies, implies_true, Bool.and_true, Bool.true_and, and_self, Nat.sub_zero, Nat.zero_add, Nat.add_zero]
      repeat' ((first | refine gW_split (fun h => ?_) (fun h => ?_) | refine gP_split (fun h => ?_) (fun h => ?_) | refine CallX.mk (CallW.one (r := .l 0) (more_sem ys a 0 hl1) rfl (src_closed _ _ _) (src_closed _ _ _) (by simp only [CL]) (by simp [renL, ren, fCall]) ?_)) <;> (try simp (maxSteps := 1000000) only [↓yld_succ, ↓yld_zero, EV, EO, ED, ↓EW, ↓EI, EB, EP, EL, tyq_3, inq_3, tz_3, tyq_4, bool_4, tz_4, tyq_9, str_9, tz_9, tyq_24, slq_24, tz_24, tyq_25, ptq_25, tz_25, Nat.reduceAdd, Nat.reduceSub, Nat.reduceMul, Nat.reduceLT, Nat.reduceLeDiff, Nat.reduceEqDiff, Int.reduceToNat, Int.reduceLE, Int.reduceLT, Int.reduceEq, Int.reduceNeg, reduceCtorEq, reduceIte, decide_true, decide_false, List.forall_mem_cons, List.not_mem_nil, false_implies, implies_true, Bool.and_true, Bool.true_and, and_self, Nat.sub_zero, Nat.zero_add, Nat.add_zero, h, Bool.not_true, Bool.not_false]))
      all_goals
        refine ⟨[0], ?_⟩
        refine ⟨by simp, ?_, by simp (maxSteps := 1000000) only [↓yld_succ, ↓yld_zero, EV, EO, ED, ↓EW, ↓EI, EB, EP, EL, tyq_3, inq_3, tz_3, tyq_4, bool_4, tz_4, tyq_9, str_9, tz_9, tyq_24, slq_24, tz_24, tyq_25, ptq_25, tz_25, Nat.reduceAdd, Nat.reduceSub, Nat.reduceMul, Nat.reduceLT, Nat.reduceLeDiff, Nat.reduceEqDiff, Int.reduceToNat, Int.reduceLE, Int.reduceLT, Int.reduceEq, Int.reduceNeg, reduceCtorEq, reduceIte, decide_true, decide_false, List.forall_mem_cons, List.not_mem_nil, false_implies, implies_true, Bool.and_true, Bool.true_and, and_self, Nat.sub_zero, Nat.zero_add, Nat.add_zero, ER, src, ints_closed ys _], by simp (maxSteps := 1000000) only [↓yld_succ, ↓yld_zero, EV, EO, ED, ↓EW, ↓EI, EB, EP, EL, tyq_3, inq_3, tz_3, tyq_4, bool_4, tz_4, tyq_9, str_9, tz_9, tyq_24, slq_24, tz_24, tyq_25, ptq_25, tz_25, Nat.reduceAdd, Nat.reduceSub, Nat.reduceMul, Nat.reduceLT, Nat.reduceLeDiff, Nat.reduceEqDiff, Int.reduceToNat, Int.reduceLE, Int.reduceLT, Int.reduceEq, Int.reduceNeg, reduceCtorEq, reduceIte, decide_true, decide_false, List.forall_mem_cons, List.not_mem_nil, false_implies, implies_true, Bool.and_true, Bool.true_and, and_self, Nat.sub_zero, Nat.zero_add, Nat.add_zero, ER, pick, src, ints_closed ys _], rfl⟩
        simp (maxSteps := 1000000) only [↓yld_succ, ↓yld_zero, EV, EO, ED, ↓EW, ↓EI, EB, EP, EL, tyq_3, inq_3, tz_3, tyq_4, bool_4, tz_4, tyq_9, str_9, tz_9, tyq_24, slq_24, tz_24, tyq_25, ptq_25, tz_25, Nat.reduceAdd, Nat.reduceSub, Nat.reduceMul, Nat.reduceLT, Nat.reduceLeDiff, Nat.reduceEqDiff, Int.reduceToNat, Int.reduceLE, Int.reduceLT, Int.reduceEq, Int.reduceNeg, reduceCtorEq, reduceIte, decide_true, decide_false, List.forall_mem_cons, List.not_mem_nil, false_implies, implies_true, Bool.and_true, Bool.true_and, and_self, Nat.sub_zero, Nat.zero_add, Nat.add_zero, ER, and_self, src, ints_closed ys _]
        clear hK1 hK2
        simp_all
        try first | omega | (intro _; omega) | (rw [Bool.eq_iff_iff]; simp; omega)
    · refine WC.cond (c := .tmp 17) rfl (fun h => ?_) (fun h => ?_)
      · have hc : i < 30 := by clear hK1 hK2; simp at h; exact h.1
        have hp := pieceV_len ys a
        have hnA := nA_le h2 56
        refine WC.skip ?_
        try simp only [EQ, reduceIte, Nat.reduceEqDiff]
        refine hK2 _ ?_; try clear hK2 K2
        refine WC.bs fun K3 hK3 => ?_
        refine WC.rs fun K hK => ?_
        simp (maxSteps := 1000000) only [↓yld_succ, ↓yld_zero, EV, EO, ED, ↓EW, ↓EI, EB, EP, EL, tyq_3, inq_3, tz_3, tyq_4, bool_4, tz_4, tyq_9, str_9, tz_9, tyq_24, slq_24, tz_24, tyq_25, ptq_25, tz_25, Nat.reduceAdd, Nat.reduceSub, Nat.reduceMul, Nat.reduceLT, Nat.reduceLeDiff, Nat.reduceEqDiff, Int.reduceToNat, Int.reduceLE, Int.reduceLT, Int.reduceEq, Int.reduceNeg, reduceCtorEq, reduceIte, decide_true, decide_false, List.forall_mem_cons, List.not_mem_nil, false_implies, implies_true, Bool.and_true, Bool.true_and, and_self, Nat.sub_zero, Nat.zero_add, Nat.add_zero]
        refine CallX.mk (CallW.one (r := .l 0) (piece_sem ys a 0 hl1 h2 hx1) rfl (src_closed _ _ _) (src_closed _ _ _) (by simp only [CL]) (by simp [renL, ren, fCall]) ?_)
        simp (maxSteps := 1000000) only [↓yld_succ, ↓yld_zero, EV, EO, ED, ↓EW, ↓EI, EB, EP, EL, tyq_3, inq_3, tz_3, tyq_4, bool_4, tz_4, tyq_9, str_9, tz_9, tyq_24, slq_24, tz_24, tyq_25, ptq_25, tz_25, Nat.reduceAdd, Nat.reduceSub, Nat.reduceMul, Nat.reduceLT, Nat.reduceLeDiff, Nat.reduceEqDiff, Int.reduceToNat, Int.reduceLE, Int.reduceLT, Int.reduceEq, Int.reduceNeg, reduceCtorEq, reduceIte, decide_true, decide_false, List.forall_mem_cons, List.not_mem_nil, false_implies, implies_true, Bool.and_true, Bool.true_and, and_self, Nat.sub_zero, Nat.zero_add, Nat.add_zero]
        repeat refine ⟨by omega, ?_⟩
        refine hK _ ?_; try clear hK K
        refine WC.trim [0, 2, 3, 4, 5, 17, 26] ?_
        simp only [ET, Nat.reduceEqDiff, reduceIte]
        refine WC.rs fun K hK => ?_
        simp (maxSteps := 1000000) only [↓yld_succ, ↓yld_zero, EV, EO, ED, ↓EW, ↓EI, EB, EP, EL, tyq_3, inq_3, tz_3, tyq_4, bool_4, tz_4, tyq_9, str_9, tz_9, tyq_24, slq_24, tz_24, tyq_25, ptq_25, tz_25, Nat.reduceAdd, Nat.reduceSub, Nat.reduceMul, Nat.reduceLT, Nat.reduceLeDiff, Nat.reduceEqDiff, Int.reduceToNat, Int.reduceLE, Int.reduceLT, Int.reduceEq, Int.reduceNeg, reduceCtorEq, reduceIte, decide_true, decide_false, List.forall_mem_cons, List.not_mem_nil, false_implies, implies_true, Bool.and_true, Bool.true_and, and_self, Nat.sub_zero, Nat.zero_add, Nat.add_zero]
        refine CallX.mk (CallW.one (r := .l 0) (n_sem ys (nA ys a 56) 0 3 hl1 hnA hx1 ⟨by decide, by decide⟩) rfl (src_closed _ _ _) (src_closed _ _ _) (by simp only [CL]) (by simp [renL, ren, fCall]) ?_)
        simp (maxSteps := 1000000) only [↓yld_succ, ↓yld_zero, EV, EO, ED, ↓EW, ↓EI, EB, EP, EL, tyq_3, inq_3, tz_3, tyq_4, bool_4, tz_4, tyq_9, str_9, tz_9, tyq_24, slq_24, tz_24, tyq_25, ptq_25, tz_25, Nat.reduceAdd, Nat.reduceSub, Nat.reduceMul, Nat.reduceLT, Nat.reduceLeDiff, Nat.reduceEqDiff, Int.reduceToNat, Int.reduceLE, Int.reduceLT, Int.reduceEq, Int.reduceNeg, reduceCtorEq, reduceIte, decide_true, decide_false, List.forall_mem_cons, List.not_mem_nil, false_implies, implies_true, Bool.and_true, Bool.true_and, and_self, Nat.sub_zero, Nat.zero_add, Nat.add_zero]
        refine hK _ ?_; try clear hK K
        refine WC.trim [0, 2, 3, 4, 5, 17, 26] ?_
        simp only [ET, Nat.reduceEqDiff, reduceIte]
        have hnA2 := nA_le hnA 3
        refine WC.cond (c := .tmp 26) rfl (fun h => ?_) (fun h => ?_)
        · refine WC.r1 ?_
          simp (maxSteps := 1000000) only [↓yld_succ, ↓yld_zero, EV, EO, ED, ↓EW, ↓EI, EB, EP, EL, tyq_3, inq_3, tz_3, tyq_4, bool_4, tz_4, tyq_9, str_9, tz_9, tyq_24, slq_24, tz_24, tyq_25, ptq_25, tz_25, Nat.reduceAdd, Nat.reduceSub, Nat.reduceMul, Nat.reduceLT, Nat.reduceLeDiff, Nat.reduceEqDiff, Int.reduceToNat, Int.reduceLE, Int.reduceLT, Int.reduceEq, Int.reduceNeg, reduceCtorEq, reduceIte, decide_true, decide_false, List.forall_mem_cons, List.not_mem_nil, false_implies, implies_true, Bool.and_true, Bool.true_and, and_self, Nat.sub_zero, Nat.zero_add, Nat.add_zero, List.length_append]
          repeat refine ⟨by omega, ?_⟩
          try simp only [EQ, reduceIte, Nat.reduceEqDiff]
          refine hK3 _ ?_; try clear hK3 K3
          refine WC.r1 ?_
          simp (maxSteps := 1000000) (disch := omega) only [↓yld_succ, ↓yld_zero, EV, EO, ED, ↓EW, ↓EI, EB, EP, EL, tyq_3, inq_3, tz_3, tyq_4, bool_4, tz_4, tyq_9, str_9, tz_9, tyq_24, slq_24, tz_24, tyq_25, ptq_25, tz_25, Nat.reduceAdd, Nat.reduceSub, Nat.reduceMul, Nat.reduceLT, Nat.reduceLeDiff, Nat.reduceEqDiff, Int.reduceToNat, Int.reduceLE, Int.reduceLT, Int.reduceEq, Int.reduceNeg, reduceCtorEq, reduceIte, decide_true, decide_false, List.forall_mem_cons, List.not_mem_nil, false_implies, implies_true, Bool.and_true, Bool.true_and, and_self, Nat.sub_zero, Nat.zero_add, Nat.add_zero, w64]
          try simp only [EQ, reduceIte, Nat.reduceEqDiff]
          refine ⟨(i + 1, nA ys (nA ys a 56) 3, text ++ pieceV ys a ++ [32]), [0], ⟨by dsimp only; omega, hnA2, by dsimp only; simp only [List.length_append, List.length_cons, List.length_nil]; omega⟩, by dsimp only; omega, ?_⟩
          refine ⟨by simp, by simp (maxSteps := 1000000) only [↓yld_succ, ↓yld_zero, EV, EO, ED, ↓EW, ↓EI, EB, EP, EL, tyq_3, inq_3, tz_3, tyq_4, bool_4, tz_4, tyq_9, str_9, tz_9, tyq_24, slq_24, tz_24, tyq_25, ptq_25, tz_25, Nat.reduceAdd, Nat.reduceSub, Nat.reduceMul, Nat.reduceLT, Nat.reduceLeDiff, Nat.reduceEqDiff, Int.reduceToNat, Int.reduceLE, Int.reduceLT, Int.reduceEq, Int.reduceNeg, reduceCtorEq, reduceIte, decide_true, decide_false, List.forall_mem_cons, List.not_mem_nil, false_implies, implies_true, Bool.and_true, Bool.true_and, and_self, Nat.sub_zero, Nat.zero_add, Nat.add_zero, ER, and_self, src, ints_closed ys _, Int.natCast_add], by simp (maxSteps := 1000000) only [↓yld_succ, ↓yld_zero, EV, EO, ED, ↓EW, ↓EI, EB, EP, EL, tyq_3, inq_3, tz_3, tyq_4, bool_4, tz_4, tyq_9, str_9, tz_9, tyq_24, slq_24, tz_24, tyq_25, ptq_25, tz_25, Nat.reduceAdd, Nat.reduceSub, Nat.reduceMul, Nat.reduceLT, Nat.reduceLeDiff, Nat.reduceEqDiff, Int.reduceToNat, Int.reduceLE, Int.reduceLT, Int.reduceEq, Int.reduceNeg, reduceCtorEq, reduceIte, decide_true, decide_false, List.forall_mem_cons, List.not_mem_nil, false_implies, implies_true, Bool.and_true, Bool.true_and, and_self, Nat.sub_zero, Nat.zero_add, Nat.add_zero, ER, src, ints_closed ys _, Int.natCast_add], by simp (maxSteps := 1000000) only [↓yld_succ, ↓yld_zero, EV, EO, ED, ↓EW, ↓EI, EB, EP, EL, tyq_3, inq_3, tz_3, tyq_4, bool_4, tz_4, tyq_9, str_9, tz_9, tyq_24, slq_24, tz_24, tyq_25, ptq_25, tz_25, Nat.reduceAdd, Nat.reduceSub, Nat.reduceMul, Nat.reduceLT, Nat.reduceLeDiff, Nat.reduceEqDiff, Int.reduceToNat, Int.reduceLE, Int.reduceLT, Int.reduceEq, Int.reduceNeg, reduceCtorEq, reduceIte, decide_true, decide_false, List.forall_mem_cons, List.not_mem_nil, false_implies, implies_true, Bool.and_true, Bool.true_and, and_self, Nat.sub_zero, Nat.zero_add, Nat.add_zero, ER, pick, src, ints_closed ys _, Int.natCast_add], rfl⟩
        · refine WC.skip ?_
          try simp only [EQ, reduceIte, Nat.reduceEqDiff]
          refine hK3 _ ?_; try clear hK3 K3
          refine WC.r1 ?_
          simp (maxSteps := 1000000) (disch := omega) only [↓yld_succ, ↓yld_zero, EV, EO, ED, ↓EW, ↓EI, EB, EP, EL, tyq_3, inq_3, tz_3, tyq_4, bool_4, tz_4, tyq_9, str_9, tz_9, tyq_24, slq_24, tz_24, tyq_25, ptq_25, tz_25, Nat.reduceAdd, Nat.reduceSub, Nat.reduceMul, Nat.reduceLT, Nat.reduceLeDiff, Nat.reduceEqDiff, Int.reduceToNat, Int.reduceLE, Int.reduceLT, Int.reduceEq, Int.reduceNeg, reduceCtorEq, reduceIte, decide_true, decide_false, List.forall_mem_cons, List.not_mem_nil, false_implies, implies_true, Bool.and_true, Bool.true_and, and_self, Nat.sub_zero, Nat.zero_add, Nat.add_zero, w64]
          try simp only [EQ, reduceIte, Nat.reduceEqDiff]
          refine ⟨(i + 1, nA ys (nA ys a 56) 3, text ++ pieceV ys a), [0], ⟨by dsimp only; omega, hnA2, by dsimp only; simp only [List.length_append]; omega⟩, by dsimp only; omega, ?_⟩
          refine ⟨by simp, by simp (maxSteps := 1000000) only [↓yld_succ, ↓yld_zero, EV, EO, ED, ↓EW, ↓EI, EB, EP, EL, tyq_3, inq_3, tz_3, tyq_4, bool_4, tz_4, tyq_9, str_9, tz_9, tyq_24, slq_24, tz_24, tyq_25, ptq_25, tz_25, Nat.reduceAdd, Nat.reduceSub, Nat.reduceMul, Nat.reduceLT, Nat.reduceLeDiff, Nat.reduceEqDiff, Int.reduceToNat, Int.reduceLE, Int.reduceLT, Int.reduceEq, Int.reduceNeg, reduceCtorEq, reduceIte, decide_true, decide_false, List.forall_mem_cons, List.not_mem_nil, false_implies, implies_true, Bool.and_true, Bool.true_and, and_self, Nat.sub_zero, Nat.zero_add, Nat.add_zero, ER, and_self, src, ints_closed ys _, Int.natCast_add], by simp (maxSteps := 1000000) only [↓yld_succ, ↓yld_zero, EV, EO, ED, ↓EW, ↓EI, EB, EP, EL, tyq_3, inq_3, tz_3, tyq_4, bool_4, tz_4, tyq_9, str_9, tz_9, tyq_24, slq_24, tz_24, tyq_25, ptq_25, tz_25, Nat.reduceAdd, Nat.reduceSub, Nat.reduceMul, Nat.reduceLT, Nat.reduceLeDiff, Nat.reduceEqDiff, Int.reduceToNat, Int.reduceLE, Int.reduceLT, Int.reduceEq, Int.reduceNeg, reduceCtorEq, reduceIte, decide_true, decide_false, List.forall_mem_cons, List.not_mem_nil, false_implies, implies_true, Bool.and_true, Bool.true_and, and_self, Nat.sub_zero, Nat.zero_add, Nat.add_zero, ER, src, ints_closed ys _, Int.natCast_add], by simp (maxSteps := 1000000) only [↓yld_succ, ↓yld_zero, EV, EO, ED, ↓EW, ↓EI, EB, EP, EL, tyq_3, inq_3, tz_3, tyq_4, bool_4, tz_4, tyq_9, str_9, tz_9, tyq_24, slq_24, tz_24, tyq_25, ptq_25, tz_25, Nat.reduceAdd, Nat.reduceSub, Nat.reduceMul, Nat.reduceLT, Nat.reduceLeDiff, Nat.reduceEqDiff, Int.reduceToNat, Int.reduceLE, Int.reduceLT, Int.reduceEq, Int.reduceNeg, reduceCtorEq, reduceIte, decide_true, decide_false, List.forall_mem_cons, List.not_mem_nil, false_implies, implies_true, Bool.and_true, Bool.true_and, and_self, Nat.sub_zero, Nat.zero_add, Nat.add_zero, ER, pick, src, ints_closed ys _, Int.natCast_add], rfl⟩
      · refine WC.exit ?_
        simp only [EQ, reduceIte, Nat.reduceEqDiff]
        try simp only [EQ, reduceIte, Nat.reduceEqDiff]
        refine hK1 _ ?_; try clear hK1 K1
        refine WC.rs fun K hK => ?_
        simp (maxSteps := 1000000) only [↓yld_succ, ↓yld_zero, EV, EO, ED, ↓EW, ↓EI, EB, EP, EL, tyq_3, inq_3, tz_3, tyq_4, bool_4, tz_4, tyq_9, str_9, tz_9, tyq_24, slq_24, tz_24, tyq_25, ptq_25, tz_25, Nat.reduceAdd, Nat.reduceSub, Nat.reduceMul, Nat.reduceLT, Nat.reduceLeDiff, Nat.reduceEqDiff, Int.reduceToNat, Int.reduceLE, Int.reduceLT, Int.reduceEq, Int.reduceNeg, reduceCtorEq, reduceIte, decide_true, decide_false, List.forall_mem_cons, List.not_mem_nil, false_implies, implies_true, Bool.and_true, Bool.true_and, and_self, Nat.sub_zero, Nat.zero_add, Nat.add_zero]
        refine CallX.mk (CallW.pure (agree_sem text) (by simp only [CL, and_self]) (by simp only [CL]) ?_)
        simp (maxSteps := 1000000) only [↓yld_succ, ↓yld_zero, EV, EO, ED, ↓EW, ↓EI, EB, EP, EL, tyq_3, inq_3, tz_3, tyq_4, bool_4, tz_4, tyq_9, str_9, tz_9, tyq_24, slq_24, tz_24, tyq_25, ptq_25, tz_25, Nat.reduceAdd, Nat.reduceSub, Nat.reduceMul, Nat.reduceLT, Nat.reduceLeDiff, Nat.reduceEqDiff, Int.reduceToNat, Int.reduceLE, Int.reduceLT, Int.reduceEq, Int.reduceNeg, reduceCtorEq, reduceIte, decide_true, decide_false, List.forall_mem_cons, List.not_mem_nil, false_implies, implies_true, Bool.and_true, Bool.true_and, and_self, Nat.sub_zero, Nat.zero_add, Nat.add_zero]
        refine CallX.mk (CallW.pure awake_sem (by simp only [CL, and_self]) (by simp only [CL]) ?_)
        simp (maxSteps := 1000000) only [↓yld_succ, ↓yld_zero, EV, EO, ED, ↓EW, ↓EI, EB, EP, EL, tyq_3, inq_3, tz_3, tyq_4, bool_4, tz_4, tyq_9, str_9, tz_9, tyq_24, slq_24, tz_24, tyq_25, ptq_25, tz_25, Nat.reduceAdd, Nat.reduceSub, Nat.reduceMul, Nat.reduceLT, Nat.reduceLeDiff, Nat.reduceEqDiff, Int.reduceToNat, Int.reduceLE, Int.reduceLT, Int.reduceEq, Int.reduceNeg, reduceCtorEq, reduceIte, decide_true, decide_false, List.forall_mem_cons, List.not_mem_nil, false_implies, implies_true, Bool.and_true, Bool.true_and, and_self, Nat.sub_zero, Nat.zero_add, Nat.add_zero]
        refine hK _ ?_; try clear hK K
        refine WC.trim [0, 2, 3, 4, 5, 17, 26] ?_
        simp only [ET, Nat.reduceEqDiff, reduceIte]
        refine WC.ret ?_
        simp (maxSteps := 1000000) only [↓yld_succ, ↓yld_zero, EV, EO, ED, ↓EW, ↓EI, EB, EP, EL, tyq_3, inq_3, tz_3, tyq_4, bool_4, tz_4, tyq_9, str_9, tz_9, tyq_24, slq_24, tz_24, tyq_25, ptq_25, tz_25, Nat.reduceAdd, Nat.reduceSub, Nat.reduceMul, Nat.reduceLT, Nat.reduceLeDiff, Nat.reduceEqDiff, Int.reduceToNat, Int.reduceLE, Int.reduceLT, Int.reduceEq, Int.reduceNeg, reduceCtorEq, reduceIte, decide_true, decide_false, List.forall_mem_cons, List.not_mem_nil, false_implies, implies_true, Bool.and_true, Bool.true_and, and_self, Nat.sub_zero, Nat.zero_add, Nat.add_zero, EQ, FnQ, Tryd.results4, wResL, tup, List.reverse_cons, List.reverse_nil, true_and]
        exact endsPure (by simp only [CL]) rfl
end Go.LexSem
