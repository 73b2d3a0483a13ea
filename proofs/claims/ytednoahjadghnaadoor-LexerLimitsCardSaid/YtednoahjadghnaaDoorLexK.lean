import Derived.Test.YtednoahjadghnaaDoorLexJ
set_option linter.unusedSimpArgs false
set_option linter.unusedVariables false
set_option linter.loopingSimpArgs false
namespace Go.LexSem
open Go Go.V Go.Proofs

def tokv (ts : List Tok) : PVal := match ts with
  | [] => .nils
  | t :: r => .slc ((t :: r).map tkv)
def tokensF (s : List UInt8) : List Tok × (Nat × Nat) × Nat := if 8192 < s.length then ([], (1, 1), 9) else lexF s 0 1 1 []
theorem tkv_closed (ts : List Tok) : ClosedL (ts.map tkv) := ClosedL.map (fun t => fun _ => rfl) ts

theorem renL_append (f : Ref → Ref) (a b : List PVal) : renL f (a ++ b) = renL f a ++ renL f b := by rw [renL_map, renL_map, renL_map, List.map_append]
theorem tokv_append (acc : List Tok) (t : Tok) : tokv (acc ++ [t]) = .slc ((acc ++ [t]).map tkv) := by
  cases acc <;> rfl

theorem tokens_sem (hkw : FSem C 28 [] [] fun r st => r = .ret (.slc (kws.map .str)) ∧ st = []) (hsg : FSem C 30 [] [] fun r st => r = .ret (.slc (sgs.map .str)) ∧ st = []) (s : List UInt8) :
    FSem C 14 [.str s] [] fun r st => r = .ret (.tuple [tokv (tokensF s).1, pl (tokensF s).2.1.1 (tokensF s).2.1.2, .int .i64 (tokensF s).2.2]) ∧ st = [] := by
  refine FSem.enter' (C := C) (n := 90) Tryd.func14 rfl rfl ok_14 (by simp) ?_
  simp only [argEnv]
  refine WC.rs fun K hK => ?_
  simp (maxSteps := 1000000) only [↓yld_succ, ↓yld_zero, EV, EO, ED, ↓EW, ↓EI, EB, EP, EL, tyq_0, tz_0, tyq_3, inq_3, tz_3, tyq_4, bool_4, tz_4, tyq_5, inq_5, tz_5, tyq_9, str_9, tz_9, tyq_30, slq_30, tz_30, tyq_32, fq_32_0, fq_32_1, bq_32, feq_32, tz_32, tyq_33, inq_33, tz_33, tyq_37, fq_37_0, fq_37_1, fq_37_2, fq_37_3, bq_37, feq_37, tz_37, tyq_45, ptq_45, tz_45, tyq_47, fq_47_0, fq_47_1, fq_47_2, fq_47_3, bq_47, feq_47, tz_47, tyq_52, tz_52, tyq_58, tz_58, Nat.reduceAdd, Nat.reduceSub, Nat.reduceMul, Nat.reduceLT, Nat.reduceLeDiff, Nat.reduceEqDiff, Int.reduceToNat, Int.reduceLE, Int.reduceLT, Int.reduceEq, Int.reduceNeg, reduceCtorEq, reduceIte, decide_true, decide_false, List.forall_mem_cons, List.not_mem_nil, false_implies, implies_true, Bool.and_true, Bool.true_and, and_self, Nat.sub_zero, Nat.zero_add, Nat.add_zero]
  refine hK _ ?_; try clear hK K
  refine WC.trim [0, 2, 3, 4, 5, 6, 7, 8, 9, 15, 24, 25, 35, 55] ?_
  simp only [ET, Nat.reduceEqDiff, reduceIte]
  refine WC.scope ?_
  refine WC.rs fun K hK => ?_
  simp (maxSteps := 1000000) only [↓yld_succ, ↓yld_zero, EV, EO, ED, ↓EW, ↓EI, EB, EP, EL, tyq_0, tz_0, tyq_3, inq_3, tz_3, tyq_4, bool_4, tz_4, tyq_5, inq_5, tz_5, tyq_9, str_9, tz_9, tyq_30, slq_30, tz_30, tyq_32, fq_32_0, fq_32_1, bq_32, feq_32, tz_32, tyq_33, inq_33, tz_33, tyq_37, fq_37_0, fq_37_1, fq_37_2, fq_37_3, bq_37, feq_37, tz_37, tyq_45, ptq_45, tz_45, tyq_47, fq_47_0, fq_47_1, fq_47_2, fq_47_3, bq_47, feq_47, tz_47, tyq_52, tz_52, tyq_58, tz_58, Nat.reduceAdd, Nat.reduceSub, Nat.reduceMul, Nat.reduceLT, Nat.reduceLeDiff, Nat.reduceEqDiff, Int.reduceToNat, Int.reduceLE, Int.reduceLT, Int.reduceEq, Int.reduceNeg, reduceCtorEq, reduceIte, decide_true, decide_false, List.forall_mem_cons, List.not_mem_nil, false_implies, implies_true, Bool.and_true, Bool.true_and, and_self, Nat.sub_zero, Nat.zero_add, Nat.add_zero]
  refine hK _ ?_; try clear hK K
  refine WC.trim [0, 2, 3, 4, 5, 6, 7, 8, 9, 15, 24, 25, 35, 55] ?_
  simp only [ET, Nat.reduceEqDiff, reduceIte]
  refine WC.sK fun K1 hK1 => ?_
  refine WC.rs fun K hK => ?_
  simp (maxSteps := 1000000) only [↓yld_succ, ↓yld_zero, EV, EO, ED, ↓EW, ↓EI, EB, EP, EL, tyq_0, tz_0, tyq_3, inq_3, tz_3, tyq_4, bool_4, tz_4, tyq_5, inq_5, tz_5, tyq_9, str_9, tz_9, tyq_30, slq_30, tz_30, tyq_32, fq_32_0, fq_32_1, bq_32, feq_32, tz_32, tyq_33, inq_33, tz_33, tyq_37, fq_37_0, fq_37_1, fq_37_2, fq_37_3, bq_37, feq_37, tz_37, tyq_45, ptq_45, tz_45, tyq_47, fq_47_0, fq_47_1, fq_47_2, fq_47_3, bq_47, feq_47, tz_47, tyq_52, tz_52, tyq_58, tz_58, Nat.reduceAdd, Nat.reduceSub, Nat.reduceMul, Nat.reduceLT, Nat.reduceLeDiff, Nat.reduceEqDiff, Int.reduceToNat, Int.reduceLE, Int.reduceLT, Int.reduceEq, Int.reduceNeg, reduceCtorEq, reduceIte, decide_true, decide_false, List.forall_mem_cons, List.not_mem_nil, false_implies, implies_true, Bool.and_true, Bool.true_and, and_self, Nat.sub_zero, Nat.zero_add, Nat.add_zero]
  refine hK _ ?_; try clear hK K
  refine WC.trim [0, 2, 3, 4, 5, 6, 7, 8, 9, 15, 24, 25, 35, 55] ?_
  simp only [ET, Nat.reduceEqDiff, reduceIte]
  refine WC.cond (c := .tmp 15) rfl (fun h => ?_) (fun h => ?_)
  · have h8 : 8192 < s.length := by simp at h; omega
    refine WC.rs fun K hK => ?_
    simp (maxSteps := 1000000) only [↓yld_succ, ↓yld_zero, EV, EO, ED, ↓EW, ↓EI, EB, EP, EL, tyq_0, tz_0, tyq_3, inq_3, tz_3, tyq_4, bool_4, tz_4, tyq_5, inq_5, tz_5, tyq_9, str_9, tz_9, tyq_30, slq_30, tz_30, tyq_32, fq_32_0, fq_32_1, bq_32, feq_32, tz_32, tyq_33, inq_33, tz_33, tyq_37, fq_37_0, fq_37_1, fq_37_2, fq_37_3, bq_37, feq_37, tz_37, tyq_45, ptq_45, tz_45, tyq_47, fq_47_0, fq_47_1, fq_47_2, fq_47_3, bq_47, feq_47, tz_47, tyq_52, tz_52, tyq_58, tz_58, Nat.reduceAdd, Nat.reduceSub, Nat.reduceMul, Nat.reduceLT, Nat.reduceLeDiff, Nat.reduceEqDiff, Int.reduceToNat, Int.reduceLE, Int.reduceLT, Int.reduceEq, Int.reduceNeg, reduceCtorEq, reduceIte, decide_true, decide_false, List.forall_mem_cons, List.not_mem_nil, false_implies, implies_true, Bool.and_true, Bool.true_and, and_self, Nat.sub_zero, Nat.zero_add, Nat.add_zero]
    refine CallX.mk (CallW.one (r := .l 1) (pos_sem s 0 1 1) rfl (rd_closed _ _ _ _) (rd_closed _ _ _ _) (by simp only [CL, and_self]) (by simp [renL, ren, fCall]) ?_)
    simp (maxSteps := 1000000) only [↓yld_succ, ↓yld_zero, EV, EO, ED, ↓EW, ↓EI, EB, EP, EL, tyq_0, tz_0, tyq_3, inq_3, tz_3, tyq_4, bool_4, tz_4, tyq_5, inq_5, tz_5, tyq_9, str_9, tz_9, tyq_30, slq_30, tz_30, tyq_32, fq_32_0, fq_32_1, bq_32, feq_32, tz_32, tyq_33, inq_33, tz_33, tyq_37, fq_37_0, fq_37_1, fq_37_2, fq_37_3, bq_37, feq_37, tz_37, tyq_45, ptq_45, tz_45, tyq_47, fq_47_0, fq_47_1, fq_47_2, fq_47_3, bq_47, feq_47, tz_47, tyq_52, tz_52, tyq_58, tz_58, Nat.reduceAdd, Nat.reduceSub, Nat.reduceMul, Nat.reduceLT, Nat.reduceLeDiff, Nat.reduceEqDiff, Int.reduceToNat, Int.reduceLE, Int.reduceLT, Int.reduceEq, Int.reduceNeg, reduceCtorEq, reduceIte, decide_true, decide_false, List.forall_mem_cons, List.not_mem_nil, false_implies, implies_true, Bool.and_true, Bool.true_and, and_self, Nat.sub_zero, Nat.zero_add, Nat.add_zero, rd]
    refine hK _ ?_; try clear hK K
    refine WC.trim [0, 2, 3, 4, 5, 6, 7, 8, 9, 15, 24, 25, 35, 55] ?_
    simp only [ET, Nat.reduceEqDiff, reduceIte]
    refine WC.ret ?_
    simp (maxSteps := 1000000) only [↓yld_succ, ↓yld_zero, EV, EO, ED, ↓EW, ↓EI, EB, EP, EL, tyq_0, tz_0, tyq_3, inq_3, tz_3, tyq_4, bool_4, tz_4, tyq_5, inq_5, tz_5, tyq_9, str_9, tz_9, tyq_30, slq_30, tz_30, tyq_32, fq_32_0, fq_32_1, bq_32, feq_32, tz_32, tyq_33, inq_33, tz_33, tyq_37, fq_37_0, fq_37_1, fq_37_2, fq_37_3, bq_37, feq_37, tz_37, tyq_45, ptq_45, tz_45, tyq_47, fq_47_0, fq_47_1, fq_47_2, fq_47_3, bq_47, feq_47, tz_47, tyq_52, tz_52, tyq_58, tz_58, Nat.reduceAdd, Nat.reduceSub, Nat.reduceMul, Nat.reduceLT, Nat.reduceLeDiff, Nat.reduceEqDiff, Int.reduceToNat, Int.reduceLE, Int.reduceLT, Int.reduceEq, Int.reduceNeg, reduceCtorEq, reduceIte, decide_true, decide_false, List.forall_mem_cons, List.not_mem_nil, false_implies, implies_true, Bool.and_true, Bool.true_and, and_self, Nat.sub_zero, Nat.zero_add, Nat.add_zero, EQ, FnQ, Tryd.results14, wResL, tup, List.reverse_cons, List.reverse_nil, true_and]
    refine endsSame (by simp only [CL, and_self]) closedBs_nil ⟨?_, rfl⟩
    rw [tokensF, if_pos h8]; rfl
  · have h8 : ¬ 8192 < s.length := by simp at h; omega
    have hs : s.length ≤ 8192 := by omega
    refine WC.skip ?_
    try simp only [EQ, reduceIte, Nat.reduceEqDiff]
    refine hK1 _ ?_; try clear hK1 K1
    refine WC.rs fun K hK => ?_
    simp (maxSteps := 1000000) only [↓yld_succ, ↓yld_zero, EV, EO, ED, ↓EW, ↓EI, EB, EP, EL, tyq_0, tz_0, tyq_3, inq_3, tz_3, tyq_4, bool_4, tz_4, tyq_5, inq_5, tz_5, tyq_9, str_9, tz_9, tyq_30, slq_30, tz_30, tyq_32, fq_32_0, fq_32_1, bq_32, feq_32, tz_32, tyq_33, inq_33, tz_33, tyq_37, fq_37_0, fq_37_1, fq_37_2, fq_37_3, bq_37, feq_37, tz_37, tyq_45, ptq_45, tz_45, tyq_47, fq_47_0, fq_47_1, fq_47_2, fq_47_3, bq_47, feq_47, tz_47, tyq_52, tz_52, tyq_58, tz_58, Nat.reduceAdd, Nat.reduceSub, Nat.reduceMul, Nat.reduceLT, Nat.reduceLeDiff, Nat.reduceEqDiff, Int.reduceToNat, Int.reduceLE, Int.reduceLT, Int.reduceEq, Int.reduceNeg, reduceCtorEq, reduceIte, decide_true, decide_false, List.forall_mem_cons, List.not_mem_nil, false_implies, implies_true, Bool.and_true, Bool.true_and, and_self, Nat.sub_zero, Nat.zero_add, Nat.add_zero]
    refine hK _ ?_; try clear hK K
    refine WC.trim [0, 2, 3, 4, 5, 6, 7, 8, 9, 15, 24, 25, 35, 55] ?_
    simp only [ET, Nat.reduceEqDiff, reduceIte]
    refine WC.thaw 6 4 37 rfl ?_
    refine WC.ls ?_
    refine WC.bs fun K2 hK2 => ?_
    refine WC.loop (X := Nat × Nat × Nat × List Tok) (fun x => ⟨[(6, .ref (.l 2) 0 x.2.2.2.length), (5, .ptr (.l 1) 0 0), (4, .int .i64 0), (3, .ptr (.l 0) 0 0), (2, .nils), (0, .str s)], [],
        [.row [.agg [.int .i64 0, .int .i64 0]] 2 32, rd s x.1 x.2.1 x.2.2.1, .row (x.2.2.2.map tkv) 4 37], []⟩)
      (fun x => x.1 ≤ s.length ∧ x.2.1 ≤ x.1 + 1 ∧ x.2.2.1 ≤ x.1 + 1 ∧ x.2.2.2.length ≤ x.1 ∧ lexF s x.1 x.2.1 x.2.2.1 x.2.2.2 = lexF s 0 1 1 []) (fun x => s.length - x.1) (0, 1, 1, []) [0, 1, 2]
      ⟨Nat.zero_le _, Nat.le_refl _, Nat.le_refl _, Nat.le_refl _, rfl⟩ ?_ ?_
    · refine ⟨by simp, by simp (maxSteps := 1000000) only [↓yld_succ, ↓yld_zero, EV, EO, ED, ↓EW, ↓EI, EB, EP, EL, tyq_0, tz_0, tyq_3, inq_3, tz_3, tyq_4, bool_4, tz_4, tyq_5, inq_5, tz_5, tyq_9, str_9, tz_9, tyq_30, slq_30, tz_30, tyq_32, fq_32_0, fq_32_1, bq_32, feq_32, tz_32, tyq_33, inq_33, tz_33, tyq_37, fq_37_0, fq_37_1, fq_37_2, fq_37_3, bq_37, feq_37, tz_37, tyq_45, ptq_45, tz_45, tyq_47, fq_47_0, fq_47_1, fq_47_2, fq_47_3, bq_47, feq_47, tz_47, tyq_52, tz_52, tyq_58, tz_58, Nat.reduceAdd, Nat.reduceSub, Nat.reduceMul, Nat.reduceLT, Nat.reduceLeDiff, Nat.reduceEqDiff, Int.reduceToNat, Int.reduceLE, Int.reduceLT, Int.reduceEq, Int.reduceNeg, reduceCtorEq, reduceIte, decide_true, decide_false, List.forall_mem_cons, List.not_mem_nil, false_implies, implies_true, Bool.and_true, Bool.true_and, and_self, Nat.sub_zero, Nat.zero_add, Nat.add_zero, ER, and_self, rd], by simp (maxSteps := 1000000) only [↓yld_succ, ↓yld_zero, EV, EO, ED, ↓EW, ↓EI, EB, EP, EL, tyq_0, tz_0, tyq_3, inq_3, tz_3, tyq_4, bool_4, tz_4, tyq_5, inq_5, tz_5, tyq_9, str_9, tz_9, tyq_30, slq_30, tz_30, tyq_32, fq_32_0, fq_32_1, bq_32, feq_32, tz_32, tyq_33, inq_33, tz_33, tyq_37, fq_37_0, fq_37_1, fq_37_2, fq_37_3, bq_37, feq_37, tz_37, tyq_45, ptq_45, tz_45, tyq_47, fq_47_0, fq_47_1, fq_47_2, fq_47_3, bq_47, feq_47, tz_47, tyq_52, tz_52, tyq_58, tz_58, Nat.reduceAdd, Nat.reduceSub, Nat.reduceMul, Nat.reduceLT, Nat.reduceLeDiff, Nat.reduceEqDiff, Int.reduceToNat, Int.reduceLE, Int.reduceLT, Int.reduceEq, Int.reduceNeg, reduceCtorEq, reduceIte, decide_true, decide_false, List.forall_mem_cons, List.not_mem_nil, false_implies, implies_true, Bool.and_true, Bool.true_and, and_self, Nat.sub_zero, Nat.zero_add, Nat.add_zero, ER, rd], by simp (maxSteps := 1000000) only [↓yld_succ, ↓yld_zero, EV, EO, ED, ↓EW, ↓EI, EB, EP, EL, tyq_0, tz_0, tyq_3, inq_3, tz_3, tyq_4, bool_4, tz_4, tyq_5, inq_5, tz_5, tyq_9, str_9, tz_9, tyq_30, slq_30, tz_30, tyq_32, fq_32_0, fq_32_1, bq_32, feq_32, tz_32, tyq_33, inq_33, tz_33, tyq_37, fq_37_0, fq_37_1, fq_37_2, fq_37_3, bq_37, feq_37, tz_37, tyq_45, ptq_45, tz_45, tyq_47, fq_47_0, fq_47_1, fq_47_2, fq_47_3, bq_47, feq_47, tz_47, tyq_52, tz_52, tyq_58, tz_58, Nat.reduceAdd, Nat.reduceSub, Nat.reduceMul, Nat.reduceLT, Nat.reduceLeDiff, Nat.reduceEqDiff, Int.reduceToNat, Int.reduceLE, Int.reduceLT, Int.reduceEq, Int.reduceNeg, reduceCtorEq, reduceIte, decide_true, decide_false, List.forall_mem_cons, List.not_mem_nil, false_implies, implies_true, Bool.and_true, Bool.true_and, and_self, Nat.sub_zero, Nat.zero_add, Nat.add_zero, ER, pick, rd], rfl⟩
    · rintro ⟨a, l, c, acc⟩ ⟨h1, h2, h3, h4, h5⟩
      dsimp only at h1 h2 h3 h4 h5 ⊢
      refine WC.sK fun K3 hK3 => ?_
      refine WC.rs fun K hK => ?_
      simp (maxSteps := 1000000) only [↓yld_succ, ↓yld_zero, EV, EO, ED, ↓EW, ↓EI, EB, EP, EL, tyq_0, tz_0, tyq_3, inq_3, tz_3, tyq_4, bool_4, tz_4, tyq_5, inq_5, tz_5, tyq_9, str_9, tz_9, tyq_30, slq_30, tz_30, tyq_32, fq_32_0, fq_32_1, bq_32, feq_32, tz_32, tyq_33, inq_33, tz_33, tyq_37, fq_37_0, fq_37_1, fq_37_2, fq_37_3, bq_37, feq_37, tz_37, tyq_45, ptq_45, tz_45, tyq_47, fq_47_0, fq_47_1, fq_47_2, fq_47_3, bq_47, feq_47, tz_47, tyq_52, tz_52, tyq_58, tz_58, Nat.reduceAdd, Nat.reduceSub, Nat.reduceMul, Nat.reduceLT, Nat.reduceLeDiff, Nat.reduceEqDiff, Int.reduceToNat, Int.reduceLE, Int.reduceLT, Int.reduceEq, Int.reduceNeg, reduceCtorEq, reduceIte, decide_true, decide_false, List.forall_mem_cons, List.not_mem_nil, false_implies, implies_true, Bool.and_true, Bool.true_and, and_self, Nat.sub_zero, Nat.zero_add, Nat.add_zero, rd]
      refine hK _ ?_; try clear hK K
      refine WC.trim [0, 2, 3, 4, 5, 6, 7, 8, 9, 15, 24, 25, 35, 55] ?_
      simp only [ET, Nat.reduceEqDiff, reduceIte]
      refine WC.cond (c := .tmp 24) rfl (fun h => ?_) (fun h => ?_)
      · have hlt : a < s.length := by simpa using h
        refine WC.skip ?_
        try simp only [EQ, reduceIte, Nat.reduceEqDiff]
        refine hK3 _ ?_; try clear hK3 K3
        refine WC.b1 ?_
        refine WC.bs fun K4 hK4 => ?_
        refine WC.rs fun K hK => ?_
        simp (maxSteps := 1000000) only [↓yld_succ, ↓yld_zero, EV, EO, ED, ↓EW, ↓EI, EB, EP, EL, tyq_0, tz_0, tyq_3, inq_3, tz_3, tyq_4, bool_4, tz_4, tyq_5, inq_5, tz_5, tyq_9, str_9, tz_9, tyq_30, slq_30, tz_30, tyq_32, fq_32_0, fq_32_1, bq_32, feq_32, tz_32, tyq_33, inq_33, tz_33, tyq_37, fq_37_0, fq_37_1, fq_37_2, fq_37_3, bq_37, feq_37, tz_37, tyq_45, ptq_45, tz_45, tyq_47, fq_47_0, fq_47_1, fq_47_2, fq_47_3, bq_47, feq_47, tz_47, tyq_52, tz_52, tyq_58, tz_58, Nat.reduceAdd, Nat.reduceSub, Nat.reduceMul, Nat.reduceLT, Nat.reduceLeDiff, Nat.reduceEqDiff, Int.reduceToNat, Int.reduceLE, Int.reduceLT, Int.reduceEq, Int.reduceNeg, reduceCtorEq, reduceIte, decide_true, decide_false, List.forall_mem_cons, List.not_mem_nil, false_implies, implies_true, Bool.and_true, Bool.true_and, and_self, Nat.sub_zero, Nat.zero_add, Nat.add_zero, rd]
        repeat refine ⟨by omega, ?_⟩
        refine CallX.mk (CallW.pure (blank_sem _) (by simp only [CL, and_self]) (by simp only [CL]) ?_)
        simp (maxSteps := 1000000) only [↓yld_succ, ↓yld_zero, EV, EO, ED, ↓EW, ↓EI, EB, EP, EL, tyq_0, tz_0, tyq_3, inq_3, tz_3, tyq_4, bool_4, tz_4, tyq_5, inq_5, tz_5, tyq_9, str_9, tz_9, tyq_30, slq_30, tz_30, tyq_32, fq_32_0, fq_32_1, bq_32, feq_32, tz_32, tyq_33, inq_33, tz_33, tyq_37, fq_37_0, fq_37_1, fq_37_2, fq_37_3, bq_37, feq_37, tz_37, tyq_45, ptq_45, tz_45, tyq_47, fq_47_0, fq_47_1, fq_47_2, fq_47_3, bq_47, feq_47, tz_47, tyq_52, tz_52, tyq_58, tz_58, Nat.reduceAdd, Nat.reduceSub, Nat.reduceMul, Nat.reduceLT, Nat.reduceLeDiff, Nat.reduceEqDiff, Int.reduceToNat, Int.reduceLE, Int.reduceLT, Int.reduceEq, Int.reduceNeg, reduceCtorEq, reduceIte, decide_true, decide_false, List.forall_mem_cons, List.not_mem_nil, false_implies, implies_true, Bool.and_true, Bool.true_and, and_self, Nat.sub_zero, Nat.zero_add, Nat.add_zero]
        refine hK _ ?_; try clear hK K
        refine WC.trim [0, 2, 3, 4, 5, 6, 7, 8, 9, 15, 24, 25, 35, 55] ?_
        simp only [ET, Nat.reduceEqDiff, reduceIte]
        refine WC.cond (c := .tmp 25) rfl (fun h => ?_) (fun h => ?_)
        · have hb : blankI (gb s a) = true := h
          have hadv := adv_line s 1 a l c h2 h3
          refine WC.rs fun K hK => ?_
          simp (maxSteps := 1000000) only [↓yld_succ, ↓yld_zero, EV, EO, ED, ↓EW, ↓EI, EB, EP, EL, tyq_0, tz_0, tyq_3, inq_3, tz_3, tyq_4, bool_4, tz_4, tyq_5, inq_5, tz_5, tyq_9, str_9, tz_9, tyq_30, slq_30, tz_30, tyq_32, fq_32_0, fq_32_1, bq_32, feq_32, tz_32, tyq_33, inq_33, tz_33, tyq_37, fq_37_0, fq_37_1, fq_37_2, fq_37_3, bq_37, feq_37, tz_37, tyq_45, ptq_45, tz_45, tyq_47, fq_47_0, fq_47_1, fq_47_2, fq_47_3, bq_47, feq_47, tz_47, tyq_52, tz_52, tyq_58, tz_58, Nat.reduceAdd, Nat.reduceSub, Nat.reduceMul, Nat.reduceLT, Nat.reduceLeDiff, Nat.reduceEqDiff, Int.reduceToNat, Int.reduceLE, Int.reduceLT, Int.reduceEq, Int.reduceNeg, reduceCtorEq, reduceIte, decide_true, decide_false, List.forall_mem_cons, List.not_mem_nil, false_implies, implies_true, Bool.and_true, Bool.true_and, and_self, Nat.sub_zero, Nat.zero_add, Nat.add_zero]
          refine CallX.mk (CallW.one (r := .l 1) (step_sem s hs 1 a l c (by omega) h2 h3) rfl (rd_closed _ _ _ _) (rd_closed _ _ _ _) (by simp only [CL]) (by simp [renL, ren, fCall]) ?_)
          simp (maxSteps := 1000000) only [↓yld_succ, ↓yld_zero, EV, EO, ED, ↓EW, ↓EI, EB, EP, EL, tyq_0, tz_0, tyq_3, inq_3, tz_3, tyq_4, bool_4, tz_4, tyq_5, inq_5, tz_5, tyq_9, str_9, tz_9, tyq_30, slq_30, tz_30, tyq_32, fq_32_0, fq_32_1, bq_32, feq_32, tz_32, tyq_33, inq_33, tz_33, tyq_37, fq_37_0, fq_37_1, fq_37_2, fq_37_3, bq_37, feq_37, tz_37, tyq_45, ptq_45, tz_45, tyq_47, fq_47_0, fq_47_1, fq_47_2, fq_47_3, bq_47, feq_47, tz_47, tyq_52, tz_52, tyq_58, tz_58, Nat.reduceAdd, Nat.reduceSub, Nat.reduceMul, Nat.reduceLT, Nat.reduceLeDiff, Nat.reduceEqDiff, Int.reduceToNat, Int.reduceLE, Int.reduceLT, Int.reduceEq, Int.reduceNeg, reduceCtorEq, reduceIte, decide_true, decide_false, List.forall_mem_cons, List.not_mem_nil, false_implies, implies_true, Bool.and_true, Bool.true_and, and_self, Nat.sub_zero, Nat.zero_add, Nat.add_zero]
          refine hK _ ?_; try clear hK K
          refine WC.trim [0, 2, 3, 4, 5, 6, 7, 8, 9, 15, 24, 25, 35, 55] ?_
          simp only [ET, Nat.reduceEqDiff, reduceIte]
          refine WC.exit ?_
          simp only [EQ, reduceIte, Nat.reduceEqDiff]
          try simp only [EQ, reduceIte, Nat.reduceEqDiff]
          refine ⟨((adv s 1 (a, l, c)).1, (adv s 1 (a, l, c)).2.1, (adv s 1 (a, l, c)).2.2, acc), [0, 1, 2], ⟨?_, ?_, ?_, ?_, ?_⟩, ?_, ?_⟩
          · dsimp only; rw [adv_at]; omega
          · dsimp only; rw [adv_at]; omega
          · dsimp only; rw [adv_at]; omega
          · dsimp only; rw [adv_at]; omega
          · dsimp only
            rw [← h5, adv_at]
            conv => rhs; unfold lexF
            rw [dif_pos hlt, if_pos hb]
          · dsimp only; rw [adv_at]; omega
          · refine ⟨by simp, by simp (maxSteps := 1000000) only [↓yld_succ, ↓yld_zero, EV, EO, ED, ↓EW, ↓EI, EB, EP, EL, tyq_0, tz_0, tyq_3, inq_3, tz_3, tyq_4, bool_4, tz_4, tyq_5, inq_5, tz_5, tyq_9, str_9, tz_9, tyq_30, slq_30, tz_30, tyq_32, fq_32_0, fq_32_1, bq_32, feq_32, tz_32, tyq_33, inq_33, tz_33, tyq_37, fq_37_0, fq_37_1, fq_37_2, fq_37_3, bq_37, feq_37, tz_37, tyq_45, ptq_45, tz_45, tyq_47, fq_47_0, fq_47_1, fq_47_2, fq_47_3, bq_47, feq_47, tz_47, tyq_52, tz_52, tyq_58, tz_58, Nat.reduceAdd, Nat.reduceSub, Nat.reduceMul, Nat.reduceLT, Nat.reduceLeDiff, Nat.reduceEqDiff, Int.reduceToNat, Int.reduceLE, Int.reduceLT, Int.reduceEq, Int.reduceNeg, reduceCtorEq, reduceIte, decide_true, decide_false, List.forall_mem_cons, List.not_mem_nil, false_implies, implies_true, Bool.and_true, Bool.true_and, and_self, Nat.sub_zero, Nat.zero_add, Nat.add_zero, ER, and_self, rd, tkv_closed acc _], by simp (maxSteps := 1000000) only [↓yld_succ, ↓yld_zero, EV, EO, ED, ↓EW, ↓EI, EB, EP, EL, tyq_0, tz_0, tyq_3, inq_3, tz_3, tyq_4, bool_4, tz_4, tyq_5, inq_5, tz_5, tyq_9, str_9, tz_9, tyq_30, slq_30, tz_30, tyq_32, fq_32_0, fq_32_1, bq_32, feq_32, tz_32, tyq_33, inq_33, tz_33, tyq_37, fq_37_0, fq_37_1, fq_37_2, fq_37_3, bq_37, feq_37, tz_37, tyq_45, ptq_45, tz_45, tyq_47, fq_47_0, fq_47_1, fq_47_2, fq_47_3, bq_47, feq_47, tz_47, tyq_52, tz_52, tyq_58, tz_58, Nat.reduceAdd, Nat.reduceSub, Nat.reduceMul, Nat.reduceLT, Nat.reduceLeDiff, Nat.reduceEqDiff, Int.reduceToNat, Int.reduceLE, Int.reduceLT, Int.reduceEq, Int.reduceNeg, reduceCtorEq, reduceIte, decide_true, decide_false, List.forall_mem_cons, List.not_mem_nil, false_implies, implies_true, Bool.and_true, Bool.true_and, and_self, Nat.sub_zero, Nat.zero_add, Nat.add_zero, ER, rd, tkv_closed acc _], by simp (maxSteps := 1000000) only [↓yld_succ, ↓yld_zero, EV, EO, ED, ↓EW, ↓EI, EB, EP, EL, tyq_0, tz_0, tyq_3, inq_3, tz_3, tyq_4, bool_4, tz_4, tyq_5, inq_5, tz_5, tyq_9, str_9, tz_9, tyq_30, slq_30, tz_30, tyq_32, fq_32_0, fq_32_1, bq_32, feq_32, tz_32, tyq_33, inq_33, tz_33, tyq_37, fq_37_0, fq_37_1, fq_37_2, fq_37_3, bq_37, feq_37, tz_37, tyq_45, ptq_45, tz_45, tyq_47, fq_47_0, fq_47_1, fq_47_2, fq_47_3, bq_47, feq_47, tz_47, tyq_52, tz_52, tyq_58, tz_58, Nat.reduceAdd, Nat.reduceSub, Nat.reduceMul, Nat.reduceLT, Nat.reduceLeDiff, Nat.reduceEqDiff, Int.reduceToNat, Int.reduceLE, Int.reduceLT, Int.reduceEq, Int.reduceNeg, reduceCtorEq, reduceIte, decide_true, decide_false, List.forall_mem_cons, List.not_mem_nil, false_implies, implies_true, Bool.and_true, Bool.true_and, and_self, Nat.sub_zero, Nat.zero_add, Nat.add_zero, ER, pick, rd, tkv_closed acc _], rfl⟩
        · have hb : ¬ blankI (gb s a) = true := by simp [h]
          refine WC.rs fun K hK => ?_
          simp (maxSteps := 1000000) only [↓yld_succ, ↓yld_zero, EV, EO, ED, ↓EW, ↓EI, EB, EP, EL, tyq_0, tz_0, tyq_3, inq_3, tz_3, tyq_4, bool_4, tz_4, tyq_5, inq_5, tz_5, tyq_9, str_9, tz_9, tyq_30, slq_30, tz_30, tyq_32, fq_32_0, fq_32_1, bq_32, feq_32, tz_32, tyq_33, inq_33, tz_33, tyq_37, fq_37_0, fq_37_1, fq_37_2, fq_37_3, bq_37, feq_37, tz_37, tyq_45, ptq_45, tz_45, tyq_47, fq_47_0, fq_47_1, fq_47_2, fq_47_3, bq_47, feq_47, tz_47, tyq_52, tz_52, tyq_58, tz_58, Nat.reduceAdd, Nat.reduceSub, Nat.reduceMul, Nat.reduceLT, Nat.reduceLeDiff, Nat.reduceEqDiff, Int.reduceToNat, Int.reduceLE, Int.reduceLT, Int.reduceEq, Int.reduceNeg, reduceCtorEq, reduceIte, decide_true, decide_false, List.forall_mem_cons, List.not_mem_nil, false_implies, implies_true, Bool.and_true, Bool.true_and, and_self, Nat.sub_zero, Nat.zero_add, Nat.add_zero, rd]
          repeat refine ⟨by omega, ?_⟩
          refine hK _ ?_; try clear hK K
          refine WC.trim [0, 2, 3, 4, 5, 6, 7, 8, 9, 15, 24, 25, 35, 55] ?_
          simp only [ET, Nat.reduceEqDiff, reduceIte]
          refine WC.cond (c := .tmp 35) rfl (fun h => ?_) (fun h => ?_)
          · have h35 : gb s a = 35 := by simpa using h
            have hra := runAt_length (p := notNl) (s := s) (a := a) h1
            have hrp := runTo_pos (p := notNl) hlt (by simp [notNl, h35])
            have hrl := runTo_le notNl s (s.length - a) a h1
            refine WC.rs fun K hK => ?_
            simp (maxSteps := 1000000) only [↓yld_succ, ↓yld_zero, EV, EO, ED, ↓EW, ↓EI, EB, EP, EL, tyq_0, tz_0, tyq_3, inq_3, tz_3, tyq_4, bool_4, tz_4, tyq_5, inq_5, tz_5, tyq_9, str_9, tz_9, tyq_30, slq_30, tz_30, tyq_32, fq_32_0, fq_32_1, bq_32, feq_32, tz_32, tyq_33, inq_33, tz_33, tyq_37, fq_37_0, fq_37_1, fq_37_2, fq_37_3, bq_37, feq_37, tz_37, tyq_45, ptq_45, tz_45, tyq_47, fq_47_0, fq_47_1, fq_47_2, fq_47_3, bq_47, feq_47, tz_47, tyq_52, tz_52, tyq_58, tz_58, Nat.reduceAdd, Nat.reduceSub, Nat.reduceMul, Nat.reduceLT, Nat.reduceLeDiff, Nat.reduceEqDiff, Int.reduceToNat, Int.reduceLE, Int.reduceLT, Int.reduceEq, Int.reduceNeg, reduceCtorEq, reduceIte, decide_true, decide_false, List.forall_mem_cons, List.not_mem_nil, false_implies, implies_true, Bool.and_true, Bool.true_and, and_self, Nat.sub_zero, Nat.zero_add, Nat.add_zero]
            refine CallX.mk (CallW.one (r := .l 1) (run_sem s hs a l c h1 21 [] (by simp only [CL]) notNl (fun x => comment_sem x)) rfl (rd_closed _ _ _ _) (rd_closed _ _ _ _) (by simp only [CL]) (by simp [renL, ren, fCall]) ?_)
            rw [show (s.drop a).take (runTo notNl s (s.length - a) a - a) = runAt notNl s a from rfl]
            have hadv := adv_line s (runAt notNl s a).length a l c h2 h3
            simp (maxSteps := 1000000) only [↓yld_succ, ↓yld_zero, EV, EO, ED, ↓EW, ↓EI, EB, EP, EL, tyq_0, tz_0, tyq_3, inq_3, tz_3, tyq_4, bool_4, tz_4, tyq_5, inq_5, tz_5, tyq_9, str_9, tz_9, tyq_30, slq_30, tz_30, tyq_32, fq_32_0, fq_32_1, bq_32, feq_32, tz_32, tyq_33, inq_33, tz_33, tyq_37, fq_37_0, fq_37_1, fq_37_2, fq_37_3, bq_37, feq_37, tz_37, tyq_45, ptq_45, tz_45, tyq_47, fq_47_0, fq_47_1, fq_47_2, fq_47_3, bq_47, feq_47, tz_47, tyq_52, tz_52, tyq_58, tz_58, Nat.reduceAdd, Nat.reduceSub, Nat.reduceMul, Nat.reduceLT, Nat.reduceLeDiff, Nat.reduceEqDiff, Int.reduceToNat, Int.reduceLE, Int.reduceLT, Int.reduceEq, Int.reduceNeg, reduceCtorEq, reduceIte, decide_true, decide_false, List.forall_mem_cons, List.not_mem_nil, false_implies, implies_true, Bool.and_true, Bool.true_and, and_self, Nat.sub_zero, Nat.zero_add, Nat.add_zero]
            refine CallX.mk (CallW.one (r := .l 1) (step_sem s hs (runAt notNl s a).length a l c (by omega) h2 h3) rfl (rd_closed _ _ _ _) (rd_closed _ _ _ _) (by simp only [CL]) (by simp [renL, ren, fCall]) ?_)
            simp (maxSteps := 1000000) only [↓yld_succ, ↓yld_zero, EV, EO, ED, ↓EW, ↓EI, EB, EP, EL, tyq_0, tz_0, tyq_3, inq_3, tz_3, tyq_4, bool_4, tz_4, tyq_5, inq_5, tz_5, tyq_9, str_9, tz_9, tyq_30, slq_30, tz_30, tyq_32, fq_32_0, fq_32_1, bq_32, feq_32, tz_32, tyq_33, inq_33, tz_33, tyq_37, fq_37_0, fq_37_1, fq_37_2, fq_37_3, bq_37, feq_37, tz_37, tyq_45, ptq_45, tz_45, tyq_47, fq_47_0, fq_47_1, fq_47_2, fq_47_3, bq_47, feq_47, tz_47, tyq_52, tz_52, tyq_58, tz_58, Nat.reduceAdd, Nat.reduceSub, Nat.reduceMul, Nat.reduceLT, Nat.reduceLeDiff, Nat.reduceEqDiff, Int.reduceToNat, Int.reduceLE, Int.reduceLT, Int.reduceEq, Int.reduceNeg, reduceCtorEq, reduceIte, decide_true, decide_false, List.forall_mem_cons, List.not_mem_nil, false_implies, implies_true, Bool.and_true, Bool.true_and, and_self, Nat.sub_zero, Nat.zero_add, Nat.add_zero]
            refine hK _ ?_; try clear hK K
            refine WC.trim [0, 2, 3, 4, 5, 6, 7, 8, 9, 15, 24, 25, 35, 55] ?_
            simp only [ET, Nat.reduceEqDiff, reduceIte]
            refine WC.exit ?_
            simp only [EQ, reduceIte, Nat.reduceEqDiff]
            try simp only [EQ, reduceIte, Nat.reduceEqDiff]
            refine ⟨((adv s (runAt notNl s a).length (a, l, c)).1, (adv s (runAt notNl s a).length (a, l, c)).2.1, (adv s (runAt notNl s a).length (a, l, c)).2.2, acc), [0, 1, 2], ⟨?_, ?_, ?_, ?_, ?_⟩, ?_, ?_⟩
            · dsimp only; rw [adv_at]; omega
            · dsimp only; rw [adv_at]; omega
            · dsimp only; rw [adv_at]; omega
            · dsimp only; rw [adv_at]; omega
            · dsimp only
              rw [← h5]
              conv => rhs; unfold lexF
              rw [dif_pos hlt, if_neg hb, if_pos h35, Nat.max_eq_right (by rw [adv_at]; omega)]
            · dsimp only; rw [adv_at]; omega
            · refine ⟨by simp, by simp (maxSteps := 1000000) only [↓yld_succ, ↓yld_zero, EV, EO, ED, ↓EW, ↓EI, EB, EP, EL, tyq_0, tz_0, tyq_3, inq_3, tz_3, tyq_4, bool_4, tz_4, tyq_5, inq_5, tz_5, tyq_9, str_9, tz_9, tyq_30, slq_30, tz_30, tyq_32, fq_32_0, fq_32_1, bq_32, feq_32, tz_32, tyq_33, inq_33, tz_33, tyq_37, fq_37_0, fq_37_1, fq_37_2, fq_37_3, bq_37, feq_37, tz_37, tyq_45, ptq_45, tz_45, tyq_47, fq_47_0, fq_47_1, fq_47_2, fq_47_3, bq_47, feq_47, tz_47, tyq_52, tz_52, tyq_58, tz_58, Nat.reduceAdd, Nat.reduceSub, Nat.reduceMul, Nat.reduceLT, Nat.reduceLeDiff, Nat.reduceEqDiff, Int.reduceToNat, Int.reduceLE, Int.reduceLT, Int.reduceEq, Int.reduceNeg, reduceCtorEq, reduceIte, decide_true, decide_false, List.forall_mem_cons, List.not_mem_nil, false_implies, implies_true, Bool.and_true, Bool.true_and, and_self, Nat.sub_zero, Nat.zero_add, Nat.add_zero, ER, and_self, rd, tkv_closed acc _], by simp (maxSteps := 1000000) only [↓yld_succ, ↓yld_zero, EV, EO, ED, ↓EW, ↓EI, EB, EP, EL, tyq_0, tz_0, tyq_3, inq_3, tz_3, tyq_4, bool_4, tz_4, tyq_5, inq_5, tz_5, tyq_9, str_9, tz_9, tyq_30, slq_30, tz_30, tyq_32, fq_32_0, fq_32_1, bq_32, feq_32, tz_32, tyq_33, inq_33, tz_33, tyq_37, fq_37_0, fq_37_1, fq_37_2, fq_37_3, bq_37, feq_37, tz_37, tyq_45, ptq_45, tz_45, tyq_47, fq_47_0, fq_47_1, fq_47_2, fq_47_3, bq_47, feq_47, tz_47, tyq_52, tz_52, tyq_58, tz_58, Nat.reduceAdd, Nat.reduceSub, Nat.reduceMul, Nat.reduceLT, Nat.reduceLeDiff, Nat.reduceEqDiff, Int.reduceToNat, Int.reduceLE, Int.reduceLT, Int.reduceEq, Int.reduceNeg, reduceCtorEq, reduceIte, decide_true, decide_false, List.forall_mem_cons, List.not_mem_nil, false_implies, implies_true, Bool.and_true, Bool.true_and, and_self, Nat.sub_zero, Nat.zero_add, Nat.add_zero, ER, rd, tkv_closed acc _], by simp (maxSteps := 1000000) only [↓yld_succ, ↓yld_zero, EV, EO, ED, ↓EW, ↓EI, EB, EP, EL, tyq_0, tz_0, tyq_3, inq_3, tz_3, tyq_4, bool_4, tz_4, tyq_5, inq_5, tz_5, tyq_9, str_9, tz_9, tyq_30, slq_30, tz_30, tyq_32, fq_32_0, fq_32_1, bq_32, feq_32, tz_32, tyq_33, inq_33, tz_33, tyq_37, fq_37_0, fq_37_1, fq_37_2, fq_37_3, bq_37, feq_37, tz_37, tyq_45, ptq_45, tz_45, tyq_47, fq_47_0, fq_47_1, fq_47_2, fq_47_3, bq_47, feq_47, tz_47, tyq_52, tz_52, tyq_58, tz_58, Nat.reduceAdd, Nat.reduceSub, Nat.reduceMul, Nat.reduceLT, Nat.reduceLeDiff, Nat.reduceEqDiff, Int.reduceToNat, Int.reduceLE, Int.reduceLT, Int.reduceEq, Int.reduceNeg, reduceCtorEq, reduceIte, decide_true, decide_false, List.forall_mem_cons, List.not_mem_nil, false_implies, implies_true, Bool.and_true, Bool.true_and, and_self, Nat.sub_zero, Nat.zero_add, Nat.add_zero, ER, pick, rd, tkv_closed acc _], rfl⟩
          · have h35 : ¬ gb s a = 35 := by simpa using h
            refine WC.skip ?_
            try simp only [EQ, reduceIte, Nat.reduceEqDiff]
            refine hK4 _ ?_; try clear hK4 K4
            refine WC.rs fun K hK => ?_
            simp (maxSteps := 1000000) only [↓yld_succ, ↓yld_zero, EV, EO, ED, ↓EW, ↓EI, EB, EP, EL, tyq_0, tz_0, tyq_3, inq_3, tz_3, tyq_4, bool_4, tz_4, tyq_5, inq_5, tz_5, tyq_9, str_9, tz_9, tyq_30, slq_30, tz_30, tyq_32, fq_32_0, fq_32_1, bq_32, feq_32, tz_32, tyq_33, inq_33, tz_33, tyq_37, fq_37_0, fq_37_1, fq_37_2, fq_37_3, bq_37, feq_37, tz_37, tyq_45, ptq_45, tz_45, tyq_47, fq_47_0, fq_47_1, fq_47_2, fq_47_3, bq_47, feq_47, tz_47, tyq_52, tz_52, tyq_58, tz_58, Nat.reduceAdd, Nat.reduceSub, Nat.reduceMul, Nat.reduceLT, Nat.reduceLeDiff, Nat.reduceEqDiff, Int.reduceToNat, Int.reduceLE, Int.reduceLT, Int.reduceEq, Int.reduceNeg, reduceCtorEq, reduceIte, decide_true, decide_false, List.forall_mem_cons, List.not_mem_nil, false_implies, implies_true, Bool.and_true, Bool.true_and, and_self, Nat.sub_zero, Nat.zero_add, Nat.add_zero]
            refine CallX.mk (CallW.one (r := .l 1) (token_sem hkw hsg s hs a l c hlt) rfl (rd_closed _ _ _ _) (rd_closed _ _ _ _) (by simp only [CL, and_self]) (by simp [renL, ren, fCall]) ?_)
            simp (maxSteps := 1000000) only [↓yld_succ, ↓yld_zero, EV, EO, ED, ↓EW, ↓EI, EB, EP, EL, tyq_0, tz_0, tyq_3, inq_3, tz_3, tyq_4, bool_4, tz_4, tyq_5, inq_5, tz_5, tyq_9, str_9, tz_9, tyq_30, slq_30, tz_30, tyq_32, fq_32_0, fq_32_1, bq_32, feq_32, tz_32, tyq_33, inq_33, tz_33, tyq_37, fq_37_0, fq_37_1, fq_37_2, fq_37_3, bq_37, feq_37, tz_37, tyq_45, ptq_45, tz_45, tyq_47, fq_47_0, fq_47_1, fq_47_2, fq_47_3, bq_47, feq_47, tz_47, tyq_52, tz_52, tyq_58, tz_58, Nat.reduceAdd, Nat.reduceSub, Nat.reduceMul, Nat.reduceLT, Nat.reduceLeDiff, Nat.reduceEqDiff, Int.reduceToNat, Int.reduceLE, Int.reduceLT, Int.reduceEq, Int.reduceNeg, reduceCtorEq, reduceIte, decide_true, decide_false, List.forall_mem_cons, List.not_mem_nil, false_implies, implies_true, Bool.and_true, Bool.true_and, and_self, Nat.sub_zero, Nat.zero_add, Nat.add_zero, rd]
            refine hK _ ?_; try clear hK K
            refine WC.trim [0, 2, 3, 4, 5, 6, 7, 8, 9, 15, 24, 25, 35, 55] ?_
            simp only [ET, Nat.reduceEqDiff, reduceIte]
            refine WC.sK fun K5 hK5 => ?_
            refine WC.rs fun K hK => ?_
            simp (maxSteps := 1000000) only [↓yld_succ, ↓yld_zero, EV, EO, ED, ↓EW, ↓EI, EB, EP, EL, tyq_0, tz_0, tyq_3, inq_3, tz_3, tyq_4, bool_4, tz_4, tyq_5, inq_5, tz_5, tyq_9, str_9, tz_9, tyq_30, slq_30, tz_30, tyq_32, fq_32_0, fq_32_1, bq_32, feq_32, tz_32, tyq_33, inq_33, tz_33, tyq_37, fq_37_0, fq_37_1, fq_37_2, fq_37_3, bq_37, feq_37, tz_37, tyq_45, ptq_45, tz_45, tyq_47, fq_47_0, fq_47_1, fq_47_2, fq_47_3, bq_47, feq_47, tz_47, tyq_52, tz_52, tyq_58, tz_58, Nat.reduceAdd, Nat.reduceSub, Nat.reduceMul, Nat.reduceLT, Nat.reduceLeDiff, Nat.reduceEqDiff, Int.reduceToNat, Int.reduceLE, Int.reduceLT, Int.reduceEq, Int.reduceNeg, reduceCtorEq, reduceIte, decide_true, decide_false, List.forall_mem_cons, List.not_mem_nil, false_implies, implies_true, Bool.and_true, Bool.true_and, and_self, Nat.sub_zero, Nat.zero_add, Nat.add_zero]
            refine hK _ ?_; try clear hK K
            refine WC.trim [0, 2, 3, 4, 5, 6, 7, 8, 9, 15, 24, 25, 35, 55] ?_
            simp only [ET, Nat.reduceEqDiff, reduceIte]
            refine WC.cond (c := .tmp 55) rfl (fun h => ?_) (fun h => ?_)
            · have he : ¬ (tokenF s a).2.2 = 0 := by simp at h; omega
              refine WC.rs fun K hK => ?_
              simp (maxSteps := 1000000) only [↓yld_succ, ↓yld_zero, EV, EO, ED, ↓EW, ↓EI, EB, EP, EL, tyq_0, tz_0, tyq_3, inq_3, tz_3, tyq_4, bool_4, tz_4, tyq_5, inq_5, tz_5, tyq_9, str_9, tz_9, tyq_30, slq_30, tz_30, tyq_32, fq_32_0, fq_32_1, bq_32, feq_32, tz_32, tyq_33, inq_33, tz_33, tyq_37, fq_37_0, fq_37_1, fq_37_2, fq_37_3, bq_37, feq_37, tz_37, tyq_45, ptq_45, tz_45, tyq_47, fq_47_0, fq_47_1, fq_47_2, fq_47_3, bq_47, feq_47, tz_47, tyq_52, tz_52, tyq_58, tz_58, Nat.reduceAdd, Nat.reduceSub, Nat.reduceMul, Nat.reduceLT, Nat.reduceLeDiff, Nat.reduceEqDiff, Int.reduceToNat, Int.reduceLE, Int.reduceLT, Int.reduceEq, Int.reduceNeg, reduceCtorEq, reduceIte, decide_true, decide_false, List.forall_mem_cons, List.not_mem_nil, false_implies, implies_true, Bool.and_true, Bool.true_and, and_self, Nat.sub_zero, Nat.zero_add, Nat.add_zero]
              refine CallX.mk (CallW.one (r := .l 1) (pos_sem s a l c) rfl (rd_closed _ _ _ _) (rd_closed _ _ _ _) (by simp only [CL, and_self]) (by simp [renL, ren, fCall]) ?_)
              simp (maxSteps := 1000000) only [↓yld_succ, ↓yld_zero, EV, EO, ED, ↓EW, ↓EI, EB, EP, EL, tyq_0, tz_0, tyq_3, inq_3, tz_3, tyq_4, bool_4, tz_4, tyq_5, inq_5, tz_5, tyq_9, str_9, tz_9, tyq_30, slq_30, tz_30, tyq_32, fq_32_0, fq_32_1, bq_32, feq_32, tz_32, tyq_33, inq_33, tz_33, tyq_37, fq_37_0, fq_37_1, fq_37_2, fq_37_3, bq_37, feq_37, tz_37, tyq_45, ptq_45, tz_45, tyq_47, fq_47_0, fq_47_1, fq_47_2, fq_47_3, bq_47, feq_47, tz_47, tyq_52, tz_52, tyq_58, tz_58, Nat.reduceAdd, Nat.reduceSub, Nat.reduceMul, Nat.reduceLT, Nat.reduceLeDiff, Nat.reduceEqDiff, Int.reduceToNat, Int.reduceLE, Int.reduceLT, Int.reduceEq, Int.reduceNeg, reduceCtorEq, reduceIte, decide_true, decide_false, List.forall_mem_cons, List.not_mem_nil, false_implies, implies_true, Bool.and_true, Bool.true_and, and_self, Nat.sub_zero, Nat.zero_add, Nat.add_zero, rd]
              refine hK _ ?_; try clear hK K
              refine WC.trim [0, 2, 3, 4, 5, 6, 7, 8, 9, 15, 24, 25, 35, 55] ?_
              simp only [ET, Nat.reduceEqDiff, reduceIte]
              refine WC.ret ?_
              simp (maxSteps := 1000000) only [↓yld_succ, ↓yld_zero, EV, EO, ED, ↓EW, ↓EI, EB, EP, EL, tyq_0, tz_0, tyq_3, inq_3, tz_3, tyq_4, bool_4, tz_4, tyq_5, inq_5, tz_5, tyq_9, str_9, tz_9, tyq_30, slq_30, tz_30, tyq_32, fq_32_0, fq_32_1, bq_32, feq_32, tz_32, tyq_33, inq_33, tz_33, tyq_37, fq_37_0, fq_37_1, fq_37_2, fq_37_3, bq_37, feq_37, tz_37, tyq_45, ptq_45, tz_45, tyq_47, fq_47_0, fq_47_1, fq_47_2, fq_47_3, bq_47, feq_47, tz_47, tyq_52, tz_52, tyq_58, tz_58, Nat.reduceAdd, Nat.reduceSub, Nat.reduceMul, Nat.reduceLT, Nat.reduceLeDiff, Nat.reduceEqDiff, Int.reduceToNat, Int.reduceLE, Int.reduceLT, Int.reduceEq, Int.reduceNeg, reduceCtorEq, reduceIte, decide_true, decide_false, List.forall_mem_cons, List.not_mem_nil, false_implies, implies_true, Bool.and_true, Bool.true_and, and_self, Nat.sub_zero, Nat.zero_add, Nat.add_zero, EQ, FnQ, Tryd.results14, wResL, tup, List.reverse_cons, List.reverse_nil, true_and]
              refine endsSame (by simp only [CL, and_self]) closedBs_nil ⟨?_, rfl⟩
              rw [tokensF, if_neg h8, ← h5]
              unfold lexF
              rw [dif_pos hlt, if_neg hb, if_neg h35, if_neg he]; rfl
            · have he : (tokenF s a).2.2 = 0 := by simp at h; omega
              have htl := tokenF_len s a hlt he
              have hadv := adv_line s (tokenF s a).2.1.length a l c h2 h3
              refine WC.skip ?_
              try simp only [EQ, reduceIte, Nat.reduceEqDiff]
              refine hK5 _ ?_; try clear hK5 K5
              refine WC.ds [⟨0, 0, false, []⟩, ⟨1, 0, false, []⟩, ⟨2, 0, false, []⟩, ⟨3, 0, false, []⟩, ⟨4, 0, false, []⟩, ⟨5, 0, false, []⟩, ⟨6, 0, false, []⟩, ⟨7, 0, false, []⟩, ⟨8, 0, false, []⟩, ⟨9, 0, false, []⟩, ⟨10, 0, false, []⟩, ⟨11, 0, false, []⟩, ⟨12, 2, false, []⟩, ⟨13, 1, false, []⟩, ⟨14, 0, false, []⟩] [0, 0, 0, 0, 8, 24, 56, 0, 128, 384, 896, 2046, 4094, 8191, 16383] mo (by kernel_rfl) (by simp only [EPl, List.getElem?_cons_zero, List.getElem?_cons_succ]; rfl) fun K hK => ?_
              simp (maxSteps := 1000000) only [↓yld_succ, ↓yld_zero, EV, EO, ED, ↓EW, ↓EI, EB, EP, EL, tyq_0, tz_0, tyq_3, inq_3, tz_3, tyq_4, bool_4, tz_4, tyq_5, inq_5, tz_5, tyq_9, str_9, tz_9, tyq_30, slq_30, tz_30, tyq_32, fq_32_0, fq_32_1, bq_32, feq_32, tz_32, tyq_33, inq_33, tz_33, tyq_37, fq_37_0, fq_37_1, fq_37_2, fq_37_3, bq_37, feq_37, tz_37, tyq_45, ptq_45, tz_45, tyq_47, fq_47_0, fq_47_1, fq_47_2, fq_47_3, bq_47, feq_47, tz_47, tyq_52, tz_52, tyq_58, tz_58, Nat.reduceAdd, Nat.reduceSub, Nat.reduceMul, Nat.reduceLT, Nat.reduceLeDiff, Nat.reduceEqDiff, Int.reduceToNat, Int.reduceLE, Int.reduceLT, Int.reduceEq, Int.reduceNeg, reduceCtorEq, reduceIte, decide_true, decide_false, List.forall_mem_cons, List.not_mem_nil, false_implies, implies_true, Bool.and_true, Bool.true_and, and_self, Nat.sub_zero, Nat.zero_add, Nat.add_zero, rd, List.length_map]
              repeat refine ⟨by omega, ?_⟩
              refine hK _ ?_; try clear hK K
              refine WC.trim [0, 2, 3, 4, 5, 6, 7, 8, 9, 15, 24, 25, 35, 55] ?_
              simp only [ET, Nat.reduceEqDiff, reduceIte]
              refine WC.r1 ?_
              simp (maxSteps := 1000000) only [↓yld_succ, ↓yld_zero, EV, EO, ED, ↓EW, ↓EI, EB, EP, EL, tyq_0, tz_0, tyq_3, inq_3, tz_3, tyq_4, bool_4, tz_4, tyq_5, inq_5, tz_5, tyq_9, str_9, tz_9, tyq_30, slq_30, tz_30, tyq_32, fq_32_0, fq_32_1, bq_32, feq_32, tz_32, tyq_33, inq_33, tz_33, tyq_37, fq_37_0, fq_37_1, fq_37_2, fq_37_3, bq_37, feq_37, tz_37, tyq_45, ptq_45, tz_45, tyq_47, fq_47_0, fq_47_1, fq_47_2, fq_47_3, bq_47, feq_47, tz_47, tyq_52, tz_52, tyq_58, tz_58, Nat.reduceAdd, Nat.reduceSub, Nat.reduceMul, Nat.reduceLT, Nat.reduceLeDiff, Nat.reduceEqDiff, Int.reduceToNat, Int.reduceLE, Int.reduceLT, Int.reduceEq, Int.reduceNeg, reduceCtorEq, reduceIte, decide_true, decide_false, List.forall_mem_cons, List.not_mem_nil, false_implies, implies_true, Bool.and_true, Bool.true_and, and_self, Nat.sub_zero, Nat.zero_add, Nat.add_zero, rd]
              refine CallX.mk (CallW.one (r := .l 1) (step_sem s hs (tokenF s a).2.1.length a l c (by omega) h2 h3) rfl (rd_closed _ _ _ _) (rd_closed _ _ _ _) (by simp only [CL]) (by simp [renL, ren, fCall]) ?_)
              simp (maxSteps := 1000000) only [↓yld_succ, ↓yld_zero, EV, EO, ED, ↓EW, ↓EI, EB, EP, EL, tyq_0, tz_0, tyq_3, inq_3, tz_3, tyq_4, bool_4, tz_4, tyq_5, inq_5, tz_5, tyq_9, str_9, tz_9, tyq_30, slq_30, tz_30, tyq_32, fq_32_0, fq_32_1, bq_32, feq_32, tz_32, tyq_33, inq_33, tz_33, tyq_37, fq_37_0, fq_37_1, fq_37_2, fq_37_3, bq_37, feq_37, tz_37, tyq_45, ptq_45, tz_45, tyq_47, fq_47_0, fq_47_1, fq_47_2, fq_47_3, bq_47, feq_47, tz_47, tyq_52, tz_52, tyq_58, tz_58, Nat.reduceAdd, Nat.reduceSub, Nat.reduceMul, Nat.reduceLT, Nat.reduceLeDiff, Nat.reduceEqDiff, Int.reduceToNat, Int.reduceLE, Int.reduceLT, Int.reduceEq, Int.reduceNeg, reduceCtorEq, reduceIte, decide_true, decide_false, List.forall_mem_cons, List.not_mem_nil, false_implies, implies_true, Bool.and_true, Bool.true_and, and_self, Nat.sub_zero, Nat.zero_add, Nat.add_zero]
              try simp only [EQ, reduceIte, Nat.reduceEqDiff]
              refine ⟨((adv s (tokenF s a).2.1.length (a, l, c)).1, (adv s (tokenF s a).2.1.length (a, l, c)).2.1, (adv s (tokenF s a).2.1.length (a, l, c)).2.2, acc ++ [((tokenF s a).1, (tokenF s a).2.1, l, c)]), [0, 1, 3], ⟨?_, ?_, ?_, ?_, ?_⟩, ?_, ?_⟩
              · dsimp only; rw [adv_at]; omega
              · dsimp only; rw [adv_at]; omega
              · dsimp only; rw [adv_at]; omega
              · dsimp only; rw [adv_at, List.length_append]; simp only [List.length_cons, List.length_nil]; omega
              · dsimp only
                rw [← h5]
                conv => rhs; unfold lexF
                rw [dif_pos hlt, if_neg hb, if_neg h35, if_pos he, Nat.max_eq_right (by rw [adv_at]; omega)]
              · dsimp only; rw [adv_at]; omega
              · refine ⟨by simp, by simp (maxSteps := 1000000) only [↓yld_succ, ↓yld_zero, EV, EO, ED, ↓EW, ↓EI, EB, EP, EL, tyq_0, tz_0, tyq_3, inq_3, tz_3, tyq_4, bool_4, tz_4, tyq_5, inq_5, tz_5, tyq_9, str_9, tz_9, tyq_30, slq_30, tz_30, tyq_32, fq_32_0, fq_32_1, bq_32, feq_32, tz_32, tyq_33, inq_33, tz_33, tyq_37, fq_37_0, fq_37_1, fq_37_2, fq_37_3, bq_37, feq_37, tz_37, tyq_45, ptq_45, tz_45, tyq_47, fq_47_0, fq_47_1, fq_47_2, fq_47_3, bq_47, feq_47, tz_47, tyq_52, tz_52, tyq_58, tz_58, Nat.reduceAdd, Nat.reduceSub, Nat.reduceMul, Nat.reduceLT, Nat.reduceLeDiff, Nat.reduceEqDiff, Int.reduceToNat, Int.reduceLE, Int.reduceLT, Int.reduceEq, Int.reduceNeg, reduceCtorEq, reduceIte, decide_true, decide_false, List.forall_mem_cons, List.not_mem_nil, false_implies, implies_true, Bool.and_true, Bool.true_and, and_self, Nat.sub_zero, Nat.zero_add, Nat.add_zero, ER, and_self, rd, tkv_closed acc _, renL_append, List.length_append, List.map_append, tkv, tk], by simp (maxSteps := 1000000) only [↓yld_succ, ↓yld_zero, EV, EO, ED, ↓EW, ↓EI, EB, EP, EL, tyq_0, tz_0, tyq_3, inq_3, tz_3, tyq_4, bool_4, tz_4, tyq_5, inq_5, tz_5, tyq_9, str_9, tz_9, tyq_30, slq_30, tz_30, tyq_32, fq_32_0, fq_32_1, bq_32, feq_32, tz_32, tyq_33, inq_33, tz_33, tyq_37, fq_37_0, fq_37_1, fq_37_2, fq_37_3, bq_37, feq_37, tz_37, tyq_45, ptq_45, tz_45, tyq_47, fq_47_0, fq_47_1, fq_47_2, fq_47_3, bq_47, feq_47, tz_47, tyq_52, tz_52, tyq_58, tz_58, Nat.reduceAdd, Nat.reduceSub, Nat.reduceMul, Nat.reduceLT, Nat.reduceLeDiff, Nat.reduceEqDiff, Int.reduceToNat, Int.reduceLE, Int.reduceLT, Int.reduceEq, Int.reduceNeg, reduceCtorEq, reduceIte, decide_true, decide_false, List.forall_mem_cons, List.not_mem_nil, false_implies, implies_true, Bool.and_true, Bool.true_and, and_self, Nat.sub_zero, Nat.zero_add, Nat.add_zero, ER, rd, tkv_closed acc _, renL_append, List.length_append, List.map_append, tkv, tk], by simp (maxSteps := 1000000) only [↓yld_succ, ↓yld_zero, EV, EO, ED, ↓EW, ↓EI, EB, EP, EL, tyq_0, tz_0, tyq_3, inq_3, tz_3, tyq_4, bool_4, tz_4, tyq_5, inq_5, tz_5, tyq_9, str_9, tz_9, tyq_30, slq_30, tz_30, tyq_32, fq_32_0, fq_32_1, bq_32, feq_32, tz_32, tyq_33, inq_33, tz_33, tyq_37, fq_37_0, fq_37_1, fq_37_2, fq_37_3, bq_37, feq_37, tz_37, tyq_45, ptq_45, tz_45, tyq_47, fq_47_0, fq_47_1, fq_47_2, fq_47_3, bq_47, feq_47, tz_47, tyq_52, tz_52, tyq_58, tz_58, Nat.reduceAdd, Nat.reduceSub, Nat.reduceMul, Nat.reduceLT, Nat.reduceLeDiff, Nat.reduceEqDiff, Int.reduceToNat, Int.reduceLE, Int.reduceLT, Int.reduceEq, Int.reduceNeg, reduceCtorEq, reduceIte, decide_true, decide_false, List.forall_mem_cons, List.not_mem_nil, false_implies, implies_true, Bool.and_true, Bool.true_and, and_self, Nat.sub_zero, Nat.zero_add, Nat.add_zero, ER, pick, rd, tkv_closed acc _, renL_append, List.length_append, List.map_append, tkv, tk], rfl⟩
      · have hge : s.length ≤ a := by simp at h; omega
        refine WC.exit ?_
        simp only [EQ, reduceIte, Nat.reduceEqDiff]
        refine hK2 _ ?_
        refine WC.ds [⟨0, 0, false, []⟩, ⟨1, 0, false, []⟩, ⟨2, 0, false, []⟩, ⟨3, 0, false, []⟩, ⟨4, 0, false, []⟩, ⟨5, 0, false, []⟩, ⟨6, 0, false, []⟩, ⟨7, 0, false, []⟩, ⟨8, 0, false, []⟩, ⟨9, 0, false, []⟩, ⟨10, 2, false, []⟩, ⟨12, 0, true, []⟩, ⟨11, 1, false, [12]⟩, ⟨13, 0, false, []⟩, ⟨14, 1, false, []⟩, ⟨15, 0, false, []⟩] [0, 0, 2, 6, 14, 0, 32, 96, 224, 510, 1022, 2047, 0, 4095, 16383, 32767] mo (by kernel_rfl) (by simp only [EPl, List.getElem?_cons_zero, List.getElem?_cons_succ]; rfl) fun K hK => ?_
        simp (maxSteps := 1000000) only [↓yld_succ, ↓yld_zero, EV, EO, ED, ↓EW, ↓EI, EB, EP, EL, tyq_0, tz_0, tyq_3, inq_3, tz_3, tyq_4, bool_4, tz_4, tyq_5, inq_5, tz_5, tyq_9, str_9, tz_9, tyq_30, slq_30, tz_30, tyq_32, fq_32_0, fq_32_1, bq_32, feq_32, tz_32, tyq_33, inq_33, tz_33, tyq_37, fq_37_0, fq_37_1, fq_37_2, fq_37_3, bq_37, feq_37, tz_37, tyq_45, ptq_45, tz_45, tyq_47, fq_47_0, fq_47_1, fq_47_2, fq_47_3, bq_47, feq_47, tz_47, tyq_52, tz_52, tyq_58, tz_58, Nat.reduceAdd, Nat.reduceSub, Nat.reduceMul, Nat.reduceLT, Nat.reduceLeDiff, Nat.reduceEqDiff, Int.reduceToNat, Int.reduceLE, Int.reduceLT, Int.reduceEq, Int.reduceNeg, reduceCtorEq, reduceIte, decide_true, decide_false, List.forall_mem_cons, List.not_mem_nil, false_implies, implies_true, Bool.and_true, Bool.true_and, and_self, Nat.sub_zero, Nat.zero_add, Nat.add_zero, rd, List.length_map]
        repeat refine ⟨by omega, ?_⟩
        refine hK _ ?_; try clear hK K
        refine WC.trim [0, 2, 3, 4, 5, 6, 7, 8, 9, 15, 24, 25, 35, 55] ?_
        simp only [ET, Nat.reduceEqDiff, reduceIte]
        refine WC.frz 2 3 rfl rfl (by simp) ?_
        refine WC.ret ?_
        simp (maxSteps := 1000000) only [↓yld_succ, ↓yld_zero, EV, EO, ED, ↓EW, ↓EI, EB, EP, EL, tyq_0, tz_0, tyq_3, inq_3, tz_3, tyq_4, bool_4, tz_4, tyq_5, inq_5, tz_5, tyq_9, str_9, tz_9, tyq_30, slq_30, tz_30, tyq_32, fq_32_0, fq_32_1, bq_32, feq_32, tz_32, tyq_33, inq_33, tz_33, tyq_37, fq_37_0, fq_37_1, fq_37_2, fq_37_3, bq_37, feq_37, tz_37, tyq_45, ptq_45, tz_45, tyq_47, fq_47_0, fq_47_1, fq_47_2, fq_47_3, bq_47, feq_47, tz_47, tyq_52, tz_52, tyq_58, tz_58, Nat.reduceAdd, Nat.reduceSub, Nat.reduceMul, Nat.reduceLT, Nat.reduceLeDiff, Nat.reduceEqDiff, Int.reduceToNat, Int.reduceLE, Int.reduceLT, Int.reduceEq, Int.reduceNeg, reduceCtorEq, reduceIte, decide_true, decide_false, List.forall_mem_cons, List.not_mem_nil, false_implies, implies_true, Bool.and_true, Bool.true_and, and_self, Nat.sub_zero, Nat.zero_add, Nat.add_zero, EQ, FnQ, Tryd.results14, wResL, tup, List.reverse_cons, List.reverse_nil, true_and]
        rw [List.take_of_length_le (by simp)]
        have hr : tokensF s = (acc ++ [(5, [], l, c)], (0, 0), 0) := by
          rw [tokensF, if_neg h8, ← h5]
          unfold lexF
          rw [dif_neg (by omega)]
        have ht : acc.map tkv ++ [.agg [.int .i64 5, .str [], .int .i64 l, .int .i64 c]] = (acc ++ [(5, [], l, c)]).map tkv := by rw [List.map_append]; rfl
        rw [hr, tokv_append, ht]
        exact endsSame (by simp only [CL, and_self, tkv_closed]) closedBs_nil ⟨rfl, rfl⟩
end Go.LexSem
