import Derived.Test.YtednoahjadghnaaDoorLexH
set_option linter.unusedSimpArgs false
set_option linter.unusedVariables false
set_option linter.loopingSimpArgs false
namespace Go.LexSem
open Go Go.V Go.Proofs

def sgs : List (List UInt8) := [[58, 61], [61, 61], [33, 61], [60, 61], [62, 61], [38, 38], [124, 124], [126], [60], [62], [43], [45], [42], [47], [40], [41], [91], [93], [123], [125], [44], [59], [58], [63], [46], [33]]
/-- The first of the signs that stands at the front. -/
def signAt (s : List UInt8) : List (List UInt8) → Option (List UInt8)
  | [] => none
  | x :: r => if x.length ≤ s.length ∧ s.take x.length = x then some x else signAt s r
def runAt (p : Int → Bool) (s : List UInt8) (a : Nat) : List UInt8 := (s.drop a).take (runTo p s (s.length - a) a - a)
/-- The token at a: its kind and text; the error. -/
def tokenF (s : List UInt8) (a : Nat) : Nat × List UInt8 × Nat :=
  if wordI false (gb s a) = true then
    if runAt (wordI true) s a ∈ kws then (3, runAt (wordI true) s a, 0) else if 12 < (runAt (wordI true) s a).length then (0, [], 9) else (1, runAt (wordI true) s a, 0)
  else if digitI (gb s a) = true then if 60 < (runAt digitI s a).length then (0, [], 9) else (2, runAt digitI s a, 0)
  else match signAt (s.drop a) sgs with
    | some x => (4, x, 0)
    | none => (0, [], 4)

theorem token_sem (hkw : FSem C 28 [] [] fun r st => r = .ret (.slc (kws.map .str)) ∧ st = []) (hsg : FSem C 30 [] [] fun r st => r = .ret (.slc (sgs.map .str)) ∧ st = [])
    (s : List UInt8) (hs : s.length ≤ 8192) (a l c : Nat) (ha : a < s.length) :
    FSem C 22 [.ptr (.o 0) 0 0] [rd s a l c] fun r st => r = .ret (.tuple [.int .i64 (tokenF s a).1, .str (tokenF s a).2.1, .int .i64 (tokenF s a).2.2]) ∧ st = [rd s a l c] := by
  refine FSem.enter' (C := C) (n := 68) Tryd.func22 rfl rfl ok_22 (by simp) ?_
  simp only [argEnv]
  refine WC.rs fun K hK => ?_
  simp (maxSteps := 1000000) only [↓yld_succ, ↓yld_zero, EV, EO, ED, ↓EW, ↓EI, EB, EP, EL, tyq_0, tz_0, tyq_3, inq_3, tz_3, tyq_4, bool_4, tz_4, tyq_5, inq_5, tz_5, tyq_9, str_9, tz_9, tyq_33, inq_33, tz_33, tyq_38, slq_38, tz_38, tyq_45, ptq_45, tz_45, tyq_47, fq_47_0, fq_47_1, fq_47_2, fq_47_3, bq_47, feq_47, tz_47, tyq_49, tz_49, tyq_58, tz_58, tyq_60, fq_60_0, bq_60, feq_60, tz_60, Nat.reduceAdd, Nat.reduceSub, Nat.reduceMul, Nat.reduceLT, Nat.reduceLeDiff, Nat.reduceEqDiff, Int.reduceToNat, Int.reduceLE, Int.reduceLT, Int.reduceEq, Int.reduceNeg, reduceCtorEq, reduceIte, decide_true, decide_false, List.forall_mem_cons, List.not_mem_nil, false_implies, implies_true, Bool.and_true, Bool.true_and, and_self, Nat.sub_zero, Nat.zero_add, Nat.add_zero]
  refine hK _ ?_; try clear hK K
  refine WC.trim [0, 2, 3, 4, 5, 6, 7, 8, 9, 11, 25, 34, 38, 40, 47, 49, 50, 51, 52, 65] ?_
  simp only [ET, Nat.reduceEqDiff, reduceIte]
  refine WC.rs fun K hK => ?_
  simp (maxSteps := 1000000) only [↓yld_succ, ↓yld_zero, EV, EO, ED, ↓EW, ↓EI, EB, EP, EL, tyq_0, tz_0, tyq_3, inq_3, tz_3, tyq_4, bool_4, tz_4, tyq_5, inq_5, tz_5, tyq_9, str_9, tz_9, tyq_33, inq_33, tz_33, tyq_38, slq_38, tz_38, tyq_45, ptq_45, tz_45, tyq_47, fq_47_0, fq_47_1, fq_47_2, fq_47_3, bq_47, feq_47, tz_47, tyq_49, tz_49, tyq_58, tz_58, tyq_60, fq_60_0, bq_60, feq_60, tz_60, Nat.reduceAdd, Nat.reduceSub, Nat.reduceMul, Nat.reduceLT, Nat.reduceLeDiff, Nat.reduceEqDiff, Int.reduceToNat, Int.reduceLE, Int.reduceLT, Int.reduceEq, Int.reduceNeg, reduceCtorEq, reduceIte, decide_true, decide_false, List.forall_mem_cons, List.not_mem_nil, false_implies, implies_true, Bool.and_true, Bool.true_and, and_self, Nat.sub_zero, Nat.zero_add, Nat.add_zero]
  refine hK _ ?_; try clear hK K
  refine WC.trim [0, 2, 3, 4, 5, 6, 7, 8, 9, 11, 25, 34, 38, 40, 47, 49, 50, 51, 52, 65] ?_
  simp only [ET, Nat.reduceEqDiff, reduceIte]
  refine WC.ds [⟨0, 0, false, []⟩, ⟨1, 0, false, []⟩, ⟨2, 0, false, []⟩, ⟨3, 0, false, []⟩, ⟨4, 0, false, []⟩, ⟨5, 0, false, []⟩, ⟨6, 0, false, []⟩, ⟨7, 0, false, []⟩, ⟨8, 0, false, []⟩, ⟨9, 0, false, []⟩] [0, 1, 3, 7, 0, 16, 48, 112, 255, 511] mo (by kernel_rfl) (by simp only [EPl, List.getElem?_cons_zero, List.getElem?_cons_succ]; rfl) fun K hK => ?_
  simp (maxSteps := 1000000) only [↓yld_succ, ↓yld_zero, EV, EO, ED, ↓EW, ↓EI, EB, EP, EL, tyq_0, tz_0, tyq_3, inq_3, tz_3, tyq_4, bool_4, tz_4, tyq_5, inq_5, tz_5, tyq_9, str_9, tz_9, tyq_33, inq_33, tz_33, tyq_38, slq_38, tz_38, tyq_45, ptq_45, tz_45, tyq_47, fq_47_0, fq_47_1, fq_47_2, fq_47_3, bq_47, feq_47, tz_47, tyq_49, tz_49, tyq_58, tz_58, tyq_60, fq_60_0, bq_60, feq_60, tz_60, Nat.reduceAdd, Nat.reduceSub, Nat.reduceMul, Nat.reduceLT, Nat.reduceLeDiff, Nat.reduceEqDiff, Int.reduceToNat, Int.reduceLE, Int.reduceLT, Int.reduceEq, Int.reduceNeg, reduceCtorEq, reduceIte, decide_true, decide_false, List.forall_mem_cons, List.not_mem_nil, false_implies, implies_true, Bool.and_true, Bool.true_and, and_self, Nat.sub_zero, Nat.zero_add, Nat.add_zero, rd]
  repeat refine ⟨by omega, ?_⟩
  refine hK _ ?_; try clear hK K
  refine WC.trim [0, 2, 3, 4, 5, 6, 7, 8, 9, 11, 25, 34, 38, 40, 47, 49, 50, 51, 52, 65] ?_
  simp only [ET, Nat.reduceEqDiff, reduceIte]
  refine WC.bs fun K1 hK1 => ?_
  refine WC.rs fun K hK => ?_
  simp (maxSteps := 1000000) only [↓yld_succ, ↓yld_zero, EV, EO, ED, ↓EW, ↓EI, EB, EP, EL, tyq_0, tz_0, tyq_3, inq_3, tz_3, tyq_4, bool_4, tz_4, tyq_5, inq_5, tz_5, tyq_9, str_9, tz_9, tyq_33, inq_33, tz_33, tyq_38, slq_38, tz_38, tyq_45, ptq_45, tz_45, tyq_47, fq_47_0, fq_47_1, fq_47_2, fq_47_3, bq_47, feq_47, tz_47, tyq_49, tz_49, tyq_58, tz_58, tyq_60, fq_60_0, bq_60, feq_60, tz_60, Nat.reduceAdd, Nat.reduceSub, Nat.reduceMul, Nat.reduceLT, Nat.reduceLeDiff, Nat.reduceEqDiff, Int.reduceToNat, Int.reduceLE, Int.reduceLT, Int.reduceEq, Int.reduceNeg, reduceCtorEq, reduceIte, decide_true, decide_false, List.forall_mem_cons, List.not_mem_nil, false_implies, implies_true, Bool.and_true, Bool.true_and, and_self, Nat.sub_zero, Nat.zero_add, Nat.add_zero]
  refine CallX.mk (CallW.pure (has_sem false _) (by simp only [CL, and_self]) (by simp only [CL]) ?_)
  simp (maxSteps := 1000000) only [↓yld_succ, ↓yld_zero, EV, EO, ED, ↓EW, ↓EI, EB, EP, EL, tyq_0, tz_0, tyq_3, inq_3, tz_3, tyq_4, bool_4, tz_4, tyq_5, inq_5, tz_5, tyq_9, str_9, tz_9, tyq_33, inq_33, tz_33, tyq_38, slq_38, tz_38, tyq_45, ptq_45, tz_45, tyq_47, fq_47_0, fq_47_1, fq_47_2, fq_47_3, bq_47, feq_47, tz_47, tyq_49, tz_49, tyq_58, tz_58, tyq_60, fq_60_0, bq_60, feq_60, tz_60, Nat.reduceAdd, Nat.reduceSub, Nat.reduceMul, Nat.reduceLT, Nat.reduceLeDiff, Nat.reduceEqDiff, Int.reduceToNat, Int.reduceLE, Int.reduceLT, Int.reduceEq, Int.reduceNeg, reduceCtorEq, reduceIte, decide_true, decide_false, List.forall_mem_cons, List.not_mem_nil, false_implies, implies_true, Bool.and_true, Bool.true_and, and_self, Nat.sub_zero, Nat.zero_add, Nat.add_zero]
  refine hK _ ?_; try clear hK K
  refine WC.trim [0, 2, 3, 4, 5, 6, 7, 8, 9, 11, 25, 34, 38, 40, 47, 49, 50, 51, 52, 65] ?_
  simp only [ET, Nat.reduceEqDiff, reduceIte]
  refine WC.cond (c := .tmp 25) rfl (fun h => ?_) (fun h => ?_)
  · have hw : wordI false (gb s a) = true := h
    refine WC.rs fun K hK => ?_
    simp (maxSteps := 1000000) only [↓yld_succ, ↓yld_zero, EV, EO, ED, ↓EW, ↓EI, EB, EP, EL, tyq_0, tz_0, tyq_3, inq_3, tz_3, tyq_4, bool_4, tz_4, tyq_5, inq_5, tz_5, tyq_9, str_9, tz_9, tyq_33, inq_33, tz_33, tyq_38, slq_38, tz_38, tyq_45, ptq_45, tz_45, tyq_47, fq_47_0, fq_47_1, fq_47_2, fq_47_3, bq_47, feq_47, tz_47, tyq_49, tz_49, tyq_58, tz_58, tyq_60, fq_60_0, bq_60, feq_60, tz_60, Nat.reduceAdd, Nat.reduceSub, Nat.reduceMul, Nat.reduceLT, Nat.reduceLeDiff, Nat.reduceEqDiff, Int.reduceToNat, Int.reduceLE, Int.reduceLT, Int.reduceEq, Int.reduceNeg, reduceCtorEq, reduceIte, decide_true, decide_false, List.forall_mem_cons, List.not_mem_nil, false_implies, implies_true, Bool.and_true, Bool.true_and, and_self, Nat.sub_zero, Nat.zero_add, Nat.add_zero]
    refine CallX.mk (CallW.one (r := .o 0) (run_sem s hs a l c (Nat.le_of_lt ha) 26 [.agg [.bool true]] (by simp only [CL, and_self]) (wordI true) (fun x => has_sem true x)) rfl (rd_closed _ _ _ _) (rd_closed _ _ _ _) (by simp only [CL]) (by simp [renL, ren, fCall]) ?_)
    simp (maxSteps := 1000000) only [↓yld_succ, ↓yld_zero, EV, EO, ED, ↓EW, ↓EI, EB, EP, EL, tyq_0, tz_0, tyq_3, inq_3, tz_3, tyq_4, bool_4, tz_4, tyq_5, inq_5, tz_5, tyq_9, str_9, tz_9, tyq_33, inq_33, tz_33, tyq_38, slq_38, tz_38, tyq_45, ptq_45, tz_45, tyq_47, fq_47_0, fq_47_1, fq_47_2, fq_47_3, bq_47, feq_47, tz_47, tyq_49, tz_49, tyq_58, tz_58, tyq_60, fq_60_0, bq_60, feq_60, tz_60, Nat.reduceAdd, Nat.reduceSub, Nat.reduceMul, Nat.reduceLT, Nat.reduceLeDiff, Nat.reduceEqDiff, Int.reduceToNat, Int.reduceLE, Int.reduceLT, Int.reduceEq, Int.reduceNeg, reduceCtorEq, reduceIte, decide_true, decide_false, List.forall_mem_cons, List.not_mem_nil, false_implies, implies_true, Bool.and_true, Bool.true_and, and_self, Nat.sub_zero, Nat.zero_add, Nat.add_zero, rd]
    refine hK _ ?_; try clear hK K
    refine WC.trim [0, 2, 3, 4, 5, 6, 7, 8, 9, 11, 25, 34, 38, 40, 47, 49, 50, 51, 52, 65] ?_
    simp only [ET, Nat.reduceEqDiff, reduceIte]
    rw [show (s.drop a).take (runTo (wordI true) s (s.length - a) a - a) = runAt (wordI true) s a from rfl]
    generalize hr : runAt (wordI true) s a = w
    have hwl : w.length ≤ s.length := by
      rw [← hr, runAt, List.length_take, List.length_drop]; omega
    refine WC.sK fun K2 hK2 => ?_
    refine WC.rs fun K hK => ?_
    simp (maxSteps := 1000000) only [↓yld_succ, ↓yld_zero, EV, EO, ED, ↓EW, ↓EI, EB, EP, EL, tyq_0, tz_0, tyq_3, inq_3, tz_3, tyq_4, bool_4, tz_4, tyq_5, inq_5, tz_5, tyq_9, str_9, tz_9, tyq_33, inq_33, tz_33, tyq_38, slq_38, tz_38, tyq_45, ptq_45, tz_45, tyq_47, fq_47_0, fq_47_1, fq_47_2, fq_47_3, bq_47, feq_47, tz_47, tyq_49, tz_49, tyq_58, tz_58, tyq_60, fq_60_0, bq_60, feq_60, tz_60, Nat.reduceAdd, Nat.reduceSub, Nat.reduceMul, Nat.reduceLT, Nat.reduceLeDiff, Nat.reduceEqDiff, Int.reduceToNat, Int.reduceLE, Int.reduceLT, Int.reduceEq, Int.reduceNeg, reduceCtorEq, reduceIte, decide_true, decide_false, List.forall_mem_cons, List.not_mem_nil, false_implies, implies_true, Bool.and_true, Bool.true_and, and_self, Nat.sub_zero, Nat.zero_add, Nat.add_zero]
    refine CallX.mk (CallW.pure hkw (by simp only [CL]) (by simp only [CL, strs_closed]) ?_)
    simp (maxSteps := 1000000) only [↓yld_succ, ↓yld_zero, EV, EO, ED, ↓EW, ↓EI, EB, EP, EL, tyq_0, tz_0, tyq_3, inq_3, tz_3, tyq_4, bool_4, tz_4, tyq_5, inq_5, tz_5, tyq_9, str_9, tz_9, tyq_33, inq_33, tz_33, tyq_38, slq_38, tz_38, tyq_45, ptq_45, tz_45, tyq_47, fq_47_0, fq_47_1, fq_47_2, fq_47_3, bq_47, feq_47, tz_47, tyq_49, tz_49, tyq_58, tz_58, tyq_60, fq_60_0, bq_60, feq_60, tz_60, Nat.reduceAdd, Nat.reduceSub, Nat.reduceMul, Nat.reduceLT, Nat.reduceLeDiff, Nat.reduceEqDiff, Int.reduceToNat, Int.reduceLE, Int.reduceLT, Int.reduceEq, Int.reduceNeg, reduceCtorEq, reduceIte, decide_true, decide_false, List.forall_mem_cons, List.not_mem_nil, false_implies, implies_true, Bool.and_true, Bool.true_and, and_self, Nat.sub_zero, Nat.zero_add, Nat.add_zero]
    refine CallX.mk (CallW.pure (contains_sem kws w (by decide)) (by simp only [CL, and_self, strs_closed]) (by simp only [CL]) ?_)
    simp (maxSteps := 1000000) only [↓yld_succ, ↓yld_zero, EV, EO, ED, ↓EW, ↓EI, EB, EP, EL, tyq_0, tz_0, tyq_3, inq_3, tz_3, tyq_4, bool_4, tz_4, tyq_5, inq_5, tz_5, tyq_9, str_9, tz_9, tyq_33, inq_33, tz_33, tyq_38, slq_38, tz_38, tyq_45, ptq_45, tz_45, tyq_47, fq_47_0, fq_47_1, fq_47_2, fq_47_3, bq_47, feq_47, tz_47, tyq_49, tz_49, tyq_58, tz_58, tyq_60, fq_60_0, bq_60, feq_60, tz_60, Nat.reduceAdd, Nat.reduceSub, Nat.reduceMul, Nat.reduceLT, Nat.reduceLeDiff, Nat.reduceEqDiff, Int.reduceToNat, Int.reduceLE, Int.reduceLT, Int.reduceEq, Int.reduceNeg, reduceCtorEq, reduceIte, decide_true, decide_false, List.forall_mem_cons, List.not_mem_nil, false_implies, implies_true, Bool.and_true, Bool.true_and, and_self, Nat.sub_zero, Nat.zero_add, Nat.add_zero]
    refine hK _ ?_; try clear hK K
    refine WC.trim [0, 2, 3, 4, 5, 6, 7, 8, 9, 11, 25, 34, 38, 40, 47, 49, 50, 51, 52, 65] ?_
    simp only [ET, Nat.reduceEqDiff, reduceIte]
    refine WC.cond (c := .tmp 34) rfl (fun h => ?_) (fun h => ?_)
    · have hk : w ∈ kws := by simpa using h
      refine WC.rs fun K hK => ?_
      simp (maxSteps := 1000000) only [↓yld_succ, ↓yld_zero, EV, EO, ED, ↓EW, ↓EI, EB, EP, EL, tyq_0, tz_0, tyq_3, inq_3, tz_3, tyq_4, bool_4, tz_4, tyq_5, inq_5, tz_5, tyq_9, str_9, tz_9, tyq_33, inq_33, tz_33, tyq_38, slq_38, tz_38, tyq_45, ptq_45, tz_45, tyq_47, fq_47_0, fq_47_1, fq_47_2, fq_47_3, bq_47, feq_47, tz_47, tyq_49, tz_49, tyq_58, tz_58, tyq_60, fq_60_0, bq_60, feq_60, tz_60, Nat.reduceAdd, Nat.reduceSub, Nat.reduceMul, Nat.reduceLT, Nat.reduceLeDiff, Nat.reduceEqDiff, Int.reduceToNat, Int.reduceLE, Int.reduceLT, Int.reduceEq, Int.reduceNeg, reduceCtorEq, reduceIte, decide_true, decide_false, List.forall_mem_cons, List.not_mem_nil, false_implies, implies_true, Bool.and_true, Bool.true_and, and_self, Nat.sub_zero, Nat.zero_add, Nat.add_zero]
      refine hK _ ?_; try clear hK K
      refine WC.trim [0, 2, 3, 4, 5, 6, 7, 8, 9, 11, 25, 34, 38, 40, 47, 49, 50, 51, 52, 65] ?_
      simp only [ET, Nat.reduceEqDiff, reduceIte]
      refine WC.ret ?_
      simp (maxSteps := 1000000) only [↓yld_succ, ↓yld_zero, EV, EO, ED, ↓EW, ↓EI, EB, EP, EL, tyq_0, tz_0, tyq_3, inq_3, tz_3, tyq_4, bool_4, tz_4, tyq_5, inq_5, tz_5, tyq_9, str_9, tz_9, tyq_33, inq_33, tz_33, tyq_38, slq_38, tz_38, tyq_45, ptq_45, tz_45, tyq_47, fq_47_0, fq_47_1, fq_47_2, fq_47_3, bq_47, feq_47, tz_47, tyq_49, tz_49, tyq_58, tz_58, tyq_60, fq_60_0, bq_60, feq_60, tz_60, Nat.reduceAdd, Nat.reduceSub, Nat.reduceMul, Nat.reduceLT, Nat.reduceLeDiff, Nat.reduceEqDiff, Int.reduceToNat, Int.reduceLE, Int.reduceLT, Int.reduceEq, Int.reduceNeg, reduceCtorEq, reduceIte, decide_true, decide_false, List.forall_mem_cons, List.not_mem_nil, false_implies, implies_true, Bool.and_true, Bool.true_and, and_self, Nat.sub_zero, Nat.zero_add, Nat.add_zero, EQ, FnQ, Tryd.results22, wResL, tup, List.reverse_cons, List.reverse_nil, true_and]
      refine endsSame (by simp only [CL, and_self]) (closedBs_cons (fun f => rfl) closedBs_nil) ⟨?_, rfl⟩
      rw [tokenF, if_pos hw, hr, if_pos hk]; rfl
    · have hk : ¬ w ∈ kws := by simpa using h
      refine WC.skip ?_
      try simp only [EQ, reduceIte, Nat.reduceEqDiff]
      refine hK2 _ ?_; try clear hK2 K2
      refine WC.sK fun K3 hK3 => ?_
      refine WC.rs fun K hK => ?_
      simp (maxSteps := 1000000) only [↓yld_succ, ↓yld_zero, EV, EO, ED, ↓EW, ↓EI, EB, EP, EL, tyq_0, tz_0, tyq_3, inq_3, tz_3, tyq_4, bool_4, tz_4, tyq_5, inq_5, tz_5, tyq_9, str_9, tz_9, tyq_33, inq_33, tz_33, tyq_38, slq_38, tz_38, tyq_45, ptq_45, tz_45, tyq_47, fq_47_0, fq_47_1, fq_47_2, fq_47_3, bq_47, feq_47, tz_47, tyq_49, tz_49, tyq_58, tz_58, tyq_60, fq_60_0, bq_60, feq_60, tz_60, Nat.reduceAdd, Nat.reduceSub, Nat.reduceMul, Nat.reduceLT, Nat.reduceLeDiff, Nat.reduceEqDiff, Int.reduceToNat, Int.reduceLE, Int.reduceLT, Int.reduceEq, Int.reduceNeg, reduceCtorEq, reduceIte, decide_true, decide_false, List.forall_mem_cons, List.not_mem_nil, false_implies, implies_true, Bool.and_true, Bool.true_and, and_self, Nat.sub_zero, Nat.zero_add, Nat.add_zero]
      refine hK _ ?_; try clear hK K
      refine WC.trim [0, 2, 3, 4, 5, 6, 7, 8, 9, 11, 25, 34, 38, 40, 47, 49, 50, 51, 52, 65] ?_
      simp only [ET, Nat.reduceEqDiff, reduceIte]
      refine WC.cond (c := .tmp 38) rfl (fun h => ?_) (fun h => ?_)
      · have h12 : 12 < w.length := by simp at h; omega
        refine WC.rs fun K hK => ?_
        simp (maxSteps := 1000000) only [↓yld_succ, ↓yld_zero, EV, EO, ED, ↓EW, ↓EI, EB, EP, EL, tyq_0, tz_0, tyq_3, inq_3, tz_3, tyq_4, bool_4, tz_4, tyq_5, inq_5, tz_5, tyq_9, str_9, tz_9, tyq_33, inq_33, tz_33, tyq_38, slq_38, tz_38, tyq_45, ptq_45, tz_45, tyq_47, fq_47_0, fq_47_1, fq_47_2, fq_47_3, bq_47, feq_47, tz_47, tyq_49, tz_49, tyq_58, tz_58, tyq_60, fq_60_0, bq_60, feq_60, tz_60, Nat.reduceAdd, Nat.reduceSub, Nat.reduceMul, Nat.reduceLT, Nat.reduceLeDiff, Nat.reduceEqDiff, Int.reduceToNat, Int.reduceLE, Int.reduceLT, Int.reduceEq, Int.reduceNeg, reduceCtorEq, reduceIte, decide_true, decide_false, List.forall_mem_cons, List.not_mem_nil, false_implies, implies_true, Bool.and_true, Bool.true_and, and_self, Nat.sub_zero, Nat.zero_add, Nat.add_zero]
        refine hK _ ?_; try clear hK K
        refine WC.trim [0, 2, 3, 4, 5, 6, 7, 8, 9, 11, 25, 34, 38, 40, 47, 49, 50, 51, 52, 65] ?_
        simp only [ET, Nat.reduceEqDiff, reduceIte]
        refine WC.ret ?_
        simp (maxSteps := 1000000) only [↓yld_succ, ↓yld_zero, EV, EO, ED, ↓EW, ↓EI, EB, EP, EL, tyq_0, tz_0, tyq_3, inq_3, tz_3, tyq_4, bool_4, tz_4, tyq_5, inq_5, tz_5, tyq_9, str_9, tz_9, tyq_33, inq_33, tz_33, tyq_38, slq_38, tz_38, tyq_45, ptq_45, tz_45, tyq_47, fq_47_0, fq_47_1, fq_47_2, fq_47_3, bq_47, feq_47, tz_47, tyq_49, tz_49, tyq_58, tz_58, tyq_60, fq_60_0, bq_60, feq_60, tz_60, Nat.reduceAdd, Nat.reduceSub, Nat.reduceMul, Nat.reduceLT, Nat.reduceLeDiff, Nat.reduceEqDiff, Int.reduceToNat, Int.reduceLE, Int.reduceLT, Int.reduceEq, Int.reduceNeg, reduceCtorEq, reduceIte, decide_true, decide_false, List.forall_mem_cons, List.not_mem_nil, false_implies, implies_true, Bool.and_true, Bool.true_and, and_self, Nat.sub_zero, Nat.zero_add, Nat.add_zero, EQ, FnQ, Tryd.results22, wResL, tup, List.reverse_cons, List.reverse_nil, true_and]
        refine endsSame (by simp only [CL, and_self]) (closedBs_cons (fun f => rfl) closedBs_nil) ⟨?_, rfl⟩
        rw [tokenF, if_pos hw, hr, if_neg hk, if_pos h12]; rfl
      · have h12 : ¬ 12 < w.length := by simp at h; omega
        refine WC.skip ?_
        try simp only [EQ, reduceIte, Nat.reduceEqDiff]
        refine hK3 _ ?_; try clear hK3 K3
        refine WC.rs fun K hK => ?_
        simp (maxSteps := 1000000) only [↓yld_succ, ↓yld_zero, EV, EO, ED, ↓EW, ↓EI, EB, EP, EL, tyq_0, tz_0, tyq_3, inq_3, tz_3, tyq_4, bool_4, tz_4, tyq_5, inq_5, tz_5, tyq_9, str_9, tz_9, tyq_33, inq_33, tz_33, tyq_38, slq_38, tz_38, tyq_45, ptq_45, tz_45, tyq_47, fq_47_0, fq_47_1, fq_47_2, fq_47_3, bq_47, feq_47, tz_47, tyq_49, tz_49, tyq_58, tz_58, tyq_60, fq_60_0, bq_60, feq_60, tz_60, Nat.reduceAdd, Nat.reduceSub, Nat.reduceMul, Nat.reduceLT, Nat.reduceLeDiff, Nat.reduceEqDiff, Int.reduceToNat, Int.reduceLE, Int.reduceLT, Int.reduceEq, Int.reduceNeg, reduceCtorEq, reduceIte, decide_true, decide_false, List.forall_mem_cons, List.not_mem_nil, false_implies, implies_true, Bool.and_true, Bool.true_and, and_self, Nat.sub_zero, Nat.zero_add, Nat.add_zero]
        refine hK _ ?_; try clear hK K
        refine WC.trim [0, 2, 3, 4, 5, 6, 7, 8, 9, 11, 25, 34, 38, 40, 47, 49, 50, 51, 52, 65] ?_
        simp only [ET, Nat.reduceEqDiff, reduceIte]
        refine WC.ret ?_
        simp (maxSteps := 1000000) only [↓yld_succ, ↓yld_zero, EV, EO, ED, ↓EW, ↓EI, EB, EP, EL, tyq_0, tz_0, tyq_3, inq_3, tz_3, tyq_4, bool_4, tz_4, tyq_5, inq_5, tz_5, tyq_9, str_9, tz_9, tyq_33, inq_33, tz_33, tyq_38, slq_38, tz_38, tyq_45, ptq_45, tz_45, tyq_47, fq_47_0, fq_47_1, fq_47_2, fq_47_3, bq_47, feq_47, tz_47, tyq_49, tz_49, tyq_58, tz_58, tyq_60, fq_60_0, bq_60, feq_60, tz_60, Nat.reduceAdd, Nat.reduceSub, Nat.reduceMul, Nat.reduceLT, Nat.reduceLeDiff, Nat.reduceEqDiff, Int.reduceToNat, Int.reduceLE, Int.reduceLT, Int.reduceEq, Int.reduceNeg, reduceCtorEq, reduceIte, decide_true, decide_false, List.forall_mem_cons, List.not_mem_nil, false_implies, implies_true, Bool.and_true, Bool.true_and, and_self, Nat.sub_zero, Nat.zero_add, Nat.add_zero, EQ, FnQ, Tryd.results22, wResL, tup, List.reverse_cons, List.reverse_nil, true_and]
        refine endsSame (by simp only [CL, and_self]) (closedBs_cons (fun f => rfl) closedBs_nil) ⟨?_, rfl⟩
        rw [tokenF, if_pos hw, hr, if_neg hk, if_neg h12]; rfl
  · have hw : ¬ wordI false (gb s a) = true := by simp [h]
    refine WC.rs fun K hK => ?_
    simp (maxSteps := 1000000) only [↓yld_succ, ↓yld_zero, EV, EO, ED, ↓EW, ↓EI, EB, EP, EL, tyq_0, tz_0, tyq_3, inq_3, tz_3, tyq_4, bool_4, tz_4, tyq_5, inq_5, tz_5, tyq_9, str_9, tz_9, tyq_33, inq_33, tz_33, tyq_38, slq_38, tz_38, tyq_45, ptq_45, tz_45, tyq_47, fq_47_0, fq_47_1, fq_47_2, fq_47_3, bq_47, feq_47, tz_47, tyq_49, tz_49, tyq_58, tz_58, tyq_60, fq_60_0, bq_60, feq_60, tz_60, Nat.reduceAdd, Nat.reduceSub, Nat.reduceMul, Nat.reduceLT, Nat.reduceLeDiff, Nat.reduceEqDiff, Int.reduceToNat, Int.reduceLE, Int.reduceLT, Int.reduceEq, Int.reduceNeg, reduceCtorEq, reduceIte, decide_true, decide_false, List.forall_mem_cons, List.not_mem_nil, false_implies, implies_true, Bool.and_true, Bool.true_and, and_self, Nat.sub_zero, Nat.zero_add, Nat.add_zero]
    refine CallX.mk (CallW.pure (digit_sem _) (by simp only [CL, and_self]) (by simp only [CL]) ?_)
    simp (maxSteps := 1000000) only [↓yld_succ, ↓yld_zero, EV, EO, ED, ↓EW, ↓EI, EB, EP, EL, tyq_0, tz_0, tyq_3, inq_3, tz_3, tyq_4, bool_4, tz_4, tyq_5, inq_5, tz_5, tyq_9, str_9, tz_9, tyq_33, inq_33, tz_33, tyq_38, slq_38, tz_38, tyq_45, ptq_45, tz_45, tyq_47, fq_47_0, fq_47_1, fq_47_2, fq_47_3, bq_47, feq_47, tz_47, tyq_49, tz_49, tyq_58, tz_58, tyq_60, fq_60_0, bq_60, feq_60, tz_60, Nat.reduceAdd, Nat.reduceSub, Nat.reduceMul, Nat.reduceLT, Nat.reduceLeDiff, Nat.reduceEqDiff, Int.reduceToNat, Int.reduceLE, Int.reduceLT, Int.reduceEq, Int.reduceNeg, reduceCtorEq, reduceIte, decide_true, decide_false, List.forall_mem_cons, List.not_mem_nil, false_implies, implies_true, Bool.and_true, Bool.true_and, and_self, Nat.sub_zero, Nat.zero_add, Nat.add_zero]
    refine hK _ ?_; try clear hK K
    refine WC.trim [0, 2, 3, 4, 5, 6, 7, 8, 9, 11, 25, 34, 38, 40, 47, 49, 50, 51, 52, 65] ?_
    simp only [ET, Nat.reduceEqDiff, reduceIte]
    refine WC.cond (c := .tmp 40) rfl (fun h => ?_) (fun h => ?_)
    · have hd : digitI (gb s a) = true := h
      refine WC.rs fun K hK => ?_
      simp (maxSteps := 1000000) only [↓yld_succ, ↓yld_zero, EV, EO, ED, ↓EW, ↓EI, EB, EP, EL, tyq_0, tz_0, tyq_3, inq_3, tz_3, tyq_4, bool_4, tz_4, tyq_5, inq_5, tz_5, tyq_9, str_9, tz_9, tyq_33, inq_33, tz_33, tyq_38, slq_38, tz_38, tyq_45, ptq_45, tz_45, tyq_47, fq_47_0, fq_47_1, fq_47_2, fq_47_3, bq_47, feq_47, tz_47, tyq_49, tz_49, tyq_58, tz_58, tyq_60, fq_60_0, bq_60, feq_60, tz_60, Nat.reduceAdd, Nat.reduceSub, Nat.reduceMul, Nat.reduceLT, Nat.reduceLeDiff, Nat.reduceEqDiff, Int.reduceToNat, Int.reduceLE, Int.reduceLT, Int.reduceEq, Int.reduceNeg, reduceCtorEq, reduceIte, decide_true, decide_false, List.forall_mem_cons, List.not_mem_nil, false_implies, implies_true, Bool.and_true, Bool.true_and, and_self, Nat.sub_zero, Nat.zero_add, Nat.add_zero]
      refine CallX.mk (CallW.one (r := .o 0) (run_sem s hs a l c (Nat.le_of_lt ha) 29 [] (by simp only [CL]) digitI (fun x => digit_sem x)) rfl (rd_closed _ _ _ _) (rd_closed _ _ _ _) (by simp only [CL]) (by simp [renL, ren, fCall]) ?_)
      simp (maxSteps := 1000000) only [↓yld_succ, ↓yld_zero, EV, EO, ED, ↓EW, ↓EI, EB, EP, EL, tyq_0, tz_0, tyq_3, inq_3, tz_3, tyq_4, bool_4, tz_4, tyq_5, inq_5, tz_5, tyq_9, str_9, tz_9, tyq_33, inq_33, tz_33, tyq_38, slq_38, tz_38, tyq_45, ptq_45, tz_45, tyq_47, fq_47_0, fq_47_1, fq_47_2, fq_47_3, bq_47, feq_47, tz_47, tyq_49, tz_49, tyq_58, tz_58, tyq_60, fq_60_0, bq_60, feq_60, tz_60, Nat.reduceAdd, Nat.reduceSub, Nat.reduceMul, Nat.reduceLT, Nat.reduceLeDiff, Nat.reduceEqDiff, Int.reduceToNat, Int.reduceLE, Int.reduceLT, Int.reduceEq, Int.reduceNeg, reduceCtorEq, reduceIte, decide_true, decide_false, List.forall_mem_cons, List.not_mem_nil, false_implies, implies_true, Bool.and_true, Bool.true_and, and_self, Nat.sub_zero, Nat.zero_add, Nat.add_zero, rd]
      refine hK _ ?_; try clear hK K
      refine WC.trim [0, 2, 3, 4, 5, 6, 7, 8, 9, 11, 25, 34, 38, 40, 47, 49, 50, 51, 52, 65] ?_
      simp only [ET, Nat.reduceEqDiff, reduceIte]
      rw [show (s.drop a).take (runTo digitI s (s.length - a) a - a) = runAt digitI s a from rfl]
      generalize hr : runAt digitI s a = w
      have hwl : w.length ≤ s.length := by
        rw [← hr, runAt, List.length_take, List.length_drop]; omega
      refine WC.sK fun K4 hK4 => ?_
      refine WC.rs fun K hK => ?_
      simp (maxSteps := 1000000) only [↓yld_succ, ↓yld_zero, EV, EO, ED, ↓EW, ↓EI, EB, EP, EL, tyq_0, tz_0, tyq_3, inq_3, tz_3, tyq_4, bool_4, tz_4, tyq_5, inq_5, tz_5, tyq_9, str_9, tz_9, tyq_33, inq_33, tz_33, tyq_38, slq_38, tz_38, tyq_45, ptq_45, tz_45, tyq_47, fq_47_0, fq_47_1, fq_47_2, fq_47_3, bq_47, feq_47, tz_47, tyq_49, tz_49, tyq_58, tz_58, tyq_60, fq_60_0, bq_60, feq_60, tz_60, Nat.reduceAdd, Nat.reduceSub, Nat.reduceMul, Nat.reduceLT, Nat.reduceLeDiff, Nat.reduceEqDiff, Int.reduceToNat, Int.reduceLE, Int.reduceLT, Int.reduceEq, Int.reduceNeg, reduceCtorEq, reduceIte, decide_true, decide_false, List.forall_mem_cons, List.not_mem_nil, false_implies, implies_true, Bool.and_true, Bool.true_and, and_self, Nat.sub_zero, Nat.zero_add, Nat.add_zero]
      refine hK _ ?_; try clear hK K
      refine WC.trim [0, 2, 3, 4, 5, 6, 7, 8, 9, 11, 25, 34, 38, 40, 47, 49, 50, 51, 52, 65] ?_
      simp only [ET, Nat.reduceEqDiff, reduceIte]
      refine WC.cond (c := .tmp 47) rfl (fun h => ?_) (fun h => ?_)
      · have h60 : 60 < w.length := by simp at h; omega
        refine WC.rs fun K hK => ?_
        simp (maxSteps := 1000000) only [↓yld_succ, ↓yld_zero, EV, EO, ED, ↓EW, ↓EI, EB, EP, EL, tyq_0, tz_0, tyq_3, inq_3, tz_3, tyq_4, bool_4, tz_4, tyq_5, inq_5, tz_5, tyq_9, str_9, tz_9, tyq_33, inq_33, tz_33, tyq_38, slq_38, tz_38, tyq_45, ptq_45, tz_45, tyq_47, fq_47_0, fq_47_1, fq_47_2, fq_47_3, bq_47, feq_47, tz_47, tyq_49, tz_49, tyq_58, tz_58, tyq_60, fq_60_0, bq_60, feq_60, tz_60, Nat.reduceAdd, Nat.reduceSub, Nat.reduceMul, Nat.reduceLT, Nat.reduceLeDiff, Nat.reduceEqDiff, Int.reduceToNat, Int.reduceLE, Int.reduceLT, Int.reduceEq, Int.reduceNeg, reduceCtorEq, reduceIte, decide_true, decide_false, List.forall_mem_cons, List.not_mem_nil, false_implies, implies_true, Bool.and_true, Bool.true_and, and_self, Nat.sub_zero, Nat.zero_add, Nat.add_zero]
        refine hK _ ?_; try clear hK K
        refine WC.trim [0, 2, 3, 4, 5, 6, 7, 8, 9, 11, 25, 34, 38, 40, 47, 49, 50, 51, 52, 65] ?_
        simp only [ET, Nat.reduceEqDiff, reduceIte]
        refine WC.ret ?_
        simp (maxSteps := 1000000) only [↓yld_succ, ↓yld_zero, EV, EO, ED, ↓EW, ↓EI, EB, EP, EL, tyq_0, tz_0, tyq_3, inq_3, tz_3, tyq_4, bool_4, tz_4, tyq_5, inq_5, tz_5, tyq_9, str_9, tz_9, tyq_33, inq_33, tz_33, tyq_38, slq_38, tz_38, tyq_45, ptq_45, tz_45, tyq_47, fq_47_0, fq_47_1, fq_47_2, fq_47_3, bq_47, feq_47, tz_47, tyq_49, tz_49, tyq_58, tz_58, tyq_60, fq_60_0, bq_60, feq_60, tz_60, Nat.reduceAdd, Nat.reduceSub, Nat.reduceMul, Nat.reduceLT, Nat.reduceLeDiff, Nat.reduceEqDiff, Int.reduceToNat, Int.reduceLE, Int.reduceLT, Int.reduceEq, Int.reduceNeg, reduceCtorEq, reduceIte, decide_true, decide_false, List.forall_mem_cons, List.not_mem_nil, false_implies, implies_true, Bool.and_true, Bool.true_and, and_self, Nat.sub_zero, Nat.zero_add, Nat.add_zero, EQ, FnQ, Tryd.results22, wResL, tup, List.reverse_cons, List.reverse_nil, true_and]
        refine endsSame (by simp only [CL, and_self]) (closedBs_cons (fun f => rfl) closedBs_nil) ⟨?_, rfl⟩
        rw [tokenF, if_neg hw, if_pos hd, hr, if_pos h60]; rfl
      · have h60 : ¬ 60 < w.length := by simp at h; omega
        refine WC.skip ?_
        try simp only [EQ, reduceIte, Nat.reduceEqDiff]
        refine hK4 _ ?_; try clear hK4 K4
        refine WC.rs fun K hK => ?_
        simp (maxSteps := 1000000) only [↓yld_succ, ↓yld_zero, EV, EO, ED, ↓EW, ↓EI, EB, EP, EL, tyq_0, tz_0, tyq_3, inq_3, tz_3, tyq_4, bool_4, tz_4, tyq_5, inq_5, tz_5, tyq_9, str_9, tz_9, tyq_33, inq_33, tz_33, tyq_38, slq_38, tz_38, tyq_45, ptq_45, tz_45, tyq_47, fq_47_0, fq_47_1, fq_47_2, fq_47_3, bq_47, feq_47, tz_47, tyq_49, tz_49, tyq_58, tz_58, tyq_60, fq_60_0, bq_60, feq_60, tz_60, Nat.reduceAdd, Nat.reduceSub, Nat.reduceMul, Nat.reduceLT, Nat.reduceLeDiff, Nat.reduceEqDiff, Int.reduceToNat, Int.reduceLE, Int.reduceLT, Int.reduceEq, Int.reduceNeg, reduceCtorEq, reduceIte, decide_true, decide_false, List.forall_mem_cons, List.not_mem_nil, false_implies, implies_true, Bool.and_true, Bool.true_and, and_self, Nat.sub_zero, Nat.zero_add, Nat.add_zero]
        refine hK _ ?_; try clear hK K
        refine WC.trim [0, 2, 3, 4, 5, 6, 7, 8, 9, 11, 25, 34, 38, 40, 47, 49, 50, 51, 52, 65] ?_
        simp only [ET, Nat.reduceEqDiff, reduceIte]
        refine WC.ret ?_
        simp (maxSteps := 1000000) only [↓yld_succ, ↓yld_zero, EV, EO, ED, ↓EW, ↓EI, EB, EP, EL, tyq_0, tz_0, tyq_3, inq_3, tz_3, tyq_4, bool_4, tz_4, tyq_5, inq_5, tz_5, tyq_9, str_9, tz_9, tyq_33, inq_33, tz_33, tyq_38, slq_38, tz_38, tyq_45, ptq_45, tz_45, tyq_47, fq_47_0, fq_47_1, fq_47_2, fq_47_3, bq_47, feq_47, tz_47, tyq_49, tz_49, tyq_58, tz_58, tyq_60, fq_60_0, bq_60, feq_60, tz_60, Nat.reduceAdd, Nat.reduceSub, Nat.reduceMul, Nat.reduceLT, Nat.reduceLeDiff, Nat.reduceEqDiff, Int.reduceToNat, Int.reduceLE, Int.reduceLT, Int.reduceEq, Int.reduceNeg, reduceCtorEq, reduceIte, decide_true, decide_false, List.forall_mem_cons, List.not_mem_nil, false_implies, implies_true, Bool.and_true, Bool.true_and, and_self, Nat.sub_zero, Nat.zero_add, Nat.add_zero, EQ, FnQ, Tryd.results22, wResL, tup, List.reverse_cons, List.reverse_nil, true_and]
        refine endsSame (by simp only [CL, and_self]) (closedBs_cons (fun f => rfl) closedBs_nil) ⟨?_, rfl⟩
        rw [tokenF, if_neg hw, if_pos hd, hr, if_neg h60]; rfl
    · have hd : ¬ digitI (gb s a) = true := by simp [h]
      refine WC.skip ?_
      try simp only [EQ, reduceIte, Nat.reduceEqDiff]
      refine hK1 _ ?_; try clear hK1 K1
      refine WC.sK fun K5 hK5 => ?_
      refine WC.rs fun K hK => ?_
      simp (maxSteps := 1000000) only [↓yld_succ, ↓yld_zero, EV, EO, ED, ↓EW, ↓EI, EB, EP, EL, tyq_0, tz_0, tyq_3, inq_3, tz_3, tyq_4, bool_4, tz_4, tyq_5, inq_5, tz_5, tyq_9, str_9, tz_9, tyq_33, inq_33, tz_33, tyq_38, slq_38, tz_38, tyq_45, ptq_45, tz_45, tyq_47, fq_47_0, fq_47_1, fq_47_2, fq_47_3, bq_47, feq_47, tz_47, tyq_49, tz_49, tyq_58, tz_58, tyq_60, fq_60_0, bq_60, feq_60, tz_60, Nat.reduceAdd, Nat.reduceSub, Nat.reduceMul, Nat.reduceLT, Nat.reduceLeDiff, Nat.reduceEqDiff, Int.reduceToNat, Int.reduceLE, Int.reduceLT, Int.reduceEq, Int.reduceNeg, reduceCtorEq, reduceIte, decide_true, decide_false, List.forall_mem_cons, List.not_mem_nil, false_implies, implies_true, Bool.and_true, Bool.true_and, and_self, Nat.sub_zero, Nat.zero_add, Nat.add_zero]
      refine CallX.mk (CallW.pure hsg (by simp only [CL]) (by simp only [CL, strs_closed]) ?_)
      simp (maxSteps := 1000000) only [↓yld_succ, ↓yld_zero, EV, EO, ED, ↓EW, ↓EI, EB, EP, EL, tyq_0, tz_0, tyq_3, inq_3, tz_3, tyq_4, bool_4, tz_4, tyq_5, inq_5, tz_5, tyq_9, str_9, tz_9, tyq_33, inq_33, tz_33, tyq_38, slq_38, tz_38, tyq_45, ptq_45, tz_45, tyq_47, fq_47_0, fq_47_1, fq_47_2, fq_47_3, bq_47, feq_47, tz_47, tyq_49, tz_49, tyq_58, tz_58, tyq_60, fq_60_0, bq_60, feq_60, tz_60, Nat.reduceAdd, Nat.reduceSub, Nat.reduceMul, Nat.reduceLT, Nat.reduceLeDiff, Nat.reduceEqDiff, Int.reduceToNat, Int.reduceLE, Int.reduceLT, Int.reduceEq, Int.reduceNeg, reduceCtorEq, reduceIte, decide_true, decide_false, List.forall_mem_cons, List.not_mem_nil, false_implies, implies_true, Bool.and_true, Bool.true_and, and_self, Nat.sub_zero, Nat.zero_add, Nat.add_zero, List.length_map]
      refine hK _ ?_; try clear hK K
      refine WC.trim [0, 2, 3, 4, 5, 6, 7, 8, 9, 11, 25, 34, 38, 40, 47, 49, 50, 51, 52, 65] ?_
      simp only [ET, Nat.reduceEqDiff, reduceIte]
      refine WC.b1 ?_
      have hsl : sgs.length = 26 := rfl
      refine WC.loop (X := Nat) (fun i => ⟨[(51, .int .i64 i), (50, .int .i64 sgs.length), (49, .slc (sgs.map .str)), (4, .int .i64 0), (3, .str []), (2, .int .i64 0), (0, .ptr (.o 0) 0 0)], [rd s a l c], [], []⟩)
        (fun i => i ≤ 26 ∧ signAt (s.drop a) (sgs.drop i) = signAt (s.drop a) sgs) (fun i => 26 - i) 0 [] ⟨Nat.zero_le _, rfl⟩ ?_ ?_
      · refine ⟨by simp, by simp (maxSteps := 1000000) only [↓yld_succ, ↓yld_zero, EV, EO, ED, ↓EW, ↓EI, EB, EP, EL, tyq_0, tz_0, tyq_3, inq_3, tz_3, tyq_4, bool_4, tz_4, tyq_5, inq_5, tz_5, tyq_9, str_9, tz_9, tyq_33, inq_33, tz_33, tyq_38, slq_38, tz_38, tyq_45, ptq_45, tz_45, tyq_47, fq_47_0, fq_47_1, fq_47_2, fq_47_3, bq_47, feq_47, tz_47, tyq_49, tz_49, tyq_58, tz_58, tyq_60, fq_60_0, bq_60, feq_60, tz_60, Nat.reduceAdd, Nat.reduceSub, Nat.reduceMul, Nat.reduceLT, Nat.reduceLeDiff, Nat.reduceEqDiff, Int.reduceToNat, Int.reduceLE, Int.reduceLT, Int.reduceEq, Int.reduceNeg, reduceCtorEq, reduceIte, decide_true, decide_false, List.forall_mem_cons, List.not_mem_nil, false_implies, implies_true, Bool.and_true, Bool.true_and, and_self, Nat.sub_zero, Nat.zero_add, Nat.add_zero, ER, and_self, rd, strs_closed sgs _], by simp (maxSteps := 1000000) only [↓yld_succ, ↓yld_zero, EV, EO, ED, ↓EW, ↓EI, EB, EP, EL, tyq_0, tz_0, tyq_3, inq_3, tz_3, tyq_4, bool_4, tz_4, tyq_5, inq_5, tz_5, tyq_9, str_9, tz_9, tyq_33, inq_33, tz_33, tyq_38, slq_38, tz_38, tyq_45, ptq_45, tz_45, tyq_47, fq_47_0, fq_47_1, fq_47_2, fq_47_3, bq_47, feq_47, tz_47, tyq_49, tz_49, tyq_58, tz_58, tyq_60, fq_60_0, bq_60, feq_60, tz_60, Nat.reduceAdd, Nat.reduceSub, Nat.reduceMul, Nat.reduceLT, Nat.reduceLeDiff, Nat.reduceEqDiff, Int.reduceToNat, Int.reduceLE, Int.reduceLT, Int.reduceEq, Int.reduceNeg, reduceCtorEq, reduceIte, decide_true, decide_false, List.forall_mem_cons, List.not_mem_nil, false_implies, implies_true, Bool.and_true, Bool.true_and, and_self, Nat.sub_zero, Nat.zero_add, Nat.add_zero, ER, rd, strs_closed sgs _], by simp (maxSteps := 1000000) only [↓yld_succ, ↓yld_zero, EV, EO, ED, ↓EW, ↓EI, EB, EP, EL, tyq_0, tz_0, tyq_3, inq_3, tz_3, tyq_4, bool_4, tz_4, tyq_5, inq_5, tz_5, tyq_9, str_9, tz_9, tyq_33, inq_33, tz_33, tyq_38, slq_38, tz_38, tyq_45, ptq_45, tz_45, tyq_47, fq_47_0, fq_47_1, fq_47_2, fq_47_3, bq_47, feq_47, tz_47, tyq_49, tz_49, tyq_58, tz_58, tyq_60, fq_60_0, bq_60, feq_60, tz_60, Nat.reduceAdd, Nat.reduceSub, Nat.reduceMul, Nat.reduceLT, Nat.reduceLeDiff, Nat.reduceEqDiff, Int.reduceToNat, Int.reduceLE, Int.reduceLT, Int.reduceEq, Int.reduceNeg, reduceCtorEq, reduceIte, decide_true, decide_false, List.forall_mem_cons, List.not_mem_nil, false_implies, implies_true, Bool.and_true, Bool.true_and, and_self, Nat.sub_zero, Nat.zero_add, Nat.add_zero, ER, pick, rd, strs_closed sgs _], rfl⟩
      · rintro i ⟨h1, h2⟩
        refine WC.rs fun K hK => ?_
        simp (maxSteps := 1000000) only [↓yld_succ, ↓yld_zero, EV, EO, ED, ↓EW, ↓EI, EB, EP, EL, tyq_0, tz_0, tyq_3, inq_3, tz_3, tyq_4, bool_4, tz_4, tyq_5, inq_5, tz_5, tyq_9, str_9, tz_9, tyq_33, inq_33, tz_33, tyq_38, slq_38, tz_38, tyq_45, ptq_45, tz_45, tyq_47, fq_47_0, fq_47_1, fq_47_2, fq_47_3, bq_47, feq_47, tz_47, tyq_49, tz_49, tyq_58, tz_58, tyq_60, fq_60_0, bq_60, feq_60, tz_60, Nat.reduceAdd, Nat.reduceSub, Nat.reduceMul, Nat.reduceLT, Nat.reduceLeDiff, Nat.reduceEqDiff, Int.reduceToNat, Int.reduceLE, Int.reduceLT, Int.reduceEq, Int.reduceNeg, reduceCtorEq, reduceIte, decide_true, decide_false, List.forall_mem_cons, List.not_mem_nil, false_implies, implies_true, Bool.and_true, Bool.true_and, and_self, Nat.sub_zero, Nat.zero_add, Nat.add_zero]
        refine hK _ ?_; try clear hK K
        refine WC.trim [0, 2, 3, 4, 5, 6, 7, 8, 9, 11, 25, 34, 38, 40, 47, 49, 50, 51, 52, 65] ?_
        simp only [ET, Nat.reduceEqDiff, reduceIte]
        refine WC.cs (c := .tmp 52) rfl fun K6 hK6 => ⟨fun h => ?_, fun h => ?_⟩
        · have hlt : i < sgs.length := by rw [hsl]; simp at h; omega
          have hg := gi_map .str sgs hlt
          refine WC.skip ?_
          simp only [EQ]
          refine hK6 _ ?_; try clear hK6 K6
          refine WC.bs fun K7 hK7 => ?_
          refine WC.rs fun K hK => ?_
          simp (maxSteps := 1000000) only [↓yld_succ, ↓yld_zero, EV, EO, ED, ↓EW, ↓EI, EB, EP, EL, tyq_0, tz_0, tyq_3, inq_3, tz_3, tyq_4, bool_4, tz_4, tyq_5, inq_5, tz_5, tyq_9, str_9, tz_9, tyq_33, inq_33, tz_33, tyq_38, slq_38, tz_38, tyq_45, ptq_45, tz_45, tyq_47, fq_47_0, fq_47_1, fq_47_2, fq_47_3, bq_47, feq_47, tz_47, tyq_49, tz_49, tyq_58, tz_58, tyq_60, fq_60_0, bq_60, feq_60, tz_60, Nat.reduceAdd, Nat.reduceSub, Nat.reduceMul, Nat.reduceLT, Nat.reduceLeDiff, Nat.reduceEqDiff, Int.reduceToNat, Int.reduceLE, Int.reduceLT, Int.reduceEq, Int.reduceNeg, reduceCtorEq, reduceIte, decide_true, decide_false, List.forall_mem_cons, List.not_mem_nil, false_implies, implies_true, Bool.and_true, Bool.true_and, and_self, Nat.sub_zero, Nat.zero_add, Nat.add_zero, hg, List.length_map]
          repeat refine ⟨by omega, ?_⟩
          refine hK _ ?_; try clear hK K
          refine WC.trim [0, 2, 3, 4, 5, 6, 7, 8, 9, 11, 25, 34, 38, 40, 47, 49, 50, 51, 52, 65] ?_
          simp only [ET, Nat.reduceEqDiff, reduceIte]
          have htk : (s.drop a).take (s.length - a) = s.drop a := List.take_of_length_le (by simp)
          refine WC.ds [⟨0, 0, false, []⟩, ⟨1, 0, false, []⟩, ⟨2, 0, false, []⟩, ⟨3, 0, false, []⟩, ⟨4, 0, false, []⟩, ⟨5, 0, false, []⟩, ⟨6, 0, false, []⟩, ⟨7, 0, false, []⟩, ⟨8, 0, false, []⟩, ⟨9, 0, false, []⟩, ⟨10, 1, false, []⟩] [0, 1, 3, 7, 0, 16, 48, 112, 255, 0, 1023] mo (by kernel_rfl) (by simp only [EPl, List.getElem?_cons_zero, List.getElem?_cons_succ]; rfl) fun K hK => ?_
          simp (maxSteps := 1000000) only [↓yld_succ, ↓yld_zero, EV, EO, ED, ↓EW, ↓EI, EB, EP, EL, tyq_0, tz_0, tyq_3, inq_3, tz_3, tyq_4, bool_4, tz_4, tyq_5, inq_5, tz_5, tyq_9, str_9, tz_9, tyq_33, inq_33, tz_33, tyq_38, slq_38, tz_38, tyq_45, ptq_45, tz_45, tyq_47, fq_47_0, fq_47_1, fq_47_2, fq_47_3, bq_47, feq_47, tz_47, tyq_49, tz_49, tyq_58, tz_58, tyq_60, fq_60_0, bq_60, feq_60, tz_60, Nat.reduceAdd, Nat.reduceSub, Nat.reduceMul, Nat.reduceLT, Nat.reduceLeDiff, Nat.reduceEqDiff, Int.reduceToNat, Int.reduceLE, Int.reduceLT, Int.reduceEq, Int.reduceNeg, reduceCtorEq, reduceIte, decide_true, decide_false, List.forall_mem_cons, List.not_mem_nil, false_implies, implies_true, Bool.and_true, Bool.true_and, and_self, Nat.sub_zero, Nat.zero_add, Nat.add_zero, rd, htk]
          repeat refine ⟨by omega, ?_⟩
          refine CallX.mk (CallW.pure (hasPrefix_sem (s.drop a) sgs[i]) (by simp only [CL, and_self]) (by simp only [CL]) ?_)
          simp (maxSteps := 1000000) only [↓yld_succ, ↓yld_zero, EV, EO, ED, ↓EW, ↓EI, EB, EP, EL, tyq_0, tz_0, tyq_3, inq_3, tz_3, tyq_4, bool_4, tz_4, tyq_5, inq_5, tz_5, tyq_9, str_9, tz_9, tyq_33, inq_33, tz_33, tyq_38, slq_38, tz_38, tyq_45, ptq_45, tz_45, tyq_47, fq_47_0, fq_47_1, fq_47_2, fq_47_3, bq_47, feq_47, tz_47, tyq_49, tz_49, tyq_58, tz_58, tyq_60, fq_60_0, bq_60, feq_60, tz_60, Nat.reduceAdd, Nat.reduceSub, Nat.reduceMul, Nat.reduceLT, Nat.reduceLeDiff, Nat.reduceEqDiff, Int.reduceToNat, Int.reduceLE, Int.reduceLT, Int.reduceEq, Int.reduceNeg, reduceCtorEq, reduceIte, decide_true, decide_false, List.forall_mem_cons, List.not_mem_nil, false_implies, implies_true, Bool.and_true, Bool.true_and, and_self, Nat.sub_zero, Nat.zero_add, Nat.add_zero]
          refine hK _ ?_; try clear hK K
          refine WC.trim [0, 2, 3, 4, 5, 6, 7, 8, 9, 11, 25, 34, 38, 40, 47, 49, 50, 51, 52, 65] ?_
          simp only [ET, Nat.reduceEqDiff, reduceIte]
          refine WC.cond (c := .tmp 65) rfl (fun h => ?_) (fun h => ?_)
          · have hp : sgs[i].length ≤ (s.drop a).length ∧ (s.drop a).take sgs[i].length = sgs[i] := by simpa using h
            refine WC.rs fun K hK => ?_
            simp (maxSteps := 1000000) only [↓yld_succ, ↓yld_zero, EV, EO, ED, ↓EW, ↓EI, EB, EP, EL, tyq_0, tz_0, tyq_3, inq_3, tz_3, tyq_4, bool_4, tz_4, tyq_5, inq_5, tz_5, tyq_9, str_9, tz_9, tyq_33, inq_33, tz_33, tyq_38, slq_38, tz_38, tyq_45, ptq_45, tz_45, tyq_47, fq_47_0, fq_47_1, fq_47_2, fq_47_3, bq_47, feq_47, tz_47, tyq_49, tz_49, tyq_58, tz_58, tyq_60, fq_60_0, bq_60, feq_60, tz_60, Nat.reduceAdd, Nat.reduceSub, Nat.reduceMul, Nat.reduceLT, Nat.reduceLeDiff, Nat.reduceEqDiff, Int.reduceToNat, Int.reduceLE, Int.reduceLT, Int.reduceEq, Int.reduceNeg, reduceCtorEq, reduceIte, decide_true, decide_false, List.forall_mem_cons, List.not_mem_nil, false_implies, implies_true, Bool.and_true, Bool.true_and, and_self, Nat.sub_zero, Nat.zero_add, Nat.add_zero]
            refine hK _ ?_; try clear hK K
            refine WC.trim [0, 2, 3, 4, 5, 6, 7, 8, 9, 11, 25, 34, 38, 40, 47, 49, 50, 51, 52, 65] ?_
            simp only [ET, Nat.reduceEqDiff, reduceIte]
            refine WC.ret ?_
            simp (maxSteps := 1000000) only [↓yld_succ, ↓yld_zero, EV, EO, ED, ↓EW, ↓EI, EB, EP, EL, tyq_0, tz_0, tyq_3, inq_3, tz_3, tyq_4, bool_4, tz_4, tyq_5, inq_5, tz_5, tyq_9, str_9, tz_9, tyq_33, inq_33, tz_33, tyq_38, slq_38, tz_38, tyq_45, ptq_45, tz_45, tyq_47, fq_47_0, fq_47_1, fq_47_2, fq_47_3, bq_47, feq_47, tz_47, tyq_49, tz_49, tyq_58, tz_58, tyq_60, fq_60_0, bq_60, feq_60, tz_60, Nat.reduceAdd, Nat.reduceSub, Nat.reduceMul, Nat.reduceLT, Nat.reduceLeDiff, Nat.reduceEqDiff, Int.reduceToNat, Int.reduceLE, Int.reduceLT, Int.reduceEq, Int.reduceNeg, reduceCtorEq, reduceIte, decide_true, decide_false, List.forall_mem_cons, List.not_mem_nil, false_implies, implies_true, Bool.and_true, Bool.true_and, and_self, Nat.sub_zero, Nat.zero_add, Nat.add_zero, EQ, FnQ, Tryd.results22, wResL, tup, List.reverse_cons, List.reverse_nil, true_and]
            refine endsSame (by simp only [CL, and_self]) (closedBs_cons (fun f => rfl) closedBs_nil) ⟨?_, rfl⟩
            rw [tokenF, if_neg hw, if_neg hd, ← h2, drop_at hlt, signAt, if_pos hp]; rfl
          · have hp : ¬ (sgs[i].length ≤ (s.drop a).length ∧ (s.drop a).take sgs[i].length = sgs[i]) := by
              intro hh
              simp only [hh.1, hh.2] at h
              simp at h
            refine WC.skip ?_
            try simp only [EQ, reduceIte, Nat.reduceEqDiff]
            refine hK7 _ ?_; try clear hK7 K7
            refine WC.r1 ?_
            simp (maxSteps := 1000000) (disch := omega) only [↓yld_succ, ↓yld_zero, EV, EO, ED, ↓EW, ↓EI, EB, EP, EL, tyq_0, tz_0, tyq_3, inq_3, tz_3, tyq_4, bool_4, tz_4, tyq_5, inq_5, tz_5, tyq_9, str_9, tz_9, tyq_33, inq_33, tz_33, tyq_38, slq_38, tz_38, tyq_45, ptq_45, tz_45, tyq_47, fq_47_0, fq_47_1, fq_47_2, fq_47_3, bq_47, feq_47, tz_47, tyq_49, tz_49, tyq_58, tz_58, tyq_60, fq_60_0, bq_60, feq_60, tz_60, Nat.reduceAdd, Nat.reduceSub, Nat.reduceMul, Nat.reduceLT, Nat.reduceLeDiff, Nat.reduceEqDiff, Int.reduceToNat, Int.reduceLE, Int.reduceLT, Int.reduceEq, Int.reduceNeg, reduceCtorEq, reduceIte, decide_true, decide_false, List.forall_mem_cons, List.not_mem_nil, false_implies, implies_true, Bool.and_true, Bool.true_and, and_self, Nat.sub_zero, Nat.zero_add, Nat.add_zero, w64]
            try simp only [EQ, reduceIte, Nat.reduceEqDiff]
            refine ⟨i + 1, [], ⟨by omega, ?_⟩, by omega, ?_⟩
            · rw [← h2, drop_at hlt, signAt, if_neg hp]
            · refine ⟨by simp, by simp (maxSteps := 1000000) only [↓yld_succ, ↓yld_zero, EV, EO, ED, ↓EW, ↓EI, EB, EP, EL, tyq_0, tz_0, tyq_3, inq_3, tz_3, tyq_4, bool_4, tz_4, tyq_5, inq_5, tz_5, tyq_9, str_9, tz_9, tyq_33, inq_33, tz_33, tyq_38, slq_38, tz_38, tyq_45, ptq_45, tz_45, tyq_47, fq_47_0, fq_47_1, fq_47_2, fq_47_3, bq_47, feq_47, tz_47, tyq_49, tz_49, tyq_58, tz_58, tyq_60, fq_60_0, bq_60, feq_60, tz_60, Nat.reduceAdd, Nat.reduceSub, Nat.reduceMul, Nat.reduceLT, Nat.reduceLeDiff, Nat.reduceEqDiff, Int.reduceToNat, Int.reduceLE, Int.reduceLT, Int.reduceEq, Int.reduceNeg, reduceCtorEq, reduceIte, decide_true, decide_false, List.forall_mem_cons, List.not_mem_nil, false_implies, implies_true, Bool.and_true, Bool.true_and, and_self, Nat.sub_zero, Nat.zero_add, Nat.add_zero, ER, and_self, rd, Int.natCast_add, strs_closed sgs _], by simp (maxSteps := 1000000) only [↓yld_succ, ↓yld_zero, EV, EO, ED, ↓EW, ↓EI, EB, EP, EL, tyq_0, tz_0, tyq_3, inq_3, tz_3, tyq_4, bool_4, tz_4, tyq_5, inq_5, tz_5, tyq_9, str_9, tz_9, tyq_33, inq_33, tz_33, tyq_38, slq_38, tz_38, tyq_45, ptq_45, tz_45, tyq_47, fq_47_0, fq_47_1, fq_47_2, fq_47_3, bq_47, feq_47, tz_47, tyq_49, tz_49, tyq_58, tz_58, tyq_60, fq_60_0, bq_60, feq_60, tz_60, Nat.reduceAdd, Nat.reduceSub, Nat.reduceMul, Nat.reduceLT, Nat.reduceLeDiff, Nat.reduceEqDiff, Int.reduceToNat, Int.reduceLE, Int.reduceLT, Int.reduceEq, Int.reduceNeg, reduceCtorEq, reduceIte, decide_true, decide_false, List.forall_mem_cons, List.not_mem_nil, false_implies, implies_true, Bool.and_true, Bool.true_and, and_self, Nat.sub_zero, Nat.zero_add, Nat.add_zero, ER, rd, Int.natCast_add, strs_closed sgs _], by simp (maxSteps := 1000000) only [↓yld_succ, ↓yld_zero, EV, EO, ED, ↓EW, ↓EI, EB, EP, EL, tyq_0, tz_0, tyq_3, inq_3, tz_3, tyq_4, bool_4, tz_4, tyq_5, inq_5, tz_5, tyq_9, str_9, tz_9, tyq_33, inq_33, tz_33, tyq_38, slq_38, tz_38, tyq_45, ptq_45, tz_45, tyq_47, fq_47_0, fq_47_1, fq_47_2, fq_47_3, bq_47, feq_47, tz_47, tyq_49, tz_49, tyq_58, tz_58, tyq_60, fq_60_0, bq_60, feq_60, tz_60, Nat.reduceAdd, Nat.reduceSub, Nat.reduceMul, Nat.reduceLT, Nat.reduceLeDiff, Nat.reduceEqDiff, Int.reduceToNat, Int.reduceLE, Int.reduceLT, Int.reduceEq, Int.reduceNeg, reduceCtorEq, reduceIte, decide_true, decide_false, List.forall_mem_cons, List.not_mem_nil, false_implies, implies_true, Bool.and_true, Bool.true_and, and_self, Nat.sub_zero, Nat.zero_add, Nat.add_zero, ER, pick, rd, Int.natCast_add, strs_closed sgs _], rfl⟩
        · have hge : i = 26 := by simp [hsl] at h; omega
          refine WC.exit ?_
          simp only [EQ, reduceIte, Nat.reduceEqDiff]
          try simp only [EQ, reduceIte, Nat.reduceEqDiff]
          refine hK5 _ ?_; try clear hK5 K5
          refine WC.rs fun K hK => ?_
          simp (maxSteps := 1000000) only [↓yld_succ, ↓yld_zero, EV, EO, ED, ↓EW, ↓EI, EB, EP, EL, tyq_0, tz_0, tyq_3, inq_3, tz_3, tyq_4, bool_4, tz_4, tyq_5, inq_5, tz_5, tyq_9, str_9, tz_9, tyq_33, inq_33, tz_33, tyq_38, slq_38, tz_38, tyq_45, ptq_45, tz_45, tyq_47, fq_47_0, fq_47_1, fq_47_2, fq_47_3, bq_47, feq_47, tz_47, tyq_49, tz_49, tyq_58, tz_58, tyq_60, fq_60_0, bq_60, feq_60, tz_60, Nat.reduceAdd, Nat.reduceSub, Nat.reduceMul, Nat.reduceLT, Nat.reduceLeDiff, Nat.reduceEqDiff, Int.reduceToNat, Int.reduceLE, Int.reduceLT, Int.reduceEq, Int.reduceNeg, reduceCtorEq, reduceIte, decide_true, decide_false, List.forall_mem_cons, List.not_mem_nil, false_implies, implies_true, Bool.and_true, Bool.true_and, and_self, Nat.sub_zero, Nat.zero_add, Nat.add_zero]
          refine hK _ ?_; try clear hK K
          refine WC.trim [0, 2, 3, 4, 5, 6, 7, 8, 9, 11, 25, 34, 38, 40, 47, 49, 50, 51, 52, 65] ?_
          simp only [ET, Nat.reduceEqDiff, reduceIte]
          refine WC.ret ?_
          simp (maxSteps := 1000000) only [↓yld_succ, ↓yld_zero, EV, EO, ED, ↓EW, ↓EI, EB, EP, EL, tyq_0, tz_0, tyq_3, inq_3, tz_3, tyq_4, bool_4, tz_4, tyq_5, inq_5, tz_5, tyq_9, str_9, tz_9, tyq_33, inq_33, tz_33, tyq_38, slq_38, tz_38, tyq_45, ptq_45, tz_45, tyq_47, fq_47_0, fq_47_1, fq_47_2, fq_47_3, bq_47, feq_47, tz_47, tyq_49, tz_49, tyq_58, tz_58, tyq_60, fq_60_0, bq_60, feq_60, tz_60, Nat.reduceAdd, Nat.reduceSub, Nat.reduceMul, Nat.reduceLT, Nat.reduceLeDiff, Nat.reduceEqDiff, Int.reduceToNat, Int.reduceLE, Int.reduceLT, Int.reduceEq, Int.reduceNeg, reduceCtorEq, reduceIte, decide_true, decide_false, List.forall_mem_cons, List.not_mem_nil, false_implies, implies_true, Bool.and_true, Bool.true_and, and_self, Nat.sub_zero, Nat.zero_add, Nat.add_zero, EQ, FnQ, Tryd.results22, wResL, tup, List.reverse_cons, List.reverse_nil, true_and]
          refine endsSame (by simp only [CL, and_self]) (closedBs_cons (fun f => rfl) closedBs_nil) ⟨?_, rfl⟩
          have hn : signAt (s.drop a) sgs = none := by rw [← h2, hge, ← hsl, List.drop_length]; rfl
          rw [tokenF, if_neg hw, if_neg hd, hn]; rfl
end Go.LexSem
