import Derived.Test.YtednoahjadghnaaDoorLexP
set_option linter.unusedSimpArgs false
set_option linter.unusedVariables false
set_option linter.loopingSimpArgs false
namespace Go.LexSem
open Go Go.V Go.Proofs

/-! exactpplmake.Src: a list of numbers, read one by one. -/
def in64 (n : Int) : Prop := -9223372036854775808 ≤ n ∧ n ≤ 9223372036854775807
def src (xs : List Int) (at' : Nat) (sites : Int) : Blk := .row [.agg [.slc (xs.map (.int .i64)), .int .i64 at', .int .i64 sites]] 3 43
theorem ints_closed (xs : List Int) : ClosedL (xs.map (PVal.int .i64)) := ClosedL.map (fun t => fun _ => rfl) xs
theorem src_closed (xs : List Int) (a : Nat) (k : Int) : ClosedB (src xs a k) := fun f => by simp only [src, renB, renL, ren, ints_closed xs f]
/-- What reading a number leaves: the number, and the place. -/
def rawV (xs : List Int) (a : Nat) : Int := xs.getD a 0
def rawA (xs : List Int) (a : Nat) : Nat := if a < xs.length then a + 1 else a
def nV (xs : List Int) (a : Nat) (n : Int) : Int := if n < 1 then 0 else (rawV xs a).emod n
def nA (xs : List Int) (a : Nat) (n : Int) : Nat := if n < 1 then a else rawA xs a
theorem rawA_le {xs : List Int} {a : Nat} (h : a ≤ xs.length) : rawA xs a ≤ xs.length := by unfold rawA; split <;> omega
theorem nA_le {xs : List Int} {a : Nat} (h : a ≤ xs.length) (n : Int) : nA xs a n ≤ xs.length := by unfold nA; split; exact h; exact rawA_le h
theorem nV_nonneg (xs : List Int) (a : Nat) (n : Int) : 0 ≤ nV xs a n := by
  unfold nV; split
  · exact Int.le_refl _
  · exact Int.emod_nonneg _ (by omega)
theorem nV_lt (xs : List Int) (a : Nat) {n : Int} (h : 0 < n) : nV xs a n < n := by
  unfold nV; split
  · exact h
  · exact Int.emod_lt_of_pos _ h
theorem emod_tmod (x : Int) {n : Int} (hn : 0 < n) : x.emod n = if x.tmod n < 0 then x.tmod n + n else x.tmod n := by
  have := Int.tmod_eq_emod (a := x) (b := n)
  have h1 := Int.emod_nonneg x (show n ≠ 0 by omega)
  have h2 := Int.emod_lt_of_pos x hn
  show x % n = _
  have e : ((n.natAbs : Nat) : Int) = n := by omega
  split at this <;> split <;> omega
theorem rawV_in {xs : List Int} (h : ∀ n ∈ xs, in64 n) (a : Nat) : in64 (rawV xs a) := by
  unfold rawV
  rw [List.getD_eq_getElem?_getD]
  cases hq : xs[a]? with
  | none => exact ⟨by decide, by decide⟩
  | some v => exact h v (List.mem_of_getElem? hq)

theorem endsNewPtr {e : Env} {l : List Blk} {d : List PDef} {m i off : Nat} {k : Blk} {R : PVal → List Blk → Prop} (hm : l[m]? = some k) (hk : ClosedB k) (h : R (.ptr (.o 0) i off) [k]) : EndsIn ⟨e, [], l, d⟩ (.ptr (.l m) i off) R :=
  ⟨[m], .ptr (.o 0) i off, [k], by simp, by simpa using (List.getElem?_eq_some_iff.1 hm).1, rfl, rfl, fun j x hx => by
    cases j with
    | zero => simp at hx; subst hx; rw [hk]; exact hm
    | succ j => simp at hx, h⟩

/-- A call that hands back a pointer to a new block. -/
theorem CallW.new1 {g : FuncId} {args : List PVal} {σ : St} {K KP : PVal → St → Prop} {b : Blk} (spec : FSem C g args [] fun r st => r = .ret (.ptr (.o 0) 0 0) ∧ st = [b]) (ha : ClosedL args) (hb : ClosedB b)
    (h : K (.ptr (.l σ.l.length) 0 0) (pushBlk σ b)) : CallW C g args σ K KP :=
  CallW.of spec [] List.nodup_nil (ha _).symm rfl (fun j r k hr => by simp at hr) fun r st' ⟨h1, h2⟩ => by
    subst h1; subst h2
    simp only [List.map_cons, List.map_nil, hb _, setAll]
    exact h

theorem new_sem (xs : List Int) : FSem C 10 [.slc (xs.map (.int .i64))] [] fun r st => r = .ret (.ptr (.o 0) 0 0) ∧ st = [src (xs.take 1000) 0 0] := by
  refine FSem.enter' (C := C) (n := 11) Tryd.func10 rfl rfl ok_10 (by simp) ?_
  simp only [argEnv]
  refine WC.rs fun K hK => ?_
  simp (maxSteps := 1000000) only [↓yld_succ, ↓yld_zero, EV, EO, ED, ↓EW, ↓EI, EB, EP, EL, tyq_3, inq_3, tz_3, tyq_4, bool_4, tz_4, tyq_24, slq_24, tz_24, tyq_25, ptq_25, tz_25, tyq_43, fq_43_0, fq_43_1, fq_43_2, bq_43, feq_43, tz_43, Nat.reduceAdd, Nat.reduceSub, Nat.reduceMul, Nat.reduceLT, Nat.reduceLeDiff, Nat.reduceEqDiff, Int.reduceToNat, Int.reduceLE, Int.reduceLT, Int.reduceEq, Int.reduceNeg, reduceCtorEq, reduceIte, decide_true, decide_false, List.forall_mem_cons, List.not_mem_nil, false_implies, implies_true, Bool.and_true, Bool.true_and, and_self, Nat.sub_zero, Nat.zero_add, Nat.add_zero]
  refine hK _ ?_; try clear hK K
  refine WC.trim [0, 2, 5] ?_
  simp only [ET, Nat.reduceEqDiff, reduceIte]
  refine WC.sK fun K1 hK1 => ?_
  refine WC.rs fun K hK => ?_
  simp (maxSteps := 1000000) only [↓yld_succ, ↓yld_zero, EV, EO, ED, ↓EW, ↓EI, EB, EP, EL, tyq_3, inq_3, tz_3, tyq_4, bool_4, tz_4, tyq_24, slq_24, tz_24, tyq_25, ptq_25, tz_25, tyq_43, fq_43_0, fq_43_1, fq_43_2, bq_43, feq_43, tz_43, Nat.reduceAdd, Nat.reduceSub, Nat.reduceMul, Nat.reduceLT, Nat.reduceLeDiff, Nat.reduceEqDiff, Int.reduceToNat, Int.reduceLE, Int.reduceLT, Int.reduceEq, Int.reduceNeg, reduceCtorEq, reduceIte, decide_true, decide_false, List.forall_mem_cons, List.not_mem_nil, false_implies, implies_true, Bool.and_true, Bool.true_and, and_self, Nat.sub_zero, Nat.zero_add, Nat.add_zero, List.length_map]
  refine hK _ ?_; try clear hK K
  refine WC.trim [0, 2, 5] ?_
  simp only [ET, Nat.reduceEqDiff, reduceIte]
  refine WC.cond (c := .tmp 5) rfl (fun h => ?_) (fun h => ?_)
  · have hlt : 1000 < xs.length := by simp at h; omega
    refine WC.r1 ?_
    simp (maxSteps := 1000000) only [↓yld_succ, ↓yld_zero, EV, EO, ED, ↓EW, ↓EI, EB, EP, EL, tyq_3, inq_3, tz_3, tyq_4, bool_4, tz_4, tyq_24, slq_24, tz_24, tyq_25, ptq_25, tz_25, tyq_43, fq_43_0, fq_43_1, fq_43_2, bq_43, feq_43, tz_43, Nat.reduceAdd, Nat.reduceSub, Nat.reduceMul, Nat.reduceLT, Nat.reduceLeDiff, Nat.reduceEqDiff, Int.reduceToNat, Int.reduceLE, Int.reduceLT, Int.reduceEq, Int.reduceNeg, reduceCtorEq, reduceIte, decide_true, decide_false, List.forall_mem_cons, List.not_mem_nil, false_implies, implies_true, Bool.and_true, Bool.true_and, and_self, Nat.sub_zero, Nat.zero_add, Nat.add_zero, List.length_map]
    repeat refine ⟨by omega, ?_⟩
    refine ⟨fun x hx => ?_, ?_⟩
    · simp only [List.mem_map] at hx
      obtain ⟨y, _, rfl⟩ := hx
      rfl
    rw [← List.map_take]
    try simp only [EQ, reduceIte, Nat.reduceEqDiff]
    refine hK1 _ ?_; try clear hK1 K1
    refine WC.rs fun K hK => ?_
    simp (maxSteps := 1000000) only [↓yld_succ, ↓yld_zero, EV, EO, ED, ↓EW, ↓EI, EB, EP, EL, tyq_3, inq_3, tz_3, tyq_4, bool_4, tz_4, tyq_24, slq_24, tz_24, tyq_25, ptq_25, tz_25, tyq_43, fq_43_0, fq_43_1, fq_43_2, bq_43, feq_43, tz_43, Nat.reduceAdd, Nat.reduceSub, Nat.reduceMul, Nat.reduceLT, Nat.reduceLeDiff, Nat.reduceEqDiff, Int.reduceToNat, Int.reduceLE, Int.reduceLT, Int.reduceEq, Int.reduceNeg, reduceCtorEq, reduceIte, decide_true, decide_false, List.forall_mem_cons, List.not_mem_nil, false_implies, implies_true, Bool.and_true, Bool.true_and, and_self, Nat.sub_zero, Nat.zero_add, Nat.add_zero]
    refine hK _ ?_; try clear hK K
    refine WC.trim [0, 2, 5] ?_
    simp only [ET, Nat.reduceEqDiff, reduceIte]
    refine WC.ret ?_
    simp (maxSteps := 1000000) only [↓yld_succ, ↓yld_zero, EV, EO, ED, ↓EW, ↓EI, EB, EP, EL, tyq_3, inq_3, tz_3, tyq_4, bool_4, tz_4, tyq_24, slq_24, tz_24, tyq_25, ptq_25, tz_25, tyq_43, fq_43_0, fq_43_1, fq_43_2, bq_43, feq_43, tz_43, Nat.reduceAdd, Nat.reduceSub, Nat.reduceMul, Nat.reduceLT, Nat.reduceLeDiff, Nat.reduceEqDiff, Int.reduceToNat, Int.reduceLE, Int.reduceLT, Int.reduceEq, Int.reduceNeg, reduceCtorEq, reduceIte, decide_true, decide_false, List.forall_mem_cons, List.not_mem_nil, false_implies, implies_true, Bool.and_true, Bool.true_and, and_self, Nat.sub_zero, Nat.zero_add, Nat.add_zero, EQ, FnQ, Tryd.results10, wResL, tup, List.reverse_cons, List.reverse_nil, true_and]
    exact endsNewPtr rfl (src_closed (xs.take 1000) 0 0) ⟨rfl, rfl⟩
  · have hge : xs.length ≤ 1000 := by simp at h; omega
    refine WC.skip ?_
    try simp only [EQ, reduceIte, Nat.reduceEqDiff]
    refine hK1 _ ?_; try clear hK1 K1
    refine WC.rs fun K hK => ?_
    simp (maxSteps := 1000000) only [↓yld_succ, ↓yld_zero, EV, EO, ED, ↓EW, ↓EI, EB, EP, EL, tyq_3, inq_3, tz_3, tyq_4, bool_4, tz_4, tyq_24, slq_24, tz_24, tyq_25, ptq_25, tz_25, tyq_43, fq_43_0, fq_43_1, fq_43_2, bq_43, feq_43, tz_43, Nat.reduceAdd, Nat.reduceSub, Nat.reduceMul, Nat.reduceLT, Nat.reduceLeDiff, Nat.reduceEqDiff, Int.reduceToNat, Int.reduceLE, Int.reduceLT, Int.reduceEq, Int.reduceNeg, reduceCtorEq, reduceIte, decide_true, decide_false, List.forall_mem_cons, List.not_mem_nil, false_implies, implies_true, Bool.and_true, Bool.true_and, and_self, Nat.sub_zero, Nat.zero_add, Nat.add_zero]
    refine hK _ ?_; try clear hK K
    refine WC.trim [0, 2, 5] ?_
    simp only [ET, Nat.reduceEqDiff, reduceIte]
    refine WC.ret ?_
    simp (maxSteps := 1000000) only [↓yld_succ, ↓yld_zero, EV, EO, ED, ↓EW, ↓EI, EB, EP, EL, tyq_3, inq_3, tz_3, tyq_4, bool_4, tz_4, tyq_24, slq_24, tz_24, tyq_25, ptq_25, tz_25, tyq_43, fq_43_0, fq_43_1, fq_43_2, bq_43, feq_43, tz_43, Nat.reduceAdd, Nat.reduceSub, Nat.reduceMul, Nat.reduceLT, Nat.reduceLeDiff, Nat.reduceEqDiff, Int.reduceToNat, Int.reduceLE, Int.reduceLT, Int.reduceEq, Int.reduceNeg, reduceCtorEq, reduceIte, decide_true, decide_false, List.forall_mem_cons, List.not_mem_nil, false_implies, implies_true, Bool.and_true, Bool.true_and, and_self, Nat.sub_zero, Nat.zero_add, Nat.add_zero, EQ, FnQ, Tryd.results10, wResL, tup, List.reverse_cons, List.reverse_nil, true_and]
    exact endsNewPtr rfl (src_closed xs 0 0) ⟨rfl, by rw [List.take_of_length_le hge]; rfl⟩

theorem more_sem (xs : List Int) (a : Nat) (k : Int) (hl : xs.length ≤ 1000) : FSem C 11 [.ptr (.o 0) 0 0] [src xs a k] fun r st => r = .ret (.bool (decide (a < xs.length))) ∧ st = [src xs a k] := by
  refine FSem.enter' (C := C) (n := 13) Tryd.func11 rfl rfl ok_11 (by simp) ?_
  simp only [argEnv]
  refine WC.rs fun K hK => ?_
  simp (maxSteps := 1000000) only [↓yld_succ, ↓yld_zero, EV, EO, ED, ↓EW, ↓EI, EB, EP, EL, tyq_0, tz_0, tyq_3, inq_3, tz_3, tyq_4, bool_4, tz_4, tyq_24, slq_24, tz_24, tyq_25, ptq_25, tz_25, tyq_43, fq_43_0, fq_43_1, fq_43_2, bq_43, feq_43, tz_43, Nat.reduceAdd, Nat.reduceSub, Nat.reduceMul, Nat.reduceLT, Nat.reduceLeDiff, Nat.reduceEqDiff, Int.reduceToNat, Int.reduceLE, Int.reduceLT, Int.reduceEq, Int.reduceNeg, reduceCtorEq, reduceIte, decide_true, decide_false, List.forall_mem_cons, List.not_mem_nil, false_implies, implies_true, Bool.and_true, Bool.true_and, and_self, Nat.sub_zero, Nat.zero_add, Nat.add_zero]
  refine hK _ ?_; try clear hK K
  refine WC.trim [0, 2] ?_
  simp only [ET, Nat.reduceEqDiff, reduceIte]
  refine WC.ds [⟨0, 0, false, []⟩, ⟨1, 0, false, []⟩, ⟨2, 0, false, []⟩, ⟨3, 0, false, []⟩, ⟨4, 0, false, []⟩, ⟨5, 0, false, []⟩, ⟨6, 0, false, []⟩, ⟨7, 0, false, []⟩, ⟨8, 0, false, []⟩, ⟨9, 0, false, []⟩, ⟨10, 0, false, []⟩] [0, 1, 3, 7, 0, 16, 48, 112, 240, 511, 1023] mo (by kernel_rfl) (by simp only [EPl, List.getElem?_cons_zero, List.getElem?_cons_succ]; rfl) fun K hK => ?_
  simp (maxSteps := 1000000) only [↓yld_succ, ↓yld_zero, EV, EO, ED, ↓EW, ↓EI, EB, EP, EL, tyq_0, tz_0, tyq_3, inq_3, tz_3, tyq_4, bool_4, tz_4, tyq_24, slq_24, tz_24, tyq_25, ptq_25, tz_25, tyq_43, fq_43_0, fq_43_1, fq_43_2, bq_43, feq_43, tz_43, Nat.reduceAdd, Nat.reduceSub, Nat.reduceMul, Nat.reduceLT, Nat.reduceLeDiff, Nat.reduceEqDiff, Int.reduceToNat, Int.reduceLE, Int.reduceLT, Int.reduceEq, Int.reduceNeg, reduceCtorEq, reduceIte, decide_true, decide_false, List.forall_mem_cons, List.not_mem_nil, false_implies, implies_true, Bool.and_true, Bool.true_and, and_self, Nat.sub_zero, Nat.zero_add, Nat.add_zero, src, List.length_map]
  refine hK _ ?_; try clear hK K
  refine WC.trim [0, 2] ?_
  simp only [ET, Nat.reduceEqDiff, reduceIte]
  refine WC.ret ?_
  simp (maxSteps := 1000000) only [↓yld_succ, ↓yld_zero, EV, EO, ED, ↓EW, ↓EI, EB, EP, EL, tyq_0, tz_0, tyq_3, inq_3, tz_3, tyq_4, bool_4, tz_4, tyq_24, slq_24, tz_24, tyq_25, ptq_25, tz_25, tyq_43, fq_43_0, fq_43_1, fq_43_2, bq_43, feq_43, tz_43, Nat.reduceAdd, Nat.reduceSub, Nat.reduceMul, Nat.reduceLT, Nat.reduceLeDiff, Nat.reduceEqDiff, Int.reduceToNat, Int.reduceLE, Int.reduceLT, Int.reduceEq, Int.reduceNeg, reduceCtorEq, reduceIte, decide_true, decide_false, List.forall_mem_cons, List.not_mem_nil, false_implies, implies_true, Bool.and_true, Bool.true_and, and_self, Nat.sub_zero, Nat.zero_add, Nat.add_zero, EQ, FnQ, Tryd.results11, wResL, tup, List.reverse_cons, List.reverse_nil, true_and]
  exact endsSame (by simp only [CL]) (closedBs_cons (src_closed _ _ _) closedBs_nil) ⟨by simp, rfl⟩

theorem raw_sem (xs : List Int) (a : Nat) (k : Int) (hl : xs.length ≤ 1000) (ha : a ≤ xs.length) :
    FSem C 16 [.ptr (.o 0) 0 0] [src xs a k] fun r st => r = .ret (.int .i64 (rawV xs a)) ∧ st = [src xs (rawA xs a) k] := by
  refine FSem.enter' (C := C) (n := 31) Tryd.func16 rfl rfl ok_16 (by simp) ?_
  simp only [argEnv]
  refine WC.rs fun K hK => ?_
  simp (maxSteps := 1000000) only [↓yld_succ, ↓yld_zero, EV, EO, ED, ↓EW, ↓EI, EB, EP, EL, tyq_0, tz_0, tyq_3, inq_3, tz_3, tyq_4, bool_4, tz_4, tyq_24, slq_24, tz_24, tyq_25, ptq_25, tz_25, tyq_43, fq_43_0, fq_43_1, fq_43_2, bq_43, feq_43, tz_43, Nat.reduceAdd, Nat.reduceSub, Nat.reduceMul, Nat.reduceLT, Nat.reduceLeDiff, Nat.reduceEqDiff, Int.reduceToNat, Int.reduceLE, Int.reduceLT, Int.reduceEq, Int.reduceNeg, reduceCtorEq, reduceIte, decide_true, decide_false, List.forall_mem_cons, List.not_mem_nil, false_implies, implies_true, Bool.and_true, Bool.true_and, and_self, Nat.sub_zero, Nat.zero_add, Nat.add_zero]
  refine hK _ ?_; try clear hK K
  refine WC.trim [0, 2, 12] ?_
  simp only [ET, Nat.reduceEqDiff, reduceIte]
  refine WC.sK fun K1 hK1 => ?_
  refine WC.ds [⟨0, 0, false, []⟩, ⟨1, 0, false, []⟩, ⟨2, 0, false, []⟩, ⟨3, 0, false, []⟩, ⟨4, 0, false, []⟩, ⟨5, 0, false, []⟩, ⟨6, 0, false, []⟩, ⟨7, 0, false, []⟩, ⟨8, 0, false, []⟩, ⟨9, 0, false, []⟩] [0, 1, 3, 7, 0, 16, 48, 112, 240, 511] mo (by kernel_rfl) (by simp only [EPl, List.getElem?_cons_zero, List.getElem?_cons_succ]; rfl) fun K hK => ?_
  simp (maxSteps := 1000000) only [↓yld_succ, ↓yld_zero, EV, EO, ED, ↓EW, ↓EI, EB, EP, EL, tyq_0, tz_0, tyq_3, inq_3, tz_3, tyq_4, bool_4, tz_4, tyq_24, slq_24, tz_24, tyq_25, ptq_25, tz_25, tyq_43, fq_43_0, fq_43_1, fq_43_2, bq_43, feq_43, tz_43, Nat.reduceAdd, Nat.reduceSub, Nat.reduceMul, Nat.reduceLT, Nat.reduceLeDiff, Nat.reduceEqDiff, Int.reduceToNat, Int.reduceLE, Int.reduceLT, Int.reduceEq, Int.reduceNeg, reduceCtorEq, reduceIte, decide_true, decide_false, List.forall_mem_cons, List.not_mem_nil, false_implies, implies_true, Bool.and_true, Bool.true_and, and_self, Nat.sub_zero, Nat.zero_add, Nat.add_zero, src, List.length_map]
  refine hK _ ?_; try clear hK K
  refine WC.trim [0, 2, 12] ?_
  simp only [ET, Nat.reduceEqDiff, reduceIte]
  refine WC.cond (c := .tmp 12) rfl (fun h => ?_) (fun h => ?_)
  · have hge : xs.length ≤ a := by simpa using h
    refine WC.rs fun K hK => ?_
    simp (maxSteps := 1000000) only [↓yld_succ, ↓yld_zero, EV, EO, ED, ↓EW, ↓EI, EB, EP, EL, tyq_0, tz_0, tyq_3, inq_3, tz_3, tyq_4, bool_4, tz_4, tyq_24, slq_24, tz_24, tyq_25, ptq_25, tz_25, tyq_43, fq_43_0, fq_43_1, fq_43_2, bq_43, feq_43, tz_43, Nat.reduceAdd, Nat.reduceSub, Nat.reduceMul, Nat.reduceLT, Nat.reduceLeDiff, Nat.reduceEqDiff, Int.reduceToNat, Int.reduceLE, Int.reduceLT, Int.reduceEq, Int.reduceNeg, reduceCtorEq, reduceIte, decide_true, decide_false, List.forall_mem_cons, List.not_mem_nil, false_implies, implies_true, Bool.and_true, Bool.true_and, and_self, Nat.sub_zero, Nat.zero_add, Nat.add_zero]
    refine hK _ ?_; try clear hK K
    refine WC.trim [0, 2, 12] ?_
    simp only [ET, Nat.reduceEqDiff, reduceIte]
    refine WC.ret ?_
    simp (maxSteps := 1000000) only [↓yld_succ, ↓yld_zero, EV, EO, ED, ↓EW, ↓EI, EB, EP, EL, tyq_0, tz_0, tyq_3, inq_3, tz_3, tyq_4, bool_4, tz_4, tyq_24, slq_24, tz_24, tyq_25, ptq_25, tz_25, tyq_43, fq_43_0, fq_43_1, fq_43_2, bq_43, feq_43, tz_43, Nat.reduceAdd, Nat.reduceSub, Nat.reduceMul, Nat.reduceLT, Nat.reduceLeDiff, Nat.reduceEqDiff, Int.reduceToNat, Int.reduceLE, Int.reduceLT, Int.reduceEq, Int.reduceNeg, reduceCtorEq, reduceIte, decide_true, decide_false, List.forall_mem_cons, List.not_mem_nil, false_implies, implies_true, Bool.and_true, Bool.true_and, and_self, Nat.sub_zero, Nat.zero_add, Nat.add_zero, EQ, FnQ, Tryd.results16, wResL, tup, List.reverse_cons, List.reverse_nil, true_and]
    refine endsSame (by simp only [CL]) (closedBs_cons (src_closed _ _ _) closedBs_nil) ⟨?_, ?_⟩
    · rw [rawV, List.getD_eq_getElem?_getD, List.getElem?_eq_none hge]; rfl
    · rw [rawA, if_neg (by omega)]; rfl
  · have hlt : a < xs.length := by simp at h; omega
    have hg := gi_map (PVal.int .i64) xs hlt
    refine WC.skip ?_
    try simp only [EQ, reduceIte, Nat.reduceEqDiff]
    refine hK1 _ ?_; try clear hK1 K1
    refine WC.rs fun K hK => ?_
    simp (maxSteps := 1000000) (disch := omega) only [↓yld_succ, ↓yld_zero, EV, EO, ED, ↓EW, ↓EI, EB, EP, EL, tyq_0, tz_0, tyq_3, inq_3, tz_3, tyq_4, bool_4, tz_4, tyq_24, slq_24, tz_24, tyq_25, ptq_25, tz_25, tyq_43, fq_43_0, fq_43_1, fq_43_2, bq_43, feq_43, tz_43, Nat.reduceAdd, Nat.reduceSub, Nat.reduceMul, Nat.reduceLT, Nat.reduceLeDiff, Nat.reduceEqDiff, Int.reduceToNat, Int.reduceLE, Int.reduceLT, Int.reduceEq, Int.reduceNeg, reduceCtorEq, reduceIte, decide_true, decide_false, List.forall_mem_cons, List.not_mem_nil, false_implies, implies_true, Bool.and_true, Bool.true_and, and_self, Nat.sub_zero, Nat.zero_add, Nat.add_zero, w64, src]
    refine hK _ ?_; try clear hK K
    refine WC.trim [0, 2, 12] ?_
    simp only [ET, Nat.reduceEqDiff, reduceIte]
    refine WC.ds [⟨0, 0, false, []⟩, ⟨1, 0, false, []⟩, ⟨2, 0, false, []⟩, ⟨3, 0, false, []⟩, ⟨4, 0, false, []⟩, ⟨5, 0, false, []⟩, ⟨6, 0, false, []⟩, ⟨7, 0, false, []⟩, ⟨8, 0, false, []⟩, ⟨9, 0, false, []⟩, ⟨10, 0, false, []⟩, ⟨11, 0, false, []⟩] [0, 1, 3, 7, 0, 16, 48, 112, 240, 511, 1023, 2047] mo (by kernel_rfl) (by simp only [EPl, List.getElem?_cons_zero, List.getElem?_cons_succ]; rfl) fun K hK => ?_
    simp (maxSteps := 1000000) (disch := omega) only [↓yld_succ, ↓yld_zero, EV, EO, ED, ↓EW, ↓EI, EB, EP, EL, tyq_0, tz_0, tyq_3, inq_3, tz_3, tyq_4, bool_4, tz_4, tyq_24, slq_24, tz_24, tyq_25, ptq_25, tz_25, tyq_43, fq_43_0, fq_43_1, fq_43_2, bq_43, feq_43, tz_43, Nat.reduceAdd, Nat.reduceSub, Nat.reduceMul, Nat.reduceLT, Nat.reduceLeDiff, Nat.reduceEqDiff, Int.reduceToNat, Int.reduceLE, Int.reduceLT, Int.reduceEq, Int.reduceNeg, reduceCtorEq, reduceIte, decide_true, decide_false, List.forall_mem_cons, List.not_mem_nil, false_implies, implies_true, Bool.and_true, Bool.true_and, and_self, Nat.sub_zero, Nat.zero_add, Nat.add_zero, w64, src, List.length_map, hg, Int.add_sub_cancel, Int.toNat_natCast]
    repeat refine ⟨by omega, ?_⟩
    refine hK _ ?_; try clear hK K
    refine WC.trim [0, 2, 12] ?_
    simp only [ET, Nat.reduceEqDiff, reduceIte]
    refine WC.ret ?_
    simp (maxSteps := 1000000) only [↓yld_succ, ↓yld_zero, EV, EO, ED, ↓EW, ↓EI, EB, EP, EL, tyq_0, tz_0, tyq_3, inq_3, tz_3, tyq_4, bool_4, tz_4, tyq_24, slq_24, tz_24, tyq_25, ptq_25, tz_25, tyq_43, fq_43_0, fq_43_1, fq_43_2, bq_43, feq_43, tz_43, Nat.reduceAdd, Nat.reduceSub, Nat.reduceMul, Nat.reduceLT, Nat.reduceLeDiff, Nat.reduceEqDiff, Int.reduceToNat, Int.reduceLE, Int.reduceLT, Int.reduceEq, Int.reduceNeg, reduceCtorEq, reduceIte, decide_true, decide_false, List.forall_mem_cons, List.not_mem_nil, false_implies, implies_true, Bool.and_true, Bool.true_and, and_self, Nat.sub_zero, Nat.zero_add, Nat.add_zero, EQ, FnQ, Tryd.results16, wResL, tup, List.reverse_cons, List.reverse_nil, true_and]
    refine endsSame (by simp only [CL]) (closedBs_cons (src_closed _ _ _) closedBs_nil) ⟨?_, ?_⟩
    · rw [rawV, List.getD_eq_getElem?_getD, List.getElem?_eq_getElem hlt]; rfl
    · rw [rawA, if_pos hlt]; rfl

theorem n_sem (xs : List Int) (a : Nat) (k n : Int) (hl : xs.length ≤ 1000) (ha : a ≤ xs.length) (hx : ∀ z ∈ xs, in64 z) (hn : in64 n) :
    FSem C 13 [.ptr (.o 0) 0 0, .int .i64 n] [src xs a k] fun r st => r = .ret (.int .i64 (nV xs a n)) ∧ st = [src xs (nA xs a n) k] := by
  have hr := rawV_in hx a
  obtain ⟨hn1, hn2⟩ := hn
  refine FSem.enter' (C := C) (n := 18) Tryd.func13 rfl rfl ok_13 (by simp) ?_
  simp only [argEnv]
  refine WC.rs fun K hK => ?_
  simp (maxSteps := 1000000) only [↓yld_succ, ↓yld_zero, EV, EO, ED, ↓EW, ↓EI, EB, EP, EL, tyq_3, inq_3, tz_3, tyq_4, bool_4, tz_4, tyq_25, ptq_25, tz_25, Nat.reduceAdd, Nat.reduceSub, Nat.reduceMul, Nat.reduceLT, Nat.reduceLeDiff, Nat.reduceEqDiff, Int.reduceToNat, Int.reduceLE, Int.reduceLT, Int.reduceEq, Int.reduceNeg, reduceCtorEq, reduceIte, decide_true, decide_false, List.forall_mem_cons, List.not_mem_nil, false_implies, implies_true, Bool.and_true, Bool.true_and, and_self, Nat.sub_zero, Nat.zero_add, Nat.add_zero]
  refine hK _ ?_; try clear hK K
  refine WC.trim [0, 1, 4, 5, 7, 13] ?_
  simp only [ET, Nat.reduceEqDiff, reduceIte]
  refine WC.sK fun K1 hK1 => ?_
  refine WC.rs fun K hK => ?_
  simp (maxSteps := 1000000) only [↓yld_succ, ↓yld_zero, EV, EO, ED, ↓EW, ↓EI, EB, EP, EL, tyq_3, inq_3, tz_3, tyq_4, bool_4, tz_4, tyq_25, ptq_25, tz_25, Nat.reduceAdd, Nat.reduceSub, Nat.reduceMul, Nat.reduceLT, Nat.reduceLeDiff, Nat.reduceEqDiff, Int.reduceToNat, Int.reduceLE, Int.reduceLT, Int.reduceEq, Int.reduceNeg, reduceCtorEq, reduceIte, decide_true, decide_false, List.forall_mem_cons, List.not_mem_nil, false_implies, implies_true, Bool.and_true, Bool.true_and, and_self, Nat.sub_zero, Nat.zero_add, Nat.add_zero]
  refine hK _ ?_; try clear hK K
  refine WC.trim [0, 1, 4, 5, 7, 13] ?_
  simp only [ET, Nat.reduceEqDiff, reduceIte]
  refine WC.cond (c := .tmp 7) rfl (fun h => ?_) (fun h => ?_)
  · have h1 : n < 1 := by simpa using h
    refine WC.rs fun K hK => ?_
    simp (maxSteps := 1000000) only [↓yld_succ, ↓yld_zero, EV, EO, ED, ↓EW, ↓EI, EB, EP, EL, tyq_3, inq_3, tz_3, tyq_4, bool_4, tz_4, tyq_25, ptq_25, tz_25, Nat.reduceAdd, Nat.reduceSub, Nat.reduceMul, Nat.reduceLT, Nat.reduceLeDiff, Nat.reduceEqDiff, Int.reduceToNat, Int.reduceLE, Int.reduceLT, Int.reduceEq, Int.reduceNeg, reduceCtorEq, reduceIte, decide_true, decide_false, List.forall_mem_cons, List.not_mem_nil, false_implies, implies_true, Bool.and_true, Bool.true_and, and_self, Nat.sub_zero, Nat.zero_add, Nat.add_zero]
    refine hK _ ?_; try clear hK K
    refine WC.trim [0, 1, 4, 5, 7, 13] ?_
    simp only [ET, Nat.reduceEqDiff, reduceIte]
    refine WC.ret ?_
    simp (maxSteps := 1000000) only [↓yld_succ, ↓yld_zero, EV, EO, ED, ↓EW, ↓EI, EB, EP, EL, tyq_3, inq_3, tz_3, tyq_4, bool_4, tz_4, tyq_25, ptq_25, tz_25, Nat.reduceAdd, Nat.reduceSub, Nat.reduceMul, Nat.reduceLT, Nat.reduceLeDiff, Nat.reduceEqDiff, Int.reduceToNat, Int.reduceLE, Int.reduceLT, Int.reduceEq, Int.reduceNeg, reduceCtorEq, reduceIte, decide_true, decide_false, List.forall_mem_cons, List.not_mem_nil, false_implies, implies_true, Bool.and_true, Bool.true_and, and_self, Nat.sub_zero, Nat.zero_add, Nat.add_zero, EQ, FnQ, Tryd.results13, wResL, tup, List.reverse_cons, List.reverse_nil, true_and]
    refine endsSame (by simp only [CL]) (closedBs_cons (src_closed _ _ _) closedBs_nil) ⟨?_, ?_⟩
    · rw [nV, if_pos h1]
    · rw [nA, if_pos h1]
  · have h1 : ¬ n < 1 := by simpa using h
    have hem := emod_tmod (rawV xs a) (show 0 < n by omega)
    have hm0 : 0 ≤ (rawV xs a).emod n := Int.emod_nonneg (rawV xs a) (show n ≠ 0 by omega)
    have hm1 : (rawV xs a).emod n < n := Int.emod_lt_of_pos (rawV xs a) (show 0 < n by omega)
    refine WC.skip ?_
    try simp only [EQ, reduceIte, Nat.reduceEqDiff]
    refine hK1 _ ?_; try clear hK1 K1
    refine WC.rs fun K hK => ?_
    simp (maxSteps := 1000000) only [↓yld_succ, ↓yld_zero, EV, EO, ED, ↓EW, ↓EI, EB, EP, EL, tyq_3, inq_3, tz_3, tyq_4, bool_4, tz_4, tyq_25, ptq_25, tz_25, Nat.reduceAdd, Nat.reduceSub, Nat.reduceMul, Nat.reduceLT, Nat.reduceLeDiff, Nat.reduceEqDiff, Int.reduceToNat, Int.reduceLE, Int.reduceLT, Int.reduceEq, Int.reduceNeg, reduceCtorEq, reduceIte, decide_true, decide_false, List.forall_mem_cons, List.not_mem_nil, false_implies, implies_true, Bool.and_true, Bool.true_and, and_self, Nat.sub_zero, Nat.zero_add, Nat.add_zero]
    refine CallX.mk (CallW.one (r := .o 0) (raw_sem xs a k hl ha) rfl (src_closed _ _ _) (src_closed _ _ _) (by simp only [CL]) (by simp [renL, ren, fCall]) ?_)
    simp (maxSteps := 1000000) only [↓yld_succ, ↓yld_zero, EV, EO, ED, ↓EW, ↓EI, EB, EP, EL, tyq_3, inq_3, tz_3, tyq_4, bool_4, tz_4, tyq_25, ptq_25, tz_25, Nat.reduceAdd, Nat.reduceSub, Nat.reduceMul, Nat.reduceLT, Nat.reduceLeDiff, Nat.reduceEqDiff, Int.reduceToNat, Int.reduceLE, Int.reduceLT, Int.reduceEq, Int.reduceNeg, reduceCtorEq, reduceIte, decide_true, decide_false, List.forall_mem_cons, List.not_mem_nil, false_implies, implies_true, Bool.and_true, Bool.true_and, and_self, Nat.sub_zero, Nat.zero_add, Nat.add_zero]
    refine ⟨by omega, ?_⟩
    refine hK _ ?_; try clear hK K
    refine WC.trim [0, 1, 4, 5, 7, 13] ?_
    simp only [ET, Nat.reduceEqDiff, reduceIte]
    refine WC.sK fun K2 hK2 => ?_
    refine WC.rs fun K hK => ?_
    simp (maxSteps := 1000000) only [↓yld_succ, ↓yld_zero, EV, EO, ED, ↓EW, ↓EI, EB, EP, EL, tyq_3, inq_3, tz_3, tyq_4, bool_4, tz_4, tyq_25, ptq_25, tz_25, Nat.reduceAdd, Nat.reduceSub, Nat.reduceMul, Nat.reduceLT, Nat.reduceLeDiff, Nat.reduceEqDiff, Int.reduceToNat, Int.reduceLE, Int.reduceLT, Int.reduceEq, Int.reduceNeg, reduceCtorEq, reduceIte, decide_true, decide_false, List.forall_mem_cons, List.not_mem_nil, false_implies, implies_true, Bool.and_true, Bool.true_and, and_self, Nat.sub_zero, Nat.zero_add, Nat.add_zero]
    refine hK _ ?_; try clear hK K
    refine WC.trim [0, 1, 4, 5, 7, 13] ?_
    simp only [ET, Nat.reduceEqDiff, reduceIte]
    refine WC.cond (c := .tmp 13) rfl (fun h => ?_) (fun h => ?_)
    · have h2 : (rawV xs a).tmod n < 0 := by simpa using h
      rw [if_pos h2] at hem
      refine WC.r1 ?_
      simp (maxSteps := 1000000) (disch := omega) only [↓yld_succ, ↓yld_zero, EV, EO, ED, ↓EW, ↓EI, EB, EP, EL, tyq_3, inq_3, tz_3, tyq_4, bool_4, tz_4, tyq_25, ptq_25, tz_25, Nat.reduceAdd, Nat.reduceSub, Nat.reduceMul, Nat.reduceLT, Nat.reduceLeDiff, Nat.reduceEqDiff, Int.reduceToNat, Int.reduceLE, Int.reduceLT, Int.reduceEq, Int.reduceNeg, reduceCtorEq, reduceIte, decide_true, decide_false, List.forall_mem_cons, List.not_mem_nil, false_implies, implies_true, Bool.and_true, Bool.true_and, and_self, Nat.sub_zero, Nat.zero_add, Nat.add_zero, w64]
      try simp only [EQ, reduceIte, Nat.reduceEqDiff]
      refine hK2 _ ?_; try clear hK2 K2
      refine WC.rs fun K hK => ?_
      simp (maxSteps := 1000000) only [↓yld_succ, ↓yld_zero, EV, EO, ED, ↓EW, ↓EI, EB, EP, EL, tyq_3, inq_3, tz_3, tyq_4, bool_4, tz_4, tyq_25, ptq_25, tz_25, Nat.reduceAdd, Nat.reduceSub, Nat.reduceMul, Nat.reduceLT, Nat.reduceLeDiff, Nat.reduceEqDiff, Int.reduceToNat, Int.reduceLE, Int.reduceLT, Int.reduceEq, Int.reduceNeg, reduceCtorEq, reduceIte, decide_true, decide_false, List.forall_mem_cons, List.not_mem_nil, false_implies, implies_true, Bool.and_true, Bool.true_and, and_self, Nat.sub_zero, Nat.zero_add, Nat.add_zero]
      refine hK _ ?_; try clear hK K
      refine WC.trim [0, 1, 4, 5, 7, 13] ?_
      simp only [ET, Nat.reduceEqDiff, reduceIte]
      refine WC.ret ?_
      simp (maxSteps := 1000000) only [↓yld_succ, ↓yld_zero, EV, EO, ED, ↓EW, ↓EI, EB, EP, EL, tyq_3, inq_3, tz_3, tyq_4, bool_4, tz_4, tyq_25, ptq_25, tz_25, Nat.reduceAdd, Nat.reduceSub, Nat.reduceMul, Nat.reduceLT, Nat.reduceLeDiff, Nat.reduceEqDiff, Int.reduceToNat, Int.reduceLE, Int.reduceLT, Int.reduceEq, Int.reduceNeg, reduceCtorEq, reduceIte, decide_true, decide_false, List.forall_mem_cons, List.not_mem_nil, false_implies, implies_true, Bool.and_true, Bool.true_and, and_self, Nat.sub_zero, Nat.zero_add, Nat.add_zero, EQ, FnQ, Tryd.results13, wResL, tup, List.reverse_cons, List.reverse_nil, true_and]
      refine endsSame (by simp only [CL]) (closedBs_cons (src_closed _ _ _) closedBs_nil) ⟨?_, ?_⟩
      · rw [nV, if_neg h1, hem]
      · rw [nA, if_neg h1]
    · have h2 : ¬ (rawV xs a).tmod n < 0 := by simpa using h
      refine WC.skip ?_
      try simp only [EQ, reduceIte, Nat.reduceEqDiff]
      refine hK2 _ ?_; try clear hK2 K2
      refine WC.rs fun K hK => ?_
      simp (maxSteps := 1000000) only [↓yld_succ, ↓yld_zero, EV, EO, ED, ↓EW, ↓EI, EB, EP, EL, tyq_3, inq_3, tz_3, tyq_4, bool_4, tz_4, tyq_25, ptq_25, tz_25, Nat.reduceAdd, Nat.reduceSub, Nat.reduceMul, Nat.reduceLT, Nat.reduceLeDiff, Nat.reduceEqDiff, Int.reduceToNat, Int.reduceLE, Int.reduceLT, Int.reduceEq, Int.reduceNeg, reduceCtorEq, reduceIte, decide_true, decide_false, List.forall_mem_cons, List.not_mem_nil, false_implies, implies_true, Bool.and_true, Bool.true_and, and_self, Nat.sub_zero, Nat.zero_add, Nat.add_zero]
      refine hK _ ?_; try clear hK K
      refine WC.trim [0, 1, 4, 5, 7, 13] ?_
      simp only [ET, Nat.reduceEqDiff, reduceIte]
      refine WC.ret ?_
      simp (maxSteps := 1000000) only [↓yld_succ, ↓yld_zero, EV, EO, ED, ↓EW, ↓EI, EB, EP, EL, tyq_3, inq_3, tz_3, tyq_4, bool_4, tz_4, tyq_25, ptq_25, tz_25, Nat.reduceAdd, Nat.reduceSub, Nat.reduceMul, Nat.reduceLT, Nat.reduceLeDiff, Nat.reduceEqDiff, Int.reduceToNat, Int.reduceLE, Int.reduceLT, Int.reduceEq, Int.reduceNeg, reduceCtorEq, reduceIte, decide_true, decide_false, List.forall_mem_cons, List.not_mem_nil, false_implies, implies_true, Bool.and_true, Bool.true_and, and_self, Nat.sub_zero, Nat.zero_add, Nat.add_zero, EQ, FnQ, Tryd.results13, wResL, tup, List.reverse_cons, List.reverse_nil, true_and]
      refine endsSame (by simp only [CL]) (closedBs_cons (src_closed _ _ _) closedBs_nil) ⟨?_, ?_⟩
      · rw [nV, if_neg h1, hem, if_neg h2]
      · rw [nA, if_neg h1]
end Go.LexSem
