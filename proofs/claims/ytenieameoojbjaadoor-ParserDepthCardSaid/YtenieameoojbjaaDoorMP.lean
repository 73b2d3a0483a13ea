/-
  Texts joined: PaAG.
-/
import Derived.Test.YtenieameoojbjaaDoorMO
set_option linter.unusedVariables false
set_option linter.unusedSimpArgs false
set_option linter.loopingSimpArgs false
-- CLOSERS: PCL, TCL, DCL, FCL, RCL, MCL, BCL, GCL
set_option maxHeartbeats 16000000
set_option maxRecDepth 8000
namespace Go.LexSem
open Go Go.V Go.Proofs Go.Num

def rept (w : List UInt8) : Nat → List UInt8
  | 0 => []
  | n + 1 => rept w n ++ w
theorem rept_comm (w : List UInt8) : ∀ n, w ++ rept w n = rept w n ++ w
  | 0 => by simp [rept]
  | n + 1 => by rw [rept, ← List.append_assoc, rept_comm w n]
def opW (j : Nat) : List UInt8 := if j = 0 then [40] else if j = 1 then [91] else [108, 101, 110, 40]
def shW (j : Nat) : List UInt8 := if j = 1 then [93] else [41]
def wdW (j : Nat) : Nat := if j = 2 then 4 else 1
theorem opW_le (j : Nat) : (opW j).length ≤ 4 := by unfold opW; split <;> (try split) <;> simp
theorem shW_le (j : Nat) : (shW j).length ≤ 1 := by unfold shW; split <;> simp
theorem rept_len (w : List UInt8) : ∀ n, (rept w n).length = n * w.length
  | 0 => by simp [rept]
  | n + 1 => by rw [rept, List.length_append, rept_len w n, Nat.succ_mul]
theorem rept_le {w : List UInt8} {m n : Nat} (h : w.length ≤ m) : (rept w n).length ≤ n * m := by rw [rept_len]; exact Nat.mul_le_mul_left _ h
def dpT (k j : Nat) : List UInt8 := ((([120, 32, 58, 61, 32] ++ rept (opW j) k) ++ [121]) ++ rept (shW j) k) ++ [59, 32, 114, 101, 116, 117, 114, 110, 32, 120, 59]
def chkD (k j : Nat) : Bool := match parseN (dpT k j) with
  | .ok _ => decide (k ≤ 10)
  | .error e => decide (10 < k) && decide (e = ((1, 5 + wdW j * 11), 9))
theorem chkD_all : ∀ k < 14, ∀ j < 3, chkD k j = true ∧ (dpT k j).length ≤ 8192 := by decide +kernel
theorem dp_ok {k j : Nat} (hk : k ≤ 10) (hj : j < 3) : ∃ p, parseF (dpT k j) = .ok p := by
  obtain ⟨h, hl⟩ := chkD_all k (by omega) j hj
  rw [parseF_N hl]
  unfold chkD at h
  split at h
  · rename_i p hp; exact ⟨p, hp⟩
  · simp at h; omega
theorem dp_er {k j : Nat} (hk : ¬ k ≤ 10) (hk2 : k < 14) (hj : j < 3) : parseF (dpT k j) = .error ((1, 5 + wdW j * 11), 9) := by
  obtain ⟨h, hl⟩ := chkD_all k hk2 j hj
  rw [parseF_N hl]
  unfold chkD at h
  split at h
  · simp at h; omega
  · rename_i e he
    simp at h
    rw [he, h.2]
theorem opW_gi {j : Nat} (h : j < 3) : gi [PVal.str [40], .str [91], .str [108, 101, 110, 40]] j = .str (opW j) := by
  match j, h with
  | 0, _ => rfl
  | 1, _ => rfl
  | 2, _ => rfl
theorem shW_gi {j : Nat} (h : j < 3) : gi [PVal.str [41], .str [93], .str [41]] j = .str (shW j) := by
  match j, h with
  | 0, _ => rfl
  | 1, _ => rfl
  | 2, _ => rfl
theorem wdW_gi {j : Nat} (h : j < 3) : gi [PVal.int .i64 1, .int .i64 1, .int .i64 4] j = .int .i64 (wdW j : Nat) := by
  match j, h with
  | 0, _ => rfl
  | 1, _ => rfl
  | 2, _ => rfl
theorem pgV_ex (p : Pg) : ∃ cs, pgV p = .agg cs ∧ cs.length = 6 ∧ ClosedL cs := ⟨pgC p, rfl, rfl, of_eq_true (by have := GCL.2.2 p; simpa only [pgV, CL] using this)⟩
theorem parserDepth_sem (z : Int) (hz : (Lit.int .u8 z).wf = true) (z2 : Int) (hz2 : (Lit.int .u8 z2).wf = true) : FSem C 4 [.int .u8 z, .int .u8 z2] [] fun r st => r = .ret (.bool true) ∧ st = [] := by
  obtain ⟨n, rfl, hn⟩ : ∃ n : Nat, z = n ∧ n ≤ 255 := by
    simp [Lit.wf, IntKind.min, IntKind.max, IntKind.signed, IntKind.bits] at hz
    exact ⟨z.toNat, by omega, by omega⟩
  obtain ⟨kd, rfl, hkd⟩ : ∃ n : Nat, z2 = n ∧ n ≤ 255 := by
    simp [Lit.wf, IntKind.min, IntKind.max, IntKind.signed, IntKind.bits] at hz2
    exact ⟨z2.toNat, by omega, by omega⟩
  have hj : kd % 3 < 3 := Nat.mod_lt _ (by decide)
  have hk : n % 14 < 14 := Nat.mod_lt _ (by decide)
  have m14 : ((n : Int)).tmod 14 = ((n % 14 : Nat) : Int) := tmodN n 14
  have m3 : ((kd : Int)).tmod 3 = ((kd % 3 : Nat) : Int) := tmodN kd 3
  generalize hK : n % 14 = k at hk m14
  generalize hJ : kd % 3 = j at hj m3
  have go := opW_gi hj
  have gs := shW_gi hj
  have gw := wdW_gi hj
  refine FSem.enter' (C := C) (n := 78) Tryd.func4 rfl rfl ok_4 (by simp) ?_
  simp only [argEnv]
  refine WC.rs fun K hK => ?_
  simp (maxSteps := 1000000) only [↓EJ, EX, FA, simprocAttr]
  refine hK _ ?_; try clear hK K
  refine WC.trim [0, 1, 4, 5, 6, 7, 8, 9, 11, 12, 13, 19, 49] ?_
  simp only [ET, Nat.reduceEqDiff, reduceIte]
  refine WC.rs fun K hK => ?_
  simp (maxSteps := 1000000) (disch := omega) only [↓EJ, EX, FA, simprocAttr, w64, wu64, m14]
  try refine ⟨by decide, ?_⟩
  refine hK _ ?_; try clear hK K
  refine WC.trim [0, 1, 4, 5, 6, 7, 8, 9, 11, 12, 13, 19, 49] ?_
  simp only [ET, Nat.reduceEqDiff, reduceIte]
  refine WC.rs fun K hK => ?_
  simp (maxSteps := 1000000) only [↓EJ, EX, FA, simprocAttr]
  refine hK _ ?_; try clear hK K
  refine WC.trim [0, 1, 4, 5, 6, 7, 8, 9, 11, 12, 13, 19, 49] ?_
  simp only [ET, Nat.reduceEqDiff, reduceIte]
  refine WC.sK fun K1 hK1 => ?_
  refine WC.rs fun K hK => ?_
  simp (maxSteps := 1000000) only [↓EJ, EX, FA, simprocAttr]
  refine hK _ ?_; try clear hK K
  refine WC.trim [0, 1, 4, 5, 6, 7, 8, 9, 11, 12, 13, 19, 49] ?_
  simp only [ET, Nat.reduceEqDiff, reduceIte]
  refine WC.b1 ?_
  refine WC.loop (X := Nat) (fun i => ⟨[(8, .int .i64 i), (7, .str (rept (shW j) i)), (6, .str (rept (opW j) i)), (5, .int .i64 k), (1, .int .u8 kd)], [], [], []⟩) (fun i => i ≤ k) (fun i => k - i) 0 [] (Nat.zero_le _) ?_ ?_
  · refine ⟨by simp, by simp only [EV, EB, EL, ER, ET, and_self, true_and, and_true, Nat.reduceEqDiff, reduceCtorEq, reduceIte, rept], by simp only [EV, EB, EL, ER, ET, and_self, true_and, and_true, Nat.reduceEqDiff, reduceCtorEq, reduceIte, rept], by simp only [EV, EB, EL, ER, ET, and_self, true_and, and_true, Nat.reduceEqDiff, reduceCtorEq, reduceIte, rept, pick], rfl⟩
  intro i hi
  have l1 := opW_le j
  have l2 := shW_le j
  have l3 := rept_le (n := i) l1
  have l4 := rept_le (n := i) l2
  refine WC.sK fun K3 hK3 => ?_
  refine WC.rs fun K hK => ?_
  simp (maxSteps := 1000000) only [↓EJ, EX, FA, simprocAttr]
  refine hK _ ?_; try clear hK K
  refine WC.trim [0, 1, 4, 5, 6, 7, 8, 9, 11, 12, 13, 19, 49] ?_
  simp only [ET, Nat.reduceEqDiff, reduceIte]
  refine WC.cond (c := .tmp 19) rfl (fun h => ?_) (fun h => ?_)
  · have hlt : i < k := by simpa using h
    refine WC.skip ?_
    try simp only [EQ, reduceIte, Nat.reduceEqDiff]
    refine hK3 _ ?_; try clear hK3 K3
    refine WC.bs fun K4 hK4 => ?_
    refine WC.zs [1] (by simp only [cutZ, List.drop_zero, List.drop_succ_cons, List.take_zero, List.take_succ_cons, Option.map_some]; rfl) fun K hK => ?_
    simp (maxSteps := 1000000) only [↓EJ, EX, FA, simprocAttr, EZ, m3]
    try refine ⟨by decide, ?_⟩
    simp (maxSteps := 1000000) only [↓EJ, EX, FA, simprocAttr, Int.toNat_natCast, go]
    repeat refine And.intro (by omega) ?_
    refine hK _ ?_; try clear hK K
    refine WC.trim [0, 1, 4, 5, 6, 7, 8, 9, 11, 12, 13, 19, 49] ?_
    simp only [ET, Nat.reduceEqDiff, reduceIte]
    refine WC.z1 [0] (by simp only [cutZ, List.drop_zero, List.drop_succ_cons, List.take_zero, List.take_succ_cons, Option.map_some]; rfl) ?_
    simp (maxSteps := 1000000) only [↓EJ, EX, FA, simprocAttr, EZ, m3]
    try refine ⟨by decide, ?_⟩
    simp (maxSteps := 1000000) only [↓EJ, EX, FA, simprocAttr, Int.toNat_natCast, gs]
    repeat refine And.intro (by omega) ?_
    try simp only [EQ, reduceIte, Nat.reduceEqDiff]
    refine hK4 _ ?_; try clear hK4 K4
    refine WC.r1 ?_
    simp (maxSteps := 1000000) (disch := omega) only [↓EJ, EX, FA, simprocAttr, w64, wu64]
    try simp only [EQ, reduceIte, Nat.reduceEqDiff]
    refine ⟨i + 1, [], hlt, by omega, ?_⟩
    rw [rept_comm]
    refine ⟨by simp, by simp only [EV, EB, EL, ER, ET, and_self, true_and, and_true, Nat.reduceEqDiff, reduceCtorEq, reduceIte, rept, Int.natCast_add], by simp only [EV, EB, EL, ER, ET, and_self, true_and, and_true, Nat.reduceEqDiff, reduceCtorEq, reduceIte, rept, Int.natCast_add], by simp only [EV, EB, EL, ER, ET, and_self, true_and, and_true, Nat.reduceEqDiff, reduceCtorEq, reduceIte, rept, Int.natCast_add, pick], rfl⟩
  · have he : i = k := by simp at h; omega
    subst he
    refine WC.exit ?_
    simp only [EQ, reduceIte, Nat.reduceEqDiff]
    try simp only [EQ, reduceIte, Nat.reduceEqDiff]
    refine hK1 _ ?_; try clear hK1 K1
    refine WC.rs fun K hK => ?_
    simp (maxSteps := 1000000) only [↓EJ, EX, FA, simprocAttr, List.length_append, List.length_cons, List.length_nil]
    repeat refine And.intro (by omega) ?_
    refine hK _ ?_; try clear hK K
    refine WC.trim [0, 1, 4, 5, 6, 7, 8, 9, 11, 12, 13, 19, 49] ?_
    simp only [ET, Nat.reduceEqDiff, reduceIte]
    have hT : ((([120, 32, 58, 61, 32] ++ rept (opW j) i) ++ [121]) ++ rept (shW j) i) ++ [59, 32, 114, 101, 116, 117, 114, 110, 32, 120, 59] = dpT i j := rfl
    have hP := parse_sem (dpT i j)
    by_cases h10 : i ≤ 10
    · obtain ⟨p, hp⟩ := dp_ok h10 hj
      obtain ⟨cs, hcs, hl6, hcl⟩ := pgV_ex p
      rw [resV_ok hp, hcs] at hP
      rw [← hT] at hP
      unfold posV at hP
      have hd6 : List.drop 6 cs = [] := List.drop_of_length_le (by omega)
      have ht6 : List.take 6 cs = cs := List.take_of_length_le (by omega)
      refine WC.rs fun K hK => ?_
      simp (maxSteps := 1000000) only [↓EJ, EX, FA, simprocAttr]
      refine CallX.mk (CallW.pure hP (by simp only [CL, and_self]) (by simp only [CL, eq_true hcl, and_self]) ?_)
      simp (maxSteps := 1000000) only [↓EJ, EX, FA, simprocAttr, XS, hl6, hd6, ht6]
      refine hK _ ?_; try clear hK K
      refine WC.trim [0, 1, 4, 5, 6, 7, 8, 9, 11, 12, 13, 19, 49] ?_
      simp only [ET, Nat.reduceEqDiff, reduceIte]
      refine WC.sK fun K5 hK5 => ?_
      refine WC.rs fun K hK => ?_
      simp (maxSteps := 1000000) only [↓EJ, EX, FA, simprocAttr]
      refine hK _ ?_; try clear hK K
      refine WC.trim [0, 1, 4, 5, 6, 7, 8, 9, 11, 12, 13, 19, 49] ?_
      simp only [ET, Nat.reduceEqDiff, reduceIte]
      refine WC.cond (c := .tmp 49) rfl (fun h => ?_) (fun h => ?_)
      rotate_left
      · simp at h; omega
      refine WC.rs fun K hK => ?_
      simp (maxSteps := 1000000) only [↓EJ, EX, FA, simprocAttr, Bool.not_true, Bool.not_false]
      refine CallX.mk (CallW.pure awake_sem (by simp only [CL]) (by simp only [CL]) ?_)
      simp (maxSteps := 1000000) only [↓EJ, EX, FA, simprocAttr]
      refine hK _ ?_; try clear hK K
      refine WC.trim [0, 1, 4, 5, 6, 7, 8, 9, 11, 12, 13, 19, 49] ?_
      simp only [ET, Nat.reduceEqDiff, reduceIte]
      refine WC.ret ?_
      simp (maxSteps := 1000000) only [↓EJ, EX, FA, simprocAttr, EQ, FnQ, Tryd.results4, wResL, tup, List.reverse_cons, List.reverse_nil, true_and]
      exact endsPure' (by simp only [CL]) rfl
    · have hp := dp_er h10 hk hj
      rw [resV_er hp, zpg_V] at hP
      rw [← hT] at hP
      unfold posV at hP
      refine WC.rs fun K hK => ?_
      simp (maxSteps := 1000000) only [↓EJ, EX, FA, simprocAttr]
      refine CallX.mk (CallW.pure hP (by simp only [CL, and_self]) (by simp only [CL, and_self]) ?_)
      simp (maxSteps := 1000000) only [↓EJ, EX, FA, simprocAttr, XS]
      refine hK _ ?_; try clear hK K
      refine WC.trim [0, 1, 4, 5, 6, 7, 8, 9, 11, 12, 13, 19, 49] ?_
      simp only [ET, Nat.reduceEqDiff, reduceIte]
      refine WC.sK fun K5 hK5 => ?_
      refine WC.rs fun K hK => ?_
      simp (maxSteps := 1000000) only [↓EJ, EX, FA, simprocAttr]
      refine hK _ ?_; try clear hK K
      refine WC.trim [0, 1, 4, 5, 6, 7, 8, 9, 11, 12, 13, 19, 49] ?_
      simp only [ET, Nat.reduceEqDiff, reduceIte]
      refine WC.cond (c := .tmp 49) rfl (fun h => ?_) (fun h => ?_)
      · simp at h; omega
      refine WC.skip ?_
      try simp only [EQ, reduceIte, Nat.reduceEqDiff]
      refine hK5 _ ?_; try clear hK5 K5
      refine WC.zs [0] (by simp only [cutZ, List.drop_zero, List.drop_succ_cons, List.take_zero, List.take_succ_cons, Option.map_some]; rfl) fun K hK => ?_
      simp (maxSteps := 1000000) only [↓EJ, EX, FA, simprocAttr, EZ, m3]
      try refine ⟨by decide, ?_⟩
      simp (maxSteps := 1000000) only [↓EJ, EX, FA, simprocAttr, Int.toNat_natCast, gw]
      repeat refine And.intro (by omega) ?_
      refine hK _ ?_; try clear hK K
      refine WC.trim [0, 1, 4, 5, 6, 7, 8, 9, 11, 12, 13, 19, 49] ?_
      simp only [ET, Nat.reduceEqDiff, reduceIte]
      have hw : (wdW j : Int) ≤ 4 ∧ 0 ≤ (wdW j : Int) := by unfold wdW; split <;> omega
      have w1 := w64 (x := (wdW j : Int) * 11) (by omega) (by omega)
      have w2 := w64 (x := 5 + (wdW j : Int) * 11) (by omega) (by omega)
      refine WC.rs fun K hK => ?_
      simp (maxSteps := 1000000) only [↓EJ, EX, FA, simprocAttr, Bool.not_true, Bool.not_false, w1, w2, Int.natCast_add, Int.natCast_mul, Int.cast_ofNat_Int]
      refine CallX.mk (CallW.pure awake_sem (by simp only [CL]) (by simp only [CL]) ?_)
      simp (maxSteps := 1000000) only [↓EJ, EX, FA, simprocAttr]
      refine hK _ ?_; try clear hK K
      refine WC.trim [0, 1, 4, 5, 6, 7, 8, 9, 11, 12, 13, 19, 49] ?_
      simp only [ET, Nat.reduceEqDiff, reduceIte]
      refine WC.ret ?_
      simp (maxSteps := 1000000) only [↓EJ, EX, FA, simprocAttr, EQ, FnQ, Tryd.results4, wResL, tup, List.reverse_cons, List.reverse_nil, true_and]
      exact endsPure' (by simp only [CL]) rfl
end Go.LexSem
