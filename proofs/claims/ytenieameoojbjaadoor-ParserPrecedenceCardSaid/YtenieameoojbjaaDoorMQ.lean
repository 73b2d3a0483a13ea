/-
 Texts joined: PaAH.
-/
import Derived.Test.YtenieameoojbjaaDoorMO
set_option linter.unusedVariables false
set_option linter.unusedSimpArgs false
set_option linter.loopingSimpArgs false
-- CLOSERS: PCL, TCL, DCL, FCL, RCL, MCL, BCL, GCL
set_option maxHeartbeats 32000000
set_option maxRecDepth 8000
namespace Go.LexSem
open Go Go.V Go.Proofs Go.Num

def opS (j : Nat) : List UInt8 := if j = 0 then [124, 124] else if j = 1 then [38, 38] else if j = 2 then [60] else if j = 3 then [43] else [42]
def opN (j : Nat) : Nat := if j = 0 then 7 else if j = 1 then 6 else if j = 2 then 9 else if j = 3 then 12 else 14
def prT1 (a b : Nat) : List UInt8 := (((([120, 32, 58, 61, 32, 117, 32] ++ opS a) ++ [32, 118, 32]) ++ opS b) ++ [32, 119, 59, 32, 114, 101, 116, 117, 114, 110, 32, 120, 59])
def prL (a b : Nat) : List UInt8 := (((([40, 117, 32] ++ opS a) ++ [32, 118, 41, 32]) ++ opS b) ++ [32, 119])
def prR (a b : Nat) : List UInt8 := (((([117, 32] ++ opS a) ++ [32, 40, 118, 32]) ++ opS b) ++ [32, 119, 41])
def prT2 (a b : Nat) : List UInt8 := (([120, 32, 58, 61, 32] ++ (if a < b then prR a b else prL a b)) ++ [59, 32, 114, 101, 116, 117, 114, 110, 32, 120, 59])
def prT3 (b : Nat) : List UInt8 := (([120, 32, 58, 61, 32, 33, 117, 32] ++ opS b) ++ [32, 45, 118, 46, 49, 91, 48, 93, 59, 32, 114, 101, 116, 117, 114, 110, 32, 120, 59])
def prT4 (b : Nat) : List UInt8 := (([120, 32, 58, 61, 32, 40, 33, 117, 41, 32] ++ opS b) ++ [32, 40, 45, 40, 40, 118, 46, 49, 41, 91, 48, 93, 41, 41, 59, 32, 114, 101, 116, 117, 114, 110, 32, 120, 59])
def prT5 (b : Nat) : List UInt8 := (([120, 32, 58, 61, 32, 117, 32, 63, 32, 118, 32, 58, 32, 119, 32, 63, 32, 117, 32] ++ opS b) ++ [32, 118, 32, 58, 32, 119, 59, 32, 114, 101, 116, 117, 114, 110, 32, 120, 59])
def prT6 (b : Nat) : List UInt8 := (([120, 32, 58, 61, 32, 117, 32, 63, 32, 118, 32, 58, 32, 40, 119, 32, 63, 32, 40, 117, 32] ++ opS b) ++ [32, 118, 41, 32, 58, 32, 119, 41, 59, 32, 114, 101, 116, 117, 114, 110, 32, 120, 59])
def nmE (c : UInt8) : Ex := .mk 4 0 zr [c] []
def prE1 (a b : Nat) : Ex := if a < b then exN (opN a) [nmE 117, exN (opN b) [nmE 118, nmE 119]] else exN (opN b) [exN (opN a) [nmE 117, nmE 118], nmE 119]
def prE3 (b : Nat) : Ex := exN (opN b) [exN 5 [nmE 117], exN 11 [exN 21 [.mk 17 1 zr [] [nmE 118], .mk 2 0 zr [] []]]]
def prE5 (b : Nat) : Ex := exN 15 [nmE 117, nmE 118, exN 15 [nmE 119, exN (opN b) [nmE 117, nmE 118], nmE 119]]
def pgX (e : Ex) : Pg := ⟨[], [], [], [], [.mk 1 [120] [] 0 e [] zd [] []], [120]⟩
theorem pr1_00 : parseN (prT1 0 0) = .ok (pgX (prE1 0 0)) := by kernel_rfl
theorem pr2_00 : parseN (prT2 0 0) = .ok (pgX (prE1 0 0)) := by kernel_rfl
theorem pr1_01 : parseN (prT1 0 1) = .ok (pgX (prE1 0 1)) := by kernel_rfl
theorem pr2_01 : parseN (prT2 0 1) = .ok (pgX (prE1 0 1)) := by kernel_rfl
theorem pr1_02 : parseN (prT1 0 2) = .ok (pgX (prE1 0 2)) := by kernel_rfl
theorem pr2_02 : parseN (prT2 0 2) = .ok (pgX (prE1 0 2)) := by kernel_rfl
theorem pr1_03 : parseN (prT1 0 3) = .ok (pgX (prE1 0 3)) := by kernel_rfl
theorem pr2_03 : parseN (prT2 0 3) = .ok (pgX (prE1 0 3)) := by kernel_rfl
theorem pr1_04 : parseN (prT1 0 4) = .ok (pgX (prE1 0 4)) := by kernel_rfl
theorem pr2_04 : parseN (prT2 0 4) = .ok (pgX (prE1 0 4)) := by kernel_rfl
theorem pr1_10 : parseN (prT1 1 0) = .ok (pgX (prE1 1 0)) := by kernel_rfl
theorem pr2_10 : parseN (prT2 1 0) = .ok (pgX (prE1 1 0)) := by kernel_rfl
theorem pr1_11 : parseN (prT1 1 1) = .ok (pgX (prE1 1 1)) := by kernel_rfl
theorem pr2_11 : parseN (prT2 1 1) = .ok (pgX (prE1 1 1)) := by kernel_rfl
theorem pr1_12 : parseN (prT1 1 2) = .ok (pgX (prE1 1 2)) := by kernel_rfl
theorem pr2_12 : parseN (prT2 1 2) = .ok (pgX (prE1 1 2)) := by kernel_rfl
theorem pr1_13 : parseN (prT1 1 3) = .ok (pgX (prE1 1 3)) := by kernel_rfl
theorem pr2_13 : parseN (prT2 1 3) = .ok (pgX (prE1 1 3)) := by kernel_rfl
theorem pr1_14 : parseN (prT1 1 4) = .ok (pgX (prE1 1 4)) := by kernel_rfl
theorem pr2_14 : parseN (prT2 1 4) = .ok (pgX (prE1 1 4)) := by kernel_rfl
theorem pr1_20 : parseN (prT1 2 0) = .ok (pgX (prE1 2 0)) := by kernel_rfl
theorem pr2_20 : parseN (prT2 2 0) = .ok (pgX (prE1 2 0)) := by kernel_rfl
theorem pr1_21 : parseN (prT1 2 1) = .ok (pgX (prE1 2 1)) := by kernel_rfl
theorem pr2_21 : parseN (prT2 2 1) = .ok (pgX (prE1 2 1)) := by kernel_rfl
theorem pr1_23 : parseN (prT1 2 3) = .ok (pgX (prE1 2 3)) := by kernel_rfl
theorem pr2_23 : parseN (prT2 2 3) = .ok (pgX (prE1 2 3)) := by kernel_rfl
theorem pr1_24 : parseN (prT1 2 4) = .ok (pgX (prE1 2 4)) := by kernel_rfl
theorem pr2_24 : parseN (prT2 2 4) = .ok (pgX (prE1 2 4)) := by kernel_rfl
theorem pr1_30 : parseN (prT1 3 0) = .ok (pgX (prE1 3 0)) := by kernel_rfl
theorem pr2_30 : parseN (prT2 3 0) = .ok (pgX (prE1 3 0)) := by kernel_rfl
theorem pr1_31 : parseN (prT1 3 1) = .ok (pgX (prE1 3 1)) := by kernel_rfl
theorem pr2_31 : parseN (prT2 3 1) = .ok (pgX (prE1 3 1)) := by kernel_rfl
theorem pr1_32 : parseN (prT1 3 2) = .ok (pgX (prE1 3 2)) := by kernel_rfl
theorem pr2_32 : parseN (prT2 3 2) = .ok (pgX (prE1 3 2)) := by kernel_rfl
theorem pr1_33 : parseN (prT1 3 3) = .ok (pgX (prE1 3 3)) := by kernel_rfl
theorem pr2_33 : parseN (prT2 3 3) = .ok (pgX (prE1 3 3)) := by kernel_rfl
theorem pr1_34 : parseN (prT1 3 4) = .ok (pgX (prE1 3 4)) := by kernel_rfl
theorem pr2_34 : parseN (prT2 3 4) = .ok (pgX (prE1 3 4)) := by kernel_rfl
theorem pr1_40 : parseN (prT1 4 0) = .ok (pgX (prE1 4 0)) := by kernel_rfl
theorem pr2_40 : parseN (prT2 4 0) = .ok (pgX (prE1 4 0)) := by kernel_rfl
theorem pr1_41 : parseN (prT1 4 1) = .ok (pgX (prE1 4 1)) := by kernel_rfl
theorem pr2_41 : parseN (prT2 4 1) = .ok (pgX (prE1 4 1)) := by kernel_rfl
theorem pr1_42 : parseN (prT1 4 2) = .ok (pgX (prE1 4 2)) := by kernel_rfl
theorem pr2_42 : parseN (prT2 4 2) = .ok (pgX (prE1 4 2)) := by kernel_rfl
theorem pr1_43 : parseN (prT1 4 3) = .ok (pgX (prE1 4 3)) := by kernel_rfl
theorem pr2_43 : parseN (prT2 4 3) = .ok (pgX (prE1 4 3)) := by kernel_rfl
theorem pr1_44 : parseN (prT1 4 4) = .ok (pgX (prE1 4 4)) := by kernel_rfl
theorem pr2_44 : parseN (prT2 4 4) = .ok (pgX (prE1 4 4)) := by kernel_rfl
theorem pr1_22 : parseN (prT1 2 2) = .error ((1, 12), 4) := by kernel_rfl
theorem pr3_0 : parseN (prT3 0) = .ok (pgX (prE3 0)) := by kernel_rfl
theorem pr4_0 : parseN (prT4 0) = .ok (pgX (prE3 0)) := by kernel_rfl
theorem pr5_0 : parseN (prT5 0) = .ok (pgX (prE5 0)) := by kernel_rfl
theorem pr6_0 : parseN (prT6 0) = .ok (pgX (prE5 0)) := by kernel_rfl
theorem pr3_1 : parseN (prT3 1) = .ok (pgX (prE3 1)) := by kernel_rfl
theorem pr4_1 : parseN (prT4 1) = .ok (pgX (prE3 1)) := by kernel_rfl
theorem pr5_1 : parseN (prT5 1) = .ok (pgX (prE5 1)) := by kernel_rfl
theorem pr6_1 : parseN (prT6 1) = .ok (pgX (prE5 1)) := by kernel_rfl
theorem pr3_2 : parseN (prT3 2) = .ok (pgX (prE3 2)) := by kernel_rfl
theorem pr4_2 : parseN (prT4 2) = .ok (pgX (prE3 2)) := by kernel_rfl
theorem pr5_2 : parseN (prT5 2) = .ok (pgX (prE5 2)) := by kernel_rfl
theorem pr6_2 : parseN (prT6 2) = .ok (pgX (prE5 2)) := by kernel_rfl
theorem pr3_3 : parseN (prT3 3) = .ok (pgX (prE3 3)) := by kernel_rfl
theorem pr4_3 : parseN (prT4 3) = .ok (pgX (prE3 3)) := by kernel_rfl
theorem pr5_3 : parseN (prT5 3) = .ok (pgX (prE5 3)) := by kernel_rfl
theorem pr6_3 : parseN (prT6 3) = .ok (pgX (prE5 3)) := by kernel_rfl
theorem pr3_4 : parseN (prT3 4) = .ok (pgX (prE3 4)) := by kernel_rfl
theorem pr4_4 : parseN (prT4 4) = .ok (pgX (prE3 4)) := by kernel_rfl
theorem pr5_4 : parseN (prT5 4) = .ok (pgX (prE5 4)) := by kernel_rfl
theorem pr6_4 : parseN (prT6 4) = .ok (pgX (prE5 4)) := by kernel_rfl
theorem pr1N {a b : Nat} (ha : a < 5) (hb : b < 5) (h : ¬ (a = 2 ∧ b = 2)) : parseN (prT1 a b) = .ok (pgX (prE1 a b)) := by
 match a, b, ha, hb, h with
 | 0, 0, _, _, h => exact pr1_00
 | 0, 1, _, _, h => exact pr1_01
 | 0, 2, _, _, h => exact pr1_02
 | 0, 3, _, _, h => exact pr1_03
 | 0, 4, _, _, h => exact pr1_04
 | 1, 0, _, _, h => exact pr1_10
 | 1, 1, _, _, h => exact pr1_11
 | 1, 2, _, _, h => exact pr1_12
 | 1, 3, _, _, h => exact pr1_13
 | 1, 4, _, _, h => exact pr1_14
 | 2, 0, _, _, h => exact pr1_20
 | 2, 1, _, _, h => exact pr1_21
 | 2, 2, _, _, h => exact absurd ⟨rfl, rfl⟩ h
 | 2, 3, _, _, h => exact pr1_23
 | 2, 4, _, _, h => exact pr1_24
 | 3, 0, _, _, h => exact pr1_30
 | 3, 1, _, _, h => exact pr1_31
 | 3, 2, _, _, h => exact pr1_32
 | 3, 3, _, _, h => exact pr1_33
 | 3, 4, _, _, h => exact pr1_34
 | 4, 0, _, _, h => exact pr1_40
 | 4, 1, _, _, h => exact pr1_41
 | 4, 2, _, _, h => exact pr1_42
 | 4, 3, _, _, h => exact pr1_43
 | 4, 4, _, _, h => exact pr1_44
theorem pr2N {a b : Nat} (ha : a < 5) (hb : b < 5) (h : ¬ (a = 2 ∧ b = 2)) : parseN (prT2 a b) = .ok (pgX (prE1 a b)) := by
 match a, b, ha, hb, h with
 | 0, 0, _, _, h => exact pr2_00
 | 0, 1, _, _, h => exact pr2_01
 | 0, 2, _, _, h => exact pr2_02
 | 0, 3, _, _, h => exact pr2_03
 | 0, 4, _, _, h => exact pr2_04
 | 1, 0, _, _, h => exact pr2_10
 | 1, 1, _, _, h => exact pr2_11
 | 1, 2, _, _, h => exact pr2_12
 | 1, 3, _, _, h => exact pr2_13
 | 1, 4, _, _, h => exact pr2_14
 | 2, 0, _, _, h => exact pr2_20
 | 2, 1, _, _, h => exact pr2_21
 | 2, 2, _, _, h => exact absurd ⟨rfl, rfl⟩ h
 | 2, 3, _, _, h => exact pr2_23
 | 2, 4, _, _, h => exact pr2_24
 | 3, 0, _, _, h => exact pr2_30
 | 3, 1, _, _, h => exact pr2_31
 | 3, 2, _, _, h => exact pr2_32
 | 3, 3, _, _, h => exact pr2_33
 | 3, 4, _, _, h => exact pr2_34
 | 4, 0, _, _, h => exact pr2_40
 | 4, 1, _, _, h => exact pr2_41
 | 4, 2, _, _, h => exact pr2_42
 | 4, 3, _, _, h => exact pr2_43
 | 4, 4, _, _, h => exact pr2_44
theorem pr3N {b : Nat} (hb : b < 5) : parseN (prT3 b) = .ok (pgX (prE3 b)) := by
 match b, hb with
 | 0, _ => exact pr3_0
 | 1, _ => exact pr3_1
 | 2, _ => exact pr3_2
 | 3, _ => exact pr3_3
 | 4, _ => exact pr3_4
theorem pr4N {b : Nat} (hb : b < 5) : parseN (prT4 b) = .ok (pgX (prE3 b)) := by
 match b, hb with
 | 0, _ => exact pr4_0
 | 1, _ => exact pr4_1
 | 2, _ => exact pr4_2
 | 3, _ => exact pr4_3
 | 4, _ => exact pr4_4
theorem pr5N {b : Nat} (hb : b < 5) : parseN (prT5 b) = .ok (pgX (prE5 b)) := by
 match b, hb with
 | 0, _ => exact pr5_0
 | 1, _ => exact pr5_1
 | 2, _ => exact pr5_2
 | 3, _ => exact pr5_3
 | 4, _ => exact pr5_4
theorem pr6N {b : Nat} (hb : b < 5) : parseN (prT6 b) = .ok (pgX (prE5 b)) := by
 match b, hb with
 | 0, _ => exact pr6_0
 | 1, _ => exact pr6_1
 | 2, _ => exact pr6_2
 | 3, _ => exact pr6_3
 | 4, _ => exact pr6_4
theorem opS_le (j : Nat) : (opS j).length ≤ 2 := by unfold opS; repeat' (first | split | simp)
theorem prLen (a b : Nat) : (prT1 a b).length ≤ 8192 ∧ (prT2 a b).length ≤ 8192 ∧ (prT3 b).length ≤ 8192 ∧ (prT4 b).length ≤ 8192 ∧ (prT5 b).length ≤ 8192 ∧ (prT6 b).length ≤ 8192 := by
 have h1 := opS_le a
 have h2 := opS_le b
 refine ⟨?_, ?_, ?_, ?_, ?_, ?_⟩
 ·simp only [prT1, List.length_append, List.length_cons, List.length_nil]; omega
 ·unfold prT2
  split <;> simp only [prL, prR, List.length_append, List.length_cons, List.length_nil] <;> omega
 ·simp only [prT3, List.length_append, List.length_cons, List.length_nil]; omega
 ·simp only [prT4, List.length_append, List.length_cons, List.length_nil]; omega
 ·simp only [prT5, List.length_append, List.length_cons, List.length_nil]; omega
 ·simp only [prT6, List.length_append, List.length_cons, List.length_nil]; omega
theorem prOk1 : ∀ a < 5, ∀ b < 5, pgOk (pgX (prE1 a b)) = true := by decide +kernel
theorem prOk3 : ∀ b < 5, pgOk (pgX (prE3 b)) = true ∧ pgOk (pgX (prE5 b)) = true := by decide +kernel
theorem opS_gi {j : Nat} (h : j < 5) : gi [PVal.str [124, 124], .str [38, 38], .str [60], .str [43], .str [42]] j = .str (opS j) := by
 match j, h with
 | 0, _ => rfl
 | 1, _ => rfl
 | 2, _ => rfl
 | 3, _ => rfl
 | 4, _ => rfl
theorem lvI_gi {j : Nat} (h : j < 5) : gi [PVal.int .i64 1, .int .i64 2, .int .i64 3, .int .i64 4, .int .i64 5] j = .int .i64 ((j : Int) + 1) := by
 match j, h with
 | 0, _ => rfl
 | 1, _ => rfl
 | 2, _ => rfl
 | 3, _ => rfl
 | 4, _ => rfl
theorem pgX_V (e : Ex) : ∃ s, pgV (pgX e) = .agg [.nils, .nils, .nils, .nils, .slc [s], .str [120]] ∧ Closed s := ⟨smV (.mk 1 [120] [] 0 e [] zd [] []), by simp [pgV, pgC, pgX, strsV, fnsV, desV, smsV, smL, smV], smV_closed _⟩
end Go.LexSem
