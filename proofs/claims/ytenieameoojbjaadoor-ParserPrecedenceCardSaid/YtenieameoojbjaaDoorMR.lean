/-
 Texts joined: PaAI.
-/
import Derived.Test.YtenieameoojbjaaDoorMQ
set_option linter.unusedVariables false
set_option linter.unusedSimpArgs false
set_option linter.loopingSimpArgs false
-- CLOSERS: PCL, TCL, DCL, FCL, RCL, MCL, BCL, GCL
set_option maxHeartbeats 32000000
set_option maxRecDepth 8000
namespace Go.LexSem
open Go Go.V Go.Proofs Go.Num

/-- Parse, of the first text. -/
theorem parse_1 {a b : Nat} (ha : a < 5) (hb : b < 5) : ∃ B x p1 p2 k, FSem C 5 [.str (prT1 a b)] [] (fun r st => r = .ret (.tuple [.agg [.nils, .nils, .nils, .nils, B, .str x], .agg [.int .i64 p1, .int .i64 p2], .int .i64 k]) ∧ st = []) ∧ Closed B ∧
 ((a = 2 ∧ b = 2 ∧ B = .nils ∧ k = 4) ∨ (¬(a = 2 ∧ b = 2) ∧ ∃ c, B = .slc [c] ∧ x = [120] ∧ k = 0 ∧ Closed c ∧ pgV (pgX (prE1 a b)) = .agg [.nils, .nils, .nils, .nils, .slc [c], .str [120]])) := by
 have hp := parse_sem (prT1 a b)
 obtain ⟨l1, _⟩ := prLen a b
 by_cases h : a = 2 ∧ b = 2
 ·obtain ⟨rfl, rfl⟩ := h
  rw [resV_er ((parseF_N l1).trans pr1_22), zpg_V] at hp
  unfold posV at hp
  exact ⟨.nils, [], _, _, _, hp, by simp only [CL], .inl ⟨rfl, rfl, rfl, rfl⟩⟩
 ·obtain ⟨c, hc, hcl⟩ := pgX_V (prE1 a b)
  rw [resV_ok ((parseF_N l1).trans (pr1N ha hb h)), hc] at hp
  unfold posV at hp
  exact ⟨.slc [c], [120], _, _, _, hp, by simp only [CL, eq_true hcl, and_self], .inr ⟨h, c, rfl, rfl, rfl, hcl, hc⟩⟩
theorem parserPrecedence_sem (z : Int) (hz : (Lit.int .u8 z).wf = true) (z2 : Int) (hz2 : (Lit.int .u8 z2).wf = true) : FSem C 3 [.int .u8 z, .int .u8 z2] [] fun r st => r = .ret (.bool true) ∧ st = [] := by
 obtain ⟨n, rfl, hn⟩ : ∃ n : Nat, z = n ∧ n ≤ 255 := by
  simp [Lit.wf, IntKind.min, IntKind.max, IntKind.signed, IntKind.bits] at hz
  exact ⟨z.toNat, by omega, by omega⟩
 obtain ⟨kd, rfl, hkd⟩ : ∃ n : Nat, z2 = n ∧ n ≤ 255 := by
  simp [Lit.wf, IntKind.min, IntKind.max, IntKind.signed, IntKind.bits] at hz2
  exact ⟨z2.toNat, by omega, by omega⟩
 have ha : n % 5 < 5 := Nat.mod_lt _ (by decide)
 have hb : kd % 5 < 5 := Nat.mod_lt _ (by decide)
 have m1 : ((n : Int)).tmod 5 = ((n % 5 : Nat) : Int) := tmodN n 5
 have m2 : ((kd : Int)).tmod 5 = ((kd % 5 : Nat) : Int) := tmodN kd 5
 generalize n % 5 = a at ha m1
 generalize kd % 5 = b at hb m2
 have ga := opS_gi ha
 have gb := opS_gi hb
 have ia := lvI_gi ha
 have ib := lvI_gi hb
 have la := opS_le a
 have lb := opS_le b
 obtain ⟨B, x, p1, p2, k, hP1, hB, hcase⟩ := parse_1 ha hb
 have hBr : ∀ f, ren f B = B := hB
 simp only [prT1, List.cons_append, List.nil_append] at hP1
 refine FSem.enter' (C := C) (n := 205) Tryd.func3 rfl rfl ok_3 (by simp) ?_
 simp only [argEnv]
 refine WC.rs fun K hK => ?_
 simp (maxSteps := 1000000) only [↓EJ, EX, FA, simprocAttr]
 refine hK _ ?_; try clear hK K
 refine WC.trim [0, 1, 4, 5, 6, 7, 8, 9, 11, 12, 13, 14, 15, 17, 18, 20, 21, 23, 24, 26, 27, 29, 60, 105] ?_
 simp only [ET, simprocAttr]
 refine WC.zs [0] (by simp only [cutZ, List.drop_zero, List.drop_succ_cons, List.take_zero, List.take_succ_cons, Option.map_some]; rfl) fun K hK => ?_
 simp (maxSteps := 1000000) only [↓EJ, EX, FA, simprocAttr, EZ]
 refine hK _ ?_; try clear hK K
 refine WC.trim [0, 1, 4, 5, 6, 7, 8, 9, 11, 12, 13, 14, 15, 17, 18, 20, 21, 23, 24, 26, 27, 29, 60, 105] ?_
 simp only [ET, simprocAttr]
 refine WC.zs [0] (by simp only [cutZ, List.drop_zero, List.drop_succ_cons, List.take_zero, List.take_succ_cons, Option.map_some]; rfl) fun K hK => ?_
 simp (maxSteps := 1000000) only [↓EJ, EX, FA, simprocAttr, EZ]
 refine hK _ ?_; try clear hK K
 refine WC.trim [0, 1, 4, 5, 6, 7, 8, 9, 11, 12, 13, 14, 15, 17, 18, 20, 21, 23, 24, 26, 27, 29, 60, 105] ?_
 simp only [ET, simprocAttr]
 refine WC.rs fun K hK => ?_
 simp (maxSteps := 1000000) (disch := omega) only [↓EJ, EX, FA, simprocAttr, w64, wu64, m1, m2]
 refine hK _ ?_; try clear hK K
 refine WC.trim [0, 1, 4, 5, 6, 7, 8, 9, 11, 12, 13, 14, 15, 17, 18, 20, 21, 23, 24, 26, 27, 29, 60, 105] ?_
 simp only [ET, simprocAttr]
 refine WC.sx (X := Unit) (fun _ => True) (fun _ => ⟨[(11, .int .i64 k), (9, .ptr (.l 0) 0 0), (8, .int .i64 b), (7, .int .i64 a), (6, .slc [.int .i64 1, .int .i64 2, .int .i64 3, .int .i64 4, .int .i64 5]), (5, .slc [.str [124, 124], .str [38, 38], .str [60], .str [43], .str [42]])], [], [.row [.agg [.nils, .nils, .nils, .nils, B, .str x]] 6 28], []⟩) ?_ ?_
 ·refine WC.t1 [(0, 0), (1, 0), (2, 0), (3, 0), (4, 0), (5, 0), (6, 0), (7, 0), (8, 0), (9, 0), (10, 0), (11, 0), (12, 1), (13, 0), (14, 0), (15, 0), (16, 0), (17, 1), (18, 1), (19, 1), (20, 1), (21, 0)] (.st ⟨0, 0, true, []⟩ (.st ⟨1, 0, true, []⟩ (.st ⟨2, 0, true, []⟩ (.st ⟨3, 0, true, []⟩ (.st ⟨4, 0, true, []⟩ (.st ⟨5, 0, true, []⟩ (.st ⟨6, 0, true, []⟩ (.st ⟨7, 0, true, []⟩ (.st ⟨8, 0, true, []⟩ (.st ⟨9, 0, true, []⟩ (.st ⟨10, 0, true, []⟩ (.st ⟨11, 0, true, []⟩ (.three ⟨12, 1, false, []⟩ (.st ⟨13, 0, true, []⟩ (.st ⟨14, 0, true, []⟩ (.st ⟨15, 0, true, []⟩ (.st ⟨16, 0, true, []⟩ (.two ⟨17, 1, false, [0, 1, 2, 3, 4, 5, 6, 7, 8, 9, 10, 11, 13, 14, 15, 16]⟩ (.leaf [⟨18, 1, false, [0, 1, 2, 3, 4, 5, 6, 7, 8, 9, 10, 11, 13, 14, 15, 16]⟩, ⟨19, 1, false, [15, 16]⟩, ⟨20, 1, false, [16]⟩, ⟨21, 0, false, []⟩]) ⟨18, 1, false, [0, 1, 2, 3, 4, 5, 6, 7, 8, 9, 10, 11, 13, 14, 15, 16]⟩ (.leaf [⟨17, 1, false, [0, 1, 2, 3, 4, 5, 6, 7, 8, 9, 10, 11, 13, 14, 15, 16]⟩, ⟨19, 1, false, [15, 16]⟩, ⟨20, 1, false, [16]⟩, ⟨21, 0, false, []⟩])))))) ⟨17, 1, false, [0, 1, 2, 3, 4, 5, 6, 7, 8, 9, 10, 11]⟩ (.two ⟨12, 1, false, []⟩ (.leaf [⟨13, 0, true, []⟩, ⟨14, 0, true, []⟩, ⟨15, 0, true, []⟩, ⟨16, 0, true, []⟩, ⟨18, 1, false, [0, 1, 2, 3, 4, 5, 6, 7, 8, 9, 10, 11, 13, 14, 15, 16]⟩, ⟨19, 1, false, [15, 16]⟩, ⟨20, 1, false, [16]⟩, ⟨21, 0, false, []⟩]) ⟨18, 1, false, [0, 1, 2, 3, 4, 5, 6, 7, 8, 9, 10, 11]⟩ (.leaf [⟨12, 1, false, []⟩, ⟨13, 0, false, []⟩, ⟨14, 0, false, []⟩, ⟨15, 0, true, []⟩, ⟨16, 0, true, []⟩, ⟨19, 1, false, [15, 16]⟩, ⟨20, 1, false, [16]⟩, ⟨21, 0, false, []⟩])) ⟨18, 1, false, [0, 1, 2, 3, 4, 5, 6, 7, 8, 9, 10, 11]⟩ (.two ⟨12, 1, false, []⟩ (.leaf [⟨13, 0, true, []⟩, ⟨14, 0, true, []⟩, ⟨15, 0, true, []⟩, ⟨16, 0, true, []⟩, ⟨17, 1, false, [0, 1, 2, 3, 4, 5, 6, 7, 8, 9, 10, 11, 13, 14, 15, 16]⟩, ⟨19, 1, false, [15, 16]⟩, ⟨20, 1, false, [16]⟩, ⟨21, 0, false, []⟩]) ⟨17, 1, false, [0, 1, 2, 3, 4, 5, 6, 7, 8, 9, 10, 11]⟩ (.leaf [⟨12, 1, false, []⟩, ⟨13, 0, false, []⟩, ⟨14, 0, false, []⟩, ⟨15, 0, true, []⟩, ⟨16, 0, true, []⟩, ⟨19, 1, false, [15, 16]⟩, ⟨20, 1, false, [16]⟩, ⟨21, 0, false, []⟩]))))))))))))))) [0, 0, 3, 7, 15, 31, 0, 0, 192, 448, 1023, 2047, 4095, 8191, 16383, 16383, 16383, 0, 0, 425983, 983039, 2097151] mo (by kernel_rfl) (by simp only [EPt, EPl, List.getElem?_cons_zero, List.getElem?_cons_succ]; rfl) ?_
  simp (maxSteps := 1000000) only [↓EJ, EX, FA, simprocAttr, EDt, Int.toNat_natCast, ga, gb, List.length_append, List.length_cons, List.length_nil]
  repeat refine And.intro (by omega) ?_
  repeat' first
   | (refine CallX.mk (CallW.pure hP1 (by simp only [CL, and_self]) (by simp only [CL, eq_true hB, and_self]) ?_)
      simp (maxSteps := 1000000) only [↓EJ, EX, FA, simprocAttr, EDt, XS, Int.toNat_natCast, ga, gb, List.length_append, List.length_cons, List.length_nil]
      repeat refine And.intro (by omega) ?_)
   | refine And.intro ?_ ?_
  all_goals first
   | omega
   | (refine ⟨(), [0], ?_⟩
      refine ⟨by simp, ?_, ?_, ?_, rfl⟩ <;> simp only [EV, EB, EL, ER, ET, and_self, true_and, and_true, Nat.reduceEqDiff, reduceCtorEq, reduceIte, hBr, pick]
      done)
   | (refine ⟨(), [1], ?_⟩
      refine ⟨by simp, ?_, ?_, ?_, rfl⟩ <;> simp only [EV, EB, EL, ER, ET, and_self, true_and, and_true, Nat.reduceEqDiff, reduceCtorEq, reduceIte, hBr, pick]
      done)
 rintro ⟨⟩ _
 clear hBr hP1
 rcases hcase with ⟨rfl, rfl, rfl, rfl⟩ | ⟨hne, c, rfl, rfl, rfl, hc, hv⟩
 ·refine WC.sK fun K5 hK5 => ?_
  refine WC.rs fun K hK => ?_
  simp (maxSteps := 1000000) only [↓EJ, EX, FA, simprocAttr]
  refine hK _ ?_; try clear hK K
  refine WC.trim [0, 1, 4, 5, 6, 7, 8, 9, 11, 12, 13, 14, 15, 17, 18, 20, 21, 23, 24, 26, 27, 29, 60, 105] ?_
  simp only [ET, simprocAttr]
  refine WC.cond (c := .tmp 60) rfl (fun h => ?_) (fun h => ?_)
  rotate_left
  ·simp at h
  refine WC.rs fun K hK => ?_
  simp (maxSteps := 1000000) only [↓EJ, EX, FA, simprocAttr, List.length_nil]
  refine CallX.mk (CallW.pure awake_sem (by simp only [CL]) (by simp only [CL]) ?_)
  simp (maxSteps := 1000000) only [↓EJ, EX, FA, simprocAttr]
  refine hK _ ?_; try clear hK K
  refine WC.trim [0, 1, 4, 5, 6, 7, 8, 9, 11, 12, 13, 14, 15, 17, 18, 20, 21, 23, 24, 26, 27, 29, 60, 105] ?_
  simp only [ET, simprocAttr]
  refine WC.ret ?_
  simp (maxSteps := 1000000) only [↓EJ, EX, FA, simprocAttr, EQ, FnQ, Tryd.results3, wResL, tup, List.reverse_cons, List.reverse_nil, true_and]
  exact endsPure' (by simp only [CL]) rfl
 clear hB
 have hcr : ∀ f, ren f c = c := hc
 refine WC.sx (X := Unit) (fun _ => True) (fun _ => ⟨[(9, .ptr (.l 0) 0 0), (11, .int .i64 0), (8, .int .i64 b), (7, .int .i64 a), (6, .slc [.int .i64 1, .int .i64 2, .int .i64 3, .int .i64 4, .int .i64 5]), (5, .slc [.str [124, 124], .str [38, 38], .str [60], .str [43], .str [42]])], [], [.row [.agg [.nils, .nils, .nils, .nils, .slc [c], .str [120]]] 6 28], []⟩) ?_ ?_
 ·by_cases ha2 : a = 2
  ·subst ha2
   have e2 : ((b : Int) = 2) = False := eq_false (by omega)
   refine WC.rs fun K hK => ?_
   simp (maxSteps := 1000000) only [↓EJ, EX, FA, simprocAttr, e2, decide_false]
   refine hK _ ?_; try clear hK K
   refine WC.trim [0, 1, 4, 5, 6, 7, 8, 9, 11, 12, 13, 14, 15, 17, 18, 20, 21, 23, 24, 26, 27, 29, 60, 105] ?_
   simp only [ET, simprocAttr]
   refine WC.cond (c := .tmp 60) rfl (fun h => ?_) (fun h => ?_)
   ·simp at h
   refine WC.skip ?_
   refine ⟨(), [0], trivial, ?_⟩
   refine ⟨by simp, by simp only [EV, EB, EL, ER, ET, and_self, true_and, and_true, Nat.reduceEqDiff, reduceCtorEq, reduceIte, hcr, Int.cast_ofNat_Int], by simp only [EV, EB, EL, ER, ET, and_self, true_and, and_true, Nat.reduceEqDiff, reduceCtorEq, reduceIte, hcr, Int.cast_ofNat_Int], by simp only [EV, EB, EL, ER, ET, and_self, true_and, and_true, Nat.reduceEqDiff, reduceCtorEq, reduceIte, hcr, Int.cast_ofNat_Int, pick], rfl⟩
  ·have e1 : ((a : Int) = 2) = False := eq_false (by omega)
   refine WC.rs fun K hK => ?_
   simp (maxSteps := 1000000) only [↓EJ, EX, FA, simprocAttr, e1, decide_false]
   refine hK _ ?_; try clear hK K
   refine WC.trim [0, 1, 4, 5, 6, 7, 8, 9, 11, 12, 13, 14, 15, 17, 18, 20, 21, 23, 24, 26, 27, 29, 60, 105] ?_
   simp only [ET, simprocAttr]
   refine WC.cond (c := .tmp 60) rfl (fun h => ?_) (fun h => ?_)
   ·simp at h
   refine WC.skip ?_
   refine ⟨(), [0], trivial, ?_⟩
   refine ⟨by simp, by simp only [EV, EB, EL, ER, ET, and_self, true_and, and_true, Nat.reduceEqDiff, reduceCtorEq, reduceIte, hcr, Int.cast_ofNat_Int], by simp only [EV, EB, EL, ER, ET, and_self, true_and, and_true, Nat.reduceEqDiff, reduceCtorEq, reduceIte, hcr, Int.cast_ofNat_Int], by simp only [EV, EB, EL, ER, ET, and_self, true_and, and_true, Nat.reduceEqDiff, reduceCtorEq, reduceIte, hcr, Int.cast_ofNat_Int, pick], rfl⟩
 rintro ⟨⟩ _
 refine WC.ds [⟨0, 0, false, []⟩, ⟨1, 0, false, []⟩, ⟨2, 0, false, []⟩, ⟨3, 0, false, []⟩, ⟨4, 0, false, []⟩, ⟨5, 0, false, []⟩, ⟨6, 0, false, []⟩, ⟨7, 0, false, []⟩, ⟨8, 0, false, []⟩, ⟨9, 0, false, []⟩, ⟨10, 0, false, []⟩, ⟨11, 0, false, []⟩, ⟨12, 0, false, []⟩] [0, 0, 3, 7, 15, 31, 0, 0, 192, 448, 1023, 2047, 4095] mo (by kernel_rfl) (by simp only [EPl, List.getElem?_cons_zero, List.getElem?_cons_succ]; rfl) fun K hK => ?_
 simp (maxSteps := 1000000) only [↓EJ, EX, FA, simprocAttr, Int.toNat_natCast, ga, gb, List.length_append, List.length_cons, List.length_nil]
 repeat refine And.intro (by omega) ?_
 refine hK _ ?_; try clear hK K
 refine WC.trim [0, 1, 4, 5, 6, 7, 8, 9, 11, 12, 13, 14, 15, 17, 18, 20, 21, 23, 24, 26, 27, 29, 60, 105] ?_
 simp only [ET, simprocAttr]
 refine WC.ds [⟨0, 0, false, []⟩, ⟨1, 0, false, []⟩, ⟨2, 0, false, []⟩, ⟨3, 0, false, []⟩, ⟨4, 0, false, []⟩, ⟨5, 0, false, []⟩, ⟨6, 0, false, []⟩, ⟨7, 0, false, []⟩, ⟨8, 0, false, []⟩, ⟨9, 0, false, []⟩, ⟨10, 0, false, []⟩, ⟨11, 0, false, []⟩, ⟨12, 0, false, []⟩] [0, 0, 3, 7, 15, 31, 0, 0, 192, 448, 1023, 2047, 4095] mo (by kernel_rfl) (by simp only [EPl, List.getElem?_cons_zero, List.getElem?_cons_succ]; rfl) fun K hK => ?_
 simp (maxSteps := 1000000) only [↓EJ, EX, FA, simprocAttr, Int.toNat_natCast, ga, gb, List.length_append, List.length_cons, List.length_nil]
 repeat refine And.intro (by omega) ?_
 refine hK _ ?_; try clear hK K
 refine WC.trim [0, 1, 4, 5, 6, 7, 8, 9, 11, 12, 13, 14, 15, 17, 18, 20, 21, 23, 24, 26, 27, 29, 60, 105] ?_
 simp only [ET, simprocAttr]
 refine WC.rs fun K hK => ?_
 simp (maxSteps := 1000000) only [↓EJ, EX, FA, simprocAttr]
 refine hK _ ?_; try clear hK K
 refine WC.trim [0, 1, 4, 5, 6, 7, 8, 9, 11, 12, 13, 14, 15, 17, 18, 20, 21, 23, 24, 26, 27, 29, 60, 105] ?_
 simp only [ET, simprocAttr]
 refine WC.sx (X := Unit) (fun _ => True) (fun _ => ⟨[(14, .str (if a < b then prR a b else prL a b)), (9, .ptr (.l 0) 0 0), (11, .int .i64 0), (8, .int .i64 b), (5, .slc [.str [124, 124], .str [38, 38], .str [60], .str [43], .str [42]])], [], [.row [.agg [.nils, .nils, .nils, .nils, .slc [c], .str [120]]] 6 28], []⟩) ?_ ?_
 ·refine WC.ds [⟨0, 0, false, []⟩, ⟨1, 0, false, []⟩, ⟨2, 0, false, []⟩, ⟨3, 0, false, []⟩, ⟨4, 0, false, []⟩, ⟨5, 0, false, []⟩, ⟨6, 0, false, []⟩, ⟨7, 0, false, []⟩, ⟨8, 0, false, []⟩] [0, 0, 3, 7, 0, 0, 48, 112, 255] mo (by kernel_rfl) (by simp only [EPl, List.getElem?_cons_zero, List.getElem?_cons_succ]; rfl) fun K hK => ?_
  simp (maxSteps := 1000000) only [↓EJ, EX, FA, simprocAttr, Int.toNat_natCast, ia, ib]
  repeat refine And.intro (by omega) ?_
  refine hK _ ?_; try clear hK K
  refine WC.trim [0, 1, 4, 5, 6, 7, 8, 9, 11, 12, 13, 14, 15, 17, 18, 20, 21, 23, 24, 26, 27, 29, 60, 105] ?_
  simp only [ET, simprocAttr]
  by_cases hab : a < b
  ·rw [if_pos hab]
   refine WC.cond (c := .tmp 105) rfl (fun h => ?_) (fun h => ?_)
   rotate_left
   ·simp at h; omega
   refine WC.r1 ?_
   simp (maxSteps := 1000000) only [↓EJ, EX, FA, simprocAttr]
   refine ⟨(), [0], ?_⟩
   refine ⟨by simp, by simp only [EV, EB, EL, ER, ET, and_self, true_and, and_true, Nat.reduceEqDiff, reduceCtorEq, reduceIte, hcr, prR, List.cons_append, List.nil_append], by simp only [EV, EB, EL, ER, ET, and_self, true_and, and_true, Nat.reduceEqDiff, reduceCtorEq, reduceIte, hcr, prR, List.cons_append, List.nil_append], by simp only [EV, EB, EL, ER, ET, and_self, true_and, and_true, Nat.reduceEqDiff, reduceCtorEq, reduceIte, hcr, prR, List.cons_append, List.nil_append, pick], rfl⟩
  ·rw [if_neg hab]
   refine WC.cond (c := .tmp 105) rfl (fun h => ?_) (fun h => ?_)
   ·simp at h; omega
   refine WC.skip ?_
   refine ⟨(), [0], trivial, ?_⟩
   refine ⟨by simp, by simp only [EV, EB, EL, ER, ET, and_self, true_and, and_true, Nat.reduceEqDiff, reduceCtorEq, reduceIte, hcr, prL, List.cons_append, List.nil_append], by simp only [EV, EB, EL, ER, ET, and_self, true_and, and_true, Nat.reduceEqDiff, reduceCtorEq, reduceIte, hcr, prL, List.cons_append, List.nil_append], by simp only [EV, EB, EL, ER, ET, and_self, true_and, and_true, Nat.reduceEqDiff, reduceCtorEq, reduceIte, hcr, prL, List.cons_append, List.nil_append, pick], rfl⟩
 rintro ⟨⟩ _
 have hS1 := sameProgram (pgX (prE1 a b)) (prOk1 a ha b hb)
 rw [hv] at hS1
 obtain ⟨l1, l2, l3, l4, l5, l6⟩ := prLen a b
 have hP2 := parse_sem (prT2 a b)
 rw [resV_ok ((parseF_N l2).trans (pr2N ha hb hne)), hv] at hP2
 unfold posV at hP2
 obtain ⟨c3, v3, k3⟩ := pgX_V (prE3 b)
 have hP3 := parse_sem (prT3 b)
 rw [resV_ok ((parseF_N l3).trans (pr3N hb)), v3] at hP3
 unfold posV at hP3
 have hP4 := parse_sem (prT4 b)
 rw [resV_ok ((parseF_N l4).trans (pr4N hb)), v3] at hP4
 unfold posV at hP4
 have hS2 := sameProgram (pgX (prE3 b)) (prOk3 b hb).1
 rw [v3] at hS2
 obtain ⟨c5, v5, k5⟩ := pgX_V (prE5 b)
 have hP5 := parse_sem (prT5 b)
 rw [resV_ok ((parseF_N l5).trans (pr5N hb)), v5] at hP5
 unfold posV at hP5
 have hP6 := parse_sem (prT6 b)
 rw [resV_ok ((parseF_N l6).trans (pr6N hb)), v5] at hP6
 unfold posV at hP6
 have hS3 := sameProgram (pgX (prE5 b)) (prOk3 b hb).2
 rw [v5] at hS3
 clear hv v3 v5 ga la ha ia ib m1 m2 l1 l3 l4 l5 l6
 simp only [prT2] at hP2 l2
 generalize (if a < b then prR a b else prL a b) = sel at hP2 l2
 simp only [List.cons_append, List.nil_append, List.length_append, List.length_cons, List.length_nil] at hP2 l2
 simp only [prT3, List.cons_append, List.nil_append] at hP3
 simp only [prT4, List.cons_append, List.nil_append] at hP4
 simp only [prT5, List.cons_append, List.nil_append] at hP5
 simp only [prT6, List.cons_append, List.nil_append] at hP6
 refine WC.rs fun K hK => ?_
 simp (maxSteps := 1000000) only [↓EJ, EX, FA, simprocAttr, Int.toNat_natCast, gb, List.length_append, List.length_cons, List.length_nil]
 repeat refine And.intro (by omega) ?_
 refine CallX.mk (CallW.pure hP2 (by simp only [CL, and_self]) (by simp only [CL, eq_true hc, eq_true k3, eq_true k5, and_self]) ?_)
 simp (maxSteps := 1000000) only [↓EJ, EX, FA, simprocAttr, XS]
 refine hK _ ?_; try clear hK K
 refine WC.trim [0, 1, 4, 5, 6, 7, 8, 9, 11, 12, 13, 14, 15, 17, 18, 20, 21, 23, 24, 26, 27, 29, 60, 105] ?_
 simp only [ET, simprocAttr]
 refine WC.rs fun K hK => ?_
 simp (maxSteps := 1000000) only [↓EJ, EX, FA, simprocAttr, Int.toNat_natCast, gb, List.length_append, List.length_cons, List.length_nil]
 repeat refine And.intro (by omega) ?_
 refine CallX.mk (CallW.pure hP3 (by simp only [CL, and_self]) (by simp only [CL, eq_true hc, eq_true k3, eq_true k5, and_self]) ?_)
 simp (maxSteps := 1000000) only [↓EJ, EX, FA, simprocAttr, XS]
 refine hK _ ?_; try clear hK K
 refine WC.trim [0, 1, 4, 5, 6, 7, 8, 9, 11, 12, 13, 14, 15, 17, 18, 20, 21, 23, 24, 26, 27, 29, 60, 105] ?_
 simp only [ET, simprocAttr]
 refine WC.rs fun K hK => ?_
 simp (maxSteps := 1000000) only [↓EJ, EX, FA, simprocAttr, Int.toNat_natCast, gb, List.length_append, List.length_cons, List.length_nil]
 repeat refine And.intro (by omega) ?_
 refine CallX.mk (CallW.pure hP4 (by simp only [CL, and_self]) (by simp only [CL, eq_true hc, eq_true k3, eq_true k5, and_self]) ?_)
 simp (maxSteps := 1000000) only [↓EJ, EX, FA, simprocAttr, XS]
 refine hK _ ?_; try clear hK K
 refine WC.trim [0, 1, 4, 5, 6, 7, 8, 9, 11, 12, 13, 14, 15, 17, 18, 20, 21, 23, 24, 26, 27, 29, 60, 105] ?_
 simp only [ET, simprocAttr]
 refine WC.rs fun K hK => ?_
 simp (maxSteps := 1000000) only [↓EJ, EX, FA, simprocAttr, Int.toNat_natCast, gb, List.length_append, List.length_cons, List.length_nil]
 repeat refine And.intro (by omega) ?_
 refine CallX.mk (CallW.pure hP5 (by simp only [CL, and_self]) (by simp only [CL, eq_true hc, eq_true k3, eq_true k5, and_self]) ?_)
 simp (maxSteps := 1000000) only [↓EJ, EX, FA, simprocAttr, XS]
 refine hK _ ?_; try clear hK K
 refine WC.trim [0, 1, 4, 5, 6, 7, 8, 9, 11, 12, 13, 14, 15, 17, 18, 20, 21, 23, 24, 26, 27, 29, 60, 105] ?_
 simp only [ET, simprocAttr]
 refine WC.rs fun K hK => ?_
 simp (maxSteps := 1000000) only [↓EJ, EX, FA, simprocAttr, Int.toNat_natCast, gb, List.length_append, List.length_cons, List.length_nil]
 repeat refine And.intro (by omega) ?_
 refine CallX.mk (CallW.pure hP6 (by simp only [CL, and_self]) (by simp only [CL, eq_true hc, eq_true k3, eq_true k5, and_self]) ?_)
 simp (maxSteps := 1000000) only [↓EJ, EX, FA, simprocAttr, XS]
 refine hK _ ?_; try clear hK K
 refine WC.trim [0, 1, 4, 5, 6, 7, 8, 9, 11, 12, 13, 14, 15, 17, 18, 20, 21, 23, 24, 26, 27, 29, 60, 105] ?_
 simp only [ET, simprocAttr]
 refine WC.rs fun K hK => ?_
 simp (maxSteps := 1000000) only [↓EJ, EX, FA, simprocAttr, List.length_cons, List.length_nil, Bool.not_true, Bool.not_false]
 refine CallX.mk (CallW.pure hS1 (by simp only [CL, eq_true hc, and_self]) (by simp only [CL]) ?_)
 simp (maxSteps := 1000000) only [↓EJ, EX, FA, simprocAttr]
 refine CallX.mk (CallW.pure hS2 (by simp only [CL, eq_true k3, and_self]) (by simp only [CL]) ?_)
 simp (maxSteps := 1000000) only [↓EJ, EX, FA, simprocAttr]
 refine CallX.mk (CallW.pure hS3 (by simp only [CL, eq_true k5, and_self]) (by simp only [CL]) ?_)
 simp (maxSteps := 1000000) only [↓EJ, EX, FA, simprocAttr]
 refine CallX.mk (CallW.pure awake_sem (by simp only [CL]) (by simp only [CL]) ?_)
 simp (maxSteps := 1000000) only [↓EJ, EX, FA, simprocAttr]
 refine hK _ ?_; try clear hK K
 refine WC.trim [0, 1, 4, 5, 6, 7, 8, 9, 11, 12, 13, 14, 15, 17, 18, 20, 21, 23, 24, 26, 27, 29, 60, 105] ?_
 simp only [ET, simprocAttr]
 refine WC.ret ?_
 simp (maxSteps := 1000000) only [↓EJ, EX, FA, simprocAttr, EQ, FnQ, Tryd.results3, wResL, tup, List.reverse_cons, List.reverse_nil, true_and]
 exact endsPure' (by simp only [CL]) rfl
end Go.LexSem
