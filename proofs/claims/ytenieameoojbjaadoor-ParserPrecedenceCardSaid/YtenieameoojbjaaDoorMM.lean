/-
 Texts joined: PaAA PaAB.
-/
import Derived.Test.YtenieameoojbjaaDoorML
import Derived.Test.YtenieameoojbjaaDoorMD
set_option linter.unusedVariables false
set_option linter.unusedSimpArgs false
set_option linter.loopingSimpArgs false
-- CLOSERS: PCL, TCL, DCL, FCL, RCL, MCL, BCL, GCL
set_option maxHeartbeats 64000000
set_option maxRecDepth 8000
namespace Go.LexSem
open Go Go.V Go.Proofs Go.Num

theorem prog_sem (ts : List Tok) (s0 : PS) (i0 : PInv ts s0) : PSem 10 [] ts s0 (progF ts s0) pgV := by
 obtain ⟨x, hx⟩ : ∃ x, x = progF ts s0 := ⟨_, rfl⟩
 rw [← hx]
 unfold progF at hx
 unfold PSem
 refine FSem.enter' (C := C) (n := 110) Tryd.func10 rfl rfl ok_10 (by simp) ?_
 simp only [argEnv]
 refine WC.rs fun K hK => ?_
 simp only [↓EJ, EX, FA, simprocAttr]
 refine hK _ ?_; try clear hK K
 refine WC.trim [0, 2, 3, 4, 5, 7, 18, 29, 38, 67, 106] ?_
 simp only [ET, simprocAttr]
 refine WC.rs fun K hK => ?_
 simp only [↓EJ, EX, FA, simprocAttr]
 refine hK _ ?_; try clear hK K
 refine WC.trim [0, 2, 3, 4, 5, 7, 18, 29, 38, 67, 106] ?_
 simp only [ET, simprocAttr]
 refine WC.sx (X := List (List UInt8) × PS) (fun y => PInv ts y.2 ∧ x = progK1 ts y.1 y.2) (fun y => ⟨[(3, .ptr (.l 1) 0 0), (2, .ptr (.l 0) 0 0), (0, .ptr (.o 0) 0 0)], [pblk ts y.2], [.row [.agg [.nils, .nils, .nils, .nils, .nils, .str []]] 6 28, .row [.agg [strsV y.1, .nils, .nils, .nils, .nils, .str []]] 6 28], []⟩) ?_ ?_
 ·refine WC.b1 ?_
  refine WC.loop (X := Nat × List (List UInt8) × PS) (fun y => if y.2.1 = [] then ⟨[(3, .ptr (.l 1) 0 0), (2, .ptr (.l 0) 0 0), (0, .ptr (.o 0) 0 0)], [pblk ts y.2.2], [.row [.agg [.nils, .nils, .nils, .nils, .nils, .str []]] 6 28, .row [.agg [.nils, .nils, .nils, .nils, .nils, .str []]] 6 28], []⟩ else ⟨[(3, .ptr (.l 1) 0 0), (2, .ptr (.l 0) 0 0), (0, .ptr (.o 0) 0 0)], [pblk ts y.2.2], [.row [.agg [.nils, .nils, .nils, .nils, .nils, .str []]] 6 28, .row [.agg [.ref (.l 2) 0 y.2.1.length, .nils, .nils, .nils, .nils, .str []]] 6 28, .row (y.2.1.map .str) 1 9], []⟩)
   (fun y => PInv ts y.2.2 ∧ rem ts y.2.2 + 1 ≤ y.1 ∧ y.2.1.length ≤ y.2.2.at_ ∧ x = bnd (paramsF ts y.1 y.2.1 y.2.2) (progK1 ts)) (fun y => y.1) (rem ts s0 + 1, [], s0) [0, 1] ⟨i0, Nat.le_refl _, Nat.zero_le _, hx⟩ ?_ ?_
  ·dsimp only
   rw [if_pos rfl]
   refine ⟨by simp, by simp only [EV, EB, EL, ER, ET, and_self, true_and, and_true, Nat.reduceEqDiff, reduceCtorEq, reduceIte, PRN, MRN, DRN, DS, MS, PGS, PGR, des_ren], by simp only [EV, EB, EL, ER, ET, and_self, true_and, and_true, Nat.reduceEqDiff, reduceCtorEq, reduceIte, PRN, MRN, DRN, DS, MS, PGS, PGR, des_ren], by simp only [EV, EB, EL, ER, ET, and_self, true_and, and_true, Nat.reduceEqDiff, reduceCtorEq, reduceIte, PRN, MRN, DRN, DS, MS, PGS, PGR, des_ren, pick], rfl⟩
  clear hx
  rintro ⟨m, acc, s1⟩ ⟨i1, hr, hlen, hx⟩
  dsimp only at i1 hr hlen hx ⊢
  have hle := i1.le
  have hlt := i1.lt
  obtain ⟨m, rfl⟩ : ∃ k, m = k + 1 := ⟨m - 1, by omega⟩
  rw [paramsF] at hx
  by_cases hne : acc = []
  ·skip
   subst hne
   rw [if_pos rfl]
   refine WC.sK fun K3 hK3 => ?_
   refine WC.rs fun K hK => ?_
   simp only [↓EJ, EX, FA, simprocAttr]
   refine CallX.mk (CallW.par (enc := .bool) (accept_sem ts s1 i1 [112, 97, 114, 97, 109]) rfl rfl (by simp only [CL, and_self]) (fun v => by simp only [CL]) (fun b2 s2 h2 => ?_) (fun e s' he => by intros; exact PSem.fails (fn := Tryd.f10) (s := s') (hx.trans (by simp only [he, bnd_error])) rfl rfl))
   simp only [h2, bnd_ok] at hx
   have g2 := acc_ge i1 h2
   have i2 := g2.1
   have r2 := g2.rem
   have a2 := g2.2
   simp only [↓EJ, EX, FA, simprocAttr]
   refine hK _ ?_; try clear hK K
   refine WC.trim [0, 2, 3, 4, 5, 7, 18, 29, 38, 67, 106] ?_
   simp only [ET, simprocAttr]
   refine WC.cond (c := .tmp 7) rfl (fun h => ?_) (fun h => ?_)
   ·obtain rfl : b2 = true := by simpa using h
    dsimp only at hx
    have q2 := (acc_up i1 h2).rem
    refine WC.skip ?_
    try simp only [EQ, reduceIte, Nat.reduceEqDiff]
    refine hK3 _ ?_; try clear hK3 K3
    refine WC.b1 ?_
    refine WC.ds [⟨0, 0, true, []⟩, ⟨1, 0, true, []⟩, ⟨2, 0, false, []⟩, ⟨3, 1, false, [0, 1]⟩, ⟨4, 2, false, []⟩, ⟨5, 1, false, []⟩, ⟨6, 0, false, []⟩, ⟨7, 1, false, []⟩] [0, 1, 0, 4, 12, 31, 63, 127] mo (by kernel_rfl) (by simp only [EPl, List.getElem?_cons_zero, List.getElem?_cons_succ]; rfl) fun K hK => ?_
    simp only [↓EJ, EX, FA, simprocAttr, MS]
    refine CallX.mk (CallW.par (enc := .str) (name_sem ts s2 i2) rfl rfl (by simp only [CL, PCL, TCL, DCL, FCL, RCL, MCL, BCL, GCL, and_self]) (fun v => by simp only [CL, PCL, TCL, DCL, FCL, RCL, MCL, BCL, GCL, and_self]) (fun t s3 h3 => ?_) (fun e s' he => by intros; exact PSem.fails (fn := Tryd.f10) (s := s') (hx.trans (by simp only [he, bnd_error])) rfl rfl))
    simp only [h3, bnd_ok] at hx
    have g3 := name_up i2 h3
    have i3 := g3.1
    have r3 := g3.rem
    have a3 := g3.2
    simp only [↓EJ, EX, FA, simprocAttr, MS]
    refine hK _ ?_; try clear hK K
    refine WC.trim [0, 2, 3, 4, 5, 7, 18, 29, 38, 67, 106] ?_
    simp only [ET, simprocAttr]
    refine WC.z1 [1] (by simp only [cutZ, List.drop_zero, List.drop_succ_cons, List.take_zero, List.take_succ_cons, Option.map_some]; rfl) ?_
    simp only [↓EJ, EX, FA, simprocAttr, EZ]
    refine CallX.mk (CallW.par (enc := fun _ => .tuple []) (expect_sem ts [[59]] s3 i3 (by decide)) rfl rfl (by simp only [CL, List.map_cons, List.map_nil, and_self]) (fun v => by simp only [CL]) (fun u4 s4 h4 => ?_) (fun e s' he => by intros; exact PSem.fails (fn := Tryd.f10) (s := s') (hx.trans (by simp only [he, bnd_error])) rfl rfl))
    simp only [h4, bnd_ok] at hx
    have g4 := exp_up i3 h4
    have i4 := g4.1
    have r4 := g4.rem
    have a4 := g4.2
    simp only [↓EJ, EX, FA, simprocAttr, EZ]
    try simp only [EQ, reduceIte, Nat.reduceEqDiff]
    refine ⟨(m, [t], s4), [0, 1, 2], ⟨i4, by dsimp only; omega, by simp only [List.length_append, List.length_cons, List.length_nil]; omega, hx⟩, by dsimp only; omega, ?_⟩
    dsimp only
    rw [if_neg (by simp)]
    refine ⟨by simp, by simp only [EV, EB, EL, ER, ET, and_self, true_and, and_true, Nat.reduceEqDiff, reduceCtorEq, reduceIte, PRN, MRN, DRN, DS, MS, PGS, PGR, des_ren, strs_ren, exVs_append, List.map_append, List.map_cons, List.map_nil, List.length_append, List.length_cons, List.length_nil], by simp only [EV, EB, EL, ER, ET, and_self, true_and, and_true, Nat.reduceEqDiff, reduceCtorEq, reduceIte, PRN, MRN, DRN, DS, MS, PGS, PGR, des_ren, strs_ren, exVs_append, List.map_append, List.map_cons, List.map_nil, List.length_append, List.length_cons, List.length_nil], by simp only [EV, EB, EL, ER, ET, and_self, true_and, and_true, Nat.reduceEqDiff, reduceCtorEq, reduceIte, PRN, MRN, DRN, DS, MS, PGS, PGR, des_ren, strs_ren, exVs_append, List.map_append, List.map_cons, List.map_nil, List.length_append, List.length_cons, List.length_nil, pick], rfl⟩
   ·obtain rfl : b2 = false := by simpa using h
    dsimp only at hx
    simp only [bnd_ok] at hx
    refine WC.exit ?_
    simp only [EQ, reduceIte, Nat.reduceEqDiff]
    try simp only [EQ, reduceIte, Nat.reduceEqDiff]
    refine ⟨([], s2), [0, 1], ⟨i2, hx⟩, ?_⟩
    dsimp only
    rw [strsV_nil]
    refine ⟨by simp, by simp only [EV, EB, EL, ER, ET, and_self, true_and, and_true, Nat.reduceEqDiff, reduceCtorEq, reduceIte, PRN, MRN, DRN, DS, MS, PGS, PGR, des_ren], by simp only [EV, EB, EL, ER, ET, and_self, true_and, and_true, Nat.reduceEqDiff, reduceCtorEq, reduceIte, PRN, MRN, DRN, DS, MS, PGS, PGR, des_ren], by simp only [EV, EB, EL, ER, ET, and_self, true_and, and_true, Nat.reduceEqDiff, reduceCtorEq, reduceIte, PRN, MRN, DRN, DS, MS, PGS, PGR, des_ren, pick], rfl⟩
  ·skip
   rw [if_neg hne]
   refine WC.sK fun K3 hK3 => ?_
   refine WC.rs fun K hK => ?_
   simp only [↓EJ, EX, FA, simprocAttr]
   refine CallX.mk (CallW.par (enc := .bool) (accept_sem ts s1 i1 [112, 97, 114, 97, 109]) rfl rfl (by simp only [CL, and_self]) (fun v => by simp only [CL]) (fun b2 s2 h2 => ?_) (fun e s' he => by intros; exact PSem.fails (fn := Tryd.f10) (s := s') (hx.trans (by simp only [he, bnd_error])) rfl rfl))
   simp only [h2, bnd_ok] at hx
   have g2 := acc_ge i1 h2
   have i2 := g2.1
   have r2 := g2.rem
   have a2 := g2.2
   simp only [↓EJ, EX, FA, simprocAttr]
   refine hK _ ?_; try clear hK K
   refine WC.trim [0, 2, 3, 4, 5, 7, 18, 29, 38, 67, 106] ?_
   simp only [ET, simprocAttr]
   refine WC.cond (c := .tmp 7) rfl (fun h => ?_) (fun h => ?_)
   ·obtain rfl : b2 = true := by simpa using h
    dsimp only at hx
    have q2 := (acc_up i1 h2).rem
    refine WC.skip ?_
    try simp only [EQ, reduceIte, Nat.reduceEqDiff]
    refine hK3 _ ?_; try clear hK3 K3
    refine WC.b1 ?_
    refine WC.ds [⟨0, 0, true, []⟩, ⟨1, 0, true, []⟩, ⟨2, 0, false, []⟩, ⟨3, 1, false, [0, 1]⟩, ⟨4, 2, false, []⟩, ⟨5, 1, false, []⟩, ⟨6, 0, false, []⟩, ⟨7, 1, false, []⟩] [0, 1, 0, 4, 12, 31, 63, 127] mo (by kernel_rfl) (by simp only [EPl, List.getElem?_cons_zero, List.getElem?_cons_succ]; rfl) fun K hK => ?_
    simp only [↓EJ, EX, FA, simprocAttr, MS]
    refine CallX.mk (CallW.par (enc := .str) (name_sem ts s2 i2) rfl rfl (by simp only [CL, PCL, TCL, DCL, FCL, RCL, MCL, BCL, GCL, and_self]) (fun v => by simp only [CL, PCL, TCL, DCL, FCL, RCL, MCL, BCL, GCL, and_self]) (fun t s3 h3 => ?_) (fun e s' he => by intros; exact PSem.fails (fn := Tryd.f10) (s := s') (hx.trans (by simp only [he, bnd_error])) rfl rfl))
    simp only [h3, bnd_ok] at hx
    have g3 := name_up i2 h3
    have i3 := g3.1
    have r3 := g3.rem
    have a3 := g3.2
    simp only [↓EJ, EX, FA, simprocAttr, MS]
    refine ⟨by rw [List.length_map], by omega, by omega, ?_⟩
    refine hK _ ?_; try clear hK K
    refine WC.trim [0, 2, 3, 4, 5, 7, 18, 29, 38, 67, 106] ?_
    simp only [ET, simprocAttr]
    refine WC.z1 [1] (by simp only [cutZ, List.drop_zero, List.drop_succ_cons, List.take_zero, List.take_succ_cons, Option.map_some]; rfl) ?_
    simp only [↓EJ, EX, FA, simprocAttr, EZ]
    refine CallX.mk (CallW.par (enc := fun _ => .tuple []) (expect_sem ts [[59]] s3 i3 (by decide)) rfl rfl (by simp only [CL, List.map_cons, List.map_nil, and_self]) (fun v => by simp only [CL]) (fun u4 s4 h4 => ?_) (fun e s' he => by intros; exact PSem.fails (fn := Tryd.f10) (s := s') (hx.trans (by simp only [he, bnd_error])) rfl rfl))
    simp only [h4, bnd_ok] at hx
    have g4 := exp_up i3 h4
    have i4 := g4.1
    have r4 := g4.rem
    have a4 := g4.2
    simp only [↓EJ, EX, FA, simprocAttr, EZ]
    try simp only [EQ, reduceIte, Nat.reduceEqDiff]
    refine ⟨(m, acc ++ [t], s4), [0, 1, 3], ⟨i4, by dsimp only; omega, by simp only [List.length_append, List.length_cons, List.length_nil]; omega, hx⟩, by dsimp only; omega, ?_⟩
    dsimp only
    rw [if_neg (by simp)]
    refine ⟨by simp, by simp only [EV, EB, EL, ER, ET, and_self, true_and, and_true, Nat.reduceEqDiff, reduceCtorEq, reduceIte, PRN, MRN, DRN, DS, MS, PGS, PGR, des_ren, strs_ren, exVs_append, List.map_append, List.map_cons, List.map_nil, List.length_append, List.length_cons, List.length_nil], by simp only [EV, EB, EL, ER, ET, and_self, true_and, and_true, Nat.reduceEqDiff, reduceCtorEq, reduceIte, PRN, MRN, DRN, DS, MS, PGS, PGR, des_ren, strs_ren, exVs_append, List.map_append, List.map_cons, List.map_nil, List.length_append, List.length_cons, List.length_nil], by simp only [EV, EB, EL, ER, ET, and_self, true_and, and_true, Nat.reduceEqDiff, reduceCtorEq, reduceIte, PRN, MRN, DRN, DS, MS, PGS, PGR, des_ren, strs_ren, exVs_append, List.map_append, List.map_cons, List.map_nil, List.length_append, List.length_cons, List.length_nil, pick], rfl⟩
   ·obtain rfl : b2 = false := by simpa using h
    dsimp only at hx
    simp only [bnd_ok] at hx
    refine WC.frzC 1 2 0 rfl rfl rfl (by decide) (by simp) ?_
    simp only [List.set_cons_zero, List.set_cons_succ]
    refine WC.exit ?_
    simp only [EQ, reduceIte, Nat.reduceEqDiff]
    try simp only [EQ, reduceIte, Nat.reduceEqDiff]
    refine ⟨(acc, s2), [0, 1], ⟨i2, hx⟩, ?_⟩
    dsimp only
    rw [strsV_ne hne]
    have ht : List.take acc.length (List.drop 0 (List.map PVal.str acc)) = List.map PVal.str acc := by rw [List.drop_zero, List.take_of_length_le (by simp)]
    rw [ht]
    refine ⟨by simp, by simp only [EV, EB, EL, ER, ET, and_self, true_and, and_true, Nat.reduceEqDiff, reduceCtorEq, reduceIte, PRN, MRN, DRN, DS, MS, PGS, PGR, des_ren, strs_ren], by simp only [EV, EB, EL, ER, ET, and_self, true_and, and_true, Nat.reduceEqDiff, reduceCtorEq, reduceIte, PRN, MRN, DRN, DS, MS, PGS, PGR, des_ren, strs_ren], by simp only [EV, EB, EL, ER, ET, and_self, true_and, and_true, Nat.reduceEqDiff, reduceCtorEq, reduceIte, PRN, MRN, DRN, DS, MS, PGS, PGR, des_ren, strs_ren, pick], rfl⟩
 ·rintro ⟨ps, s1⟩ ⟨i1, hx1⟩
  dsimp only at i1 hx1 ⊢
  clear hx i0
  rename x = _ => hx
  unfold progK1 at hx
  refine WC.sx (X := (List Fn × List Fn) × PS) (fun y => PInv ts y.2 ∧ x = progK2 ts ps y.1 y.2) (fun y => ⟨[(3, .ptr (.l 1) 0 0), (2, .ptr (.l 0) 0 0), (0, .ptr (.o 0) 0 0)], [pblk ts y.2], [.row [.agg [.nils, .nils, .nils, .nils, .nils, .str []]] 6 28, .row [.agg [strsV ps, fnsV y.1.1, fnsV y.1.2, .nils, .nils, .str []]] 6 28], []⟩) ?_ ?_
  ·refine WC.b1 ?_
   refine WC.loop (X := Nat × List Fn × List Fn × PS) (fun y => if y.2.1 = [] then (if y.2.2.1 = [] then ⟨[(3, .ptr (.l 1) 0 0), (2, .ptr (.l 0) 0 0), (0, .ptr (.o 0) 0 0)], [pblk ts y.2.2.2], [.row [.agg [.nils, .nils, .nils, .nils, .nils, .str []]] 6 28, .row [.agg [strsV ps, .nils, .nils, .nils, .nils, .str []]] 6 28], []⟩ else ⟨[(3, .ptr (.l 1) 0 0), (2, .ptr (.l 0) 0 0), (0, .ptr (.o 0) 0 0)], [pblk ts y.2.2.2], [.row [.agg [.nils, .nils, .nils, .nils, .nils, .str []]] 6 28, .row [.agg [strsV ps, .nils, .ref (.l 2) 0 y.2.2.1.length, .nils, .nils, .str []]] 6 28, .row (y.2.2.1.map fnV) 5 71], []⟩) else (if y.2.2.1 = [] then ⟨[(3, .ptr (.l 1) 0 0), (2, .ptr (.l 0) 0 0), (0, .ptr (.o 0) 0 0)], [pblk ts y.2.2.2], [.row [.agg [.nils, .nils, .nils, .nils, .nils, .str []]] 6 28, .row [.agg [strsV ps, .ref (.l 2) 0 y.2.1.length, .nils, .nils, .nils, .str []]] 6 28, .row (y.2.1.map fnV) 5 71], []⟩ else ⟨[(3, .ptr (.l 1) 0 0), (2, .ptr (.l 0) 0 0), (0, .ptr (.o 0) 0 0)], [pblk ts y.2.2.2], [.row [.agg [.nils, .nils, .nils, .nils, .nils, .str []]] 6 28, .row [.agg [strsV ps, .ref (.l 2) 0 y.2.1.length, .ref (.l 3) 0 y.2.2.1.length, .nils, .nils, .str []]] 6 28, .row (y.2.1.map fnV) 5 71, .row (y.2.2.1.map fnV) 5 71], []⟩))
    (fun y => PInv ts y.2.2.2 ∧ rem ts y.2.2.2 + 1 ≤ y.1 ∧ y.2.1.length ≤ y.2.2.2.at_ ∧ y.2.2.1.length ≤ y.2.2.2.at_ ∧ x = bnd (defsF ts y.1 y.2.1 y.2.2.1 y.2.2.2) (progK2 ts ps)) (fun y => y.1) (rem ts s1 + 1, [], [], s1) [0, 1] ⟨i1, Nat.le_refl _, Nat.zero_le _, Nat.zero_le _, hx⟩ ?_ ?_
   ·dsimp only
    rw [if_pos rfl, if_pos rfl]
    refine ⟨by simp, by simp only [EV, EB, EL, ER, ET, and_self, true_and, and_true, Nat.reduceEqDiff, reduceCtorEq, reduceIte, PRN, MRN, DRN, DS, MS, PGS, PGR, des_ren], by simp only [EV, EB, EL, ER, ET, and_self, true_and, and_true, Nat.reduceEqDiff, reduceCtorEq, reduceIte, PRN, MRN, DRN, DS, MS, PGS, PGR, des_ren], by simp only [EV, EB, EL, ER, ET, and_self, true_and, and_true, Nat.reduceEqDiff, reduceCtorEq, reduceIte, PRN, MRN, DRN, DS, MS, PGS, PGR, des_ren, pick], rfl⟩
   clear hx i1
   rintro ⟨m, F, Q, s1⟩ ⟨i1, hr, hlf, hlq, hx⟩
   dsimp only at i1 hr hlf hlq hx ⊢
   have hle := i1.le
   have hlt := i1.lt
   obtain ⟨m, rfl⟩ : ∃ k, m = k + 1 := ⟨m - 1, by omega⟩
   rw [defsF] at hx
   rcases Classical.em (F = []) with hF | hF <;> rcases Classical.em (Q = []) with hQ | hQ
   ·skip
    subst hF
    subst hQ
    rw [if_pos rfl, if_pos rfl]
    refine WC.b1 ?_
    refine WC.bs fun K4 hK4 => ?_
    refine WC.rs fun K hK => ?_
    simp only [↓EJ, EX, FA, simprocAttr]
    refine CallX.mk (CallW.par (enc := .bool) (accept_sem ts s1 i1 [102, 117, 110, 99]) rfl rfl (by simp only [CL, and_self]) (fun v => by simp only [CL]) (fun b2 s2 h2 => ?_) (fun e s' he => by intros; exact PSem.fails (fn := Tryd.f10) (s := s') (hx.trans (by simp only [he, bnd_error])) rfl rfl))
    simp only [h2, bnd_ok] at hx
    have g2 := acc_ge i1 h2
    have i2 := g2.1
    have r2 := g2.rem
    have a2 := g2.2
    simp only [↓EJ, EX, FA, simprocAttr]
    refine hK _ ?_; try clear hK K
    refine WC.trim [0, 2, 3, 4, 5, 7, 18, 29, 38, 67, 106] ?_
    simp only [ET, simprocAttr]
    refine WC.cond (c := .tmp 18) rfl (fun h => ?_) (fun h => ?_)
    ·obtain rfl : b2 = true := by simpa using h
     dsimp only at hx
     have q2 := (acc_up i1 h2).rem
     unfold funcF at hx
     refine WC.rs fun K hK => ?_
     simp only [↓EJ, EX, FA, simprocAttr]
     refine CallX.mk (CallW.par (enc := .str) (name_sem ts s2 i2) rfl rfl (by simp only [CL, PCL, TCL, DCL, FCL, RCL, MCL, BCL, GCL, and_self]) (fun v => by simp only [CL, PCL, TCL, DCL, FCL, RCL, MCL, BCL, GCL, and_self]) (fun w s3 h3 => ?_) (fun e s' he => by intros; exact PSem.fails (fn := Tryd.f10) (s := s') (hx.trans (by simp only [he, bnd_error])) rfl rfl))
     simp only [h3, bnd_ok] at hx
     have g3 := name_up i2 h3
     have i3 := g3.1
     have r3 := g3.rem
     have a3 := g3.2
     simp only [↓EJ, EX, FA, simprocAttr, MS]
     refine hK _ ?_; try clear hK K
     refine WC.trim [0, 2, 3, 4, 5, 7, 18, 29, 38, 67, 106] ?_
     simp only [ET, simprocAttr]
     refine WC.zs [1] (by simp only [cutZ, List.drop_zero, List.drop_succ_cons, List.take_zero, List.take_succ_cons, Option.map_some]; rfl) fun K hK => ?_
     simp only [↓EJ, EX, FA, simprocAttr, EZ]
     refine CallX.mk (CallW.par (enc := fun _ => .tuple []) (expect_sem ts [[40]] s3 i3 (by decide)) rfl rfl (by simp only [CL, List.map_cons, List.map_nil, and_self]) (fun v => by simp only [CL]) (fun u4 s4 h4 => ?_) (fun e s' he => by intros; exact PSem.fails (fn := Tryd.f10) (s := s') (hx.trans (by simp only [he, bnd_error])) rfl rfl))
     simp only [h4, bnd_ok] at hx
     have g4 := exp_up i3 h4
     have i4 := g4.1
     have r4 := g4.rem
     have a4 := g4.2
     simp only [↓EJ, EX, FA, simprocAttr, EZ]
     refine hK _ ?_; try clear hK K
     refine WC.trim [0, 2, 3, 4, 5, 7, 18, 29, 38, 67, 106] ?_
     simp only [ET, simprocAttr]
     refine WC.sx (X := List De × PS) (fun y => Ge ts s4 y.2 ∧ x = bnd (bnd (funcK ts w y.1 y.2) (fun f s => defsF ts m ([] ++ [f]) [] s)) (progK2 ts ps)) (fun y => ⟨[(4, .ptr (.l 2) 0 0), (3, .ptr (.l 1) 0 0), (2, .ptr (.l 0) 0 0), (0, .ptr (.o 0) 0 0)], [pblk ts y.2], [.row [.agg [.nils, .nils, .nils, .nils, .nils, .str []]] 6 28, .row [.agg [strsV ps, .nils, .nils, .nils, .nils, .str []]] 6 28, .row [.agg [.str w, desV y.1, .nils, .nils, .str []]] 5 71], []⟩) ?_ ?_
     ·cases hp : isP ts s4 [41] with
      | true =>
        simp only [hp, bnd_ok] at hx
        refine WC.rs fun K hK => ?_
        simp only [↓EJ, EX, FA, simprocAttr]
        refine CallX.mk (CallW.one (r := .o 0) (is_sem ts s4 i4 [41]) rfl (pblk_closed ts s4) (pblk_closed ts s4) (by simp only [CL]) (by simp [renL, ren, fCall]) ?_)
        rw [hp]
        simp only [↓EJ, EX, FA, simprocAttr]
        refine hK _ ?_; try clear hK K
        refine WC.trim [0, 2, 3, 4, 5, 7, 18, 29, 38, 67, 106] ?_
        simp only [ET, simprocAttr]
        refine WC.cond (c := .tmp 29) rfl (fun h => ?_) (fun h => ?_)
        ·simp at h
        refine WC.skip ?_
        try simp only [EQ, reduceIte, Nat.reduceEqDiff]
        refine ⟨([], s4), [0, 1, 2], ⟨Ge.refl i4, hx⟩, ?_⟩
        dsimp only
        rw [desV_nil]
        refine ⟨by simp, by simp only [EV, EB, EL, ER, ET, and_self, true_and, and_true, Nat.reduceEqDiff, reduceCtorEq, reduceIte, PRN, MRN, DRN, DS, MS, PGS, PGR, des_ren], by simp only [EV, EB, EL, ER, ET, and_self, true_and, and_true, Nat.reduceEqDiff, reduceCtorEq, reduceIte, PRN, MRN, DRN, DS, MS, PGS, PGR, des_ren], by simp only [EV, EB, EL, ER, ET, and_self, true_and, and_true, Nat.reduceEqDiff, reduceCtorEq, reduceIte, PRN, MRN, DRN, DS, MS, PGS, PGR, des_ren, pick], rfl⟩
      | false =>
        simp only [hp] at hx
        refine WC.rs fun K hK => ?_
        simp only [↓EJ, EX, FA, simprocAttr]
        refine CallX.mk (CallW.one (r := .o 0) (is_sem ts s4 i4 [41]) rfl (pblk_closed ts s4) (pblk_closed ts s4) (by simp only [CL]) (by simp [renL, ren, fCall]) ?_)
        rw [hp]
        simp only [↓EJ, EX, FA, simprocAttr]
        refine hK _ ?_; try clear hK K
        refine WC.trim [0, 2, 3, 4, 5, 7, 18, 29, 38, 67, 106] ?_
        simp only [ET, simprocAttr]
        refine WC.cond (c := .tmp 29) rfl (fun h => ?_) (fun h => ?_)
        rotate_left
        ·simp at h
        refine WC.ds [⟨0, 0, true, []⟩, ⟨1, 0, true, []⟩, ⟨2, 0, false, []⟩, ⟨3, 1, false, [0, 1]⟩, ⟨4, 2, false, []⟩, ⟨5, 1, false, []⟩, ⟨6, 0, false, []⟩, ⟨7, 1, false, []⟩] [0, 1, 0, 4, 12, 31, 63, 127] mo (by kernel_rfl) (by simp only [EPl, List.getElem?_cons_zero, List.getElem?_cons_succ]; rfl) fun K hK => ?_
        simp only [↓EJ, EX, FA, simprocAttr, MS]
        refine CallX.mk (CallW.par (enc := deV) (arg_sem ts s4 i4) rfl rfl (by simp only [CL, PCL, TCL, DCL, FCL, RCL, MCL, BCL, GCL, and_self]) (fun v => by simp only [CL, PCL, TCL, DCL, FCL, RCL, MCL, BCL, GCL, and_self]) (fun t s5 h5 => ?_) (fun e s' he => by intros; exact PSem.fails (fn := Tryd.f10) (s := s') (hx.trans (by simp only [he, bnd_error])) rfl rfl))
        simp only [h5, bnd_ok] at hx
        have g5 := arg_up i4 h5
        have i5 := g5.1
        have r5 := g5.rem
        have a5 := g5.2
        simp only [↓EJ, EX, FA, simprocAttr, DS, MS]
        refine hK _ ?_; try clear hK K
        refine WC.trim [0, 2, 3, 4, 5, 7, 18, 29, 38, 67, 106] ?_
        simp only [ET, simprocAttr]
        refine WC.b1 ?_
        refine WC.loop (X := Nat × List De × PS) (fun y => ⟨[(4, .ptr (.l 2) 0 0), (3, .ptr (.l 1) 0 0), (2, .ptr (.l 0) 0 0), (0, .ptr (.o 0) 0 0)], [pblk ts y.2.2], [.row [.agg [.nils, .nils, .nils, .nils, .nils, .str []]] 6 28, .row [.agg [strsV ps, .nils, .nils, .nils, .nils, .str []]] 6 28, .row [.agg [.str w, .ref (.l 3) 0 y.2.1.length, .nils, .nils, .str []]] 5 71, .row (y.2.1.map deV) 6 76], []⟩)
         (fun y => Ge ts s4 y.2.2 ∧ rem ts y.2.2 + 1 ≤ y.1 ∧ y.2.1 ≠ [] ∧ y.2.1.length ≤ y.2.2.at_ ∧ x = bnd (bnd (bnd (argsF ts y.1 y.2.1 y.2.2) (funcK ts w)) (fun f s => defsF ts m ([] ++ [f]) [] s)) (progK2 ts ps)) (fun y => y.1) (rem ts s5 + 1, [t], s5) [0, 1, 2, 3] ⟨g5.ge, Nat.le_refl _, by simp, by simp only [List.length_cons, List.length_nil]; omega, hx⟩ ?_ ?_
        ·refine ⟨by simp, by simp only [EV, EB, EL, ER, ET, and_self, true_and, and_true, Nat.reduceEqDiff, reduceCtorEq, reduceIte, PRN, MRN, DRN, DS, MS, PGS, PGR, des_ren, exVs_append, List.map_append, List.map_cons, List.map_nil, List.length_append, List.length_cons, List.length_nil], by simp only [EV, EB, EL, ER, ET, and_self, true_and, and_true, Nat.reduceEqDiff, reduceCtorEq, reduceIte, PRN, MRN, DRN, DS, MS, PGS, PGR, des_ren, exVs_append, List.map_append, List.map_cons, List.map_nil, List.length_append, List.length_cons, List.length_nil], by simp only [EV, EB, EL, ER, ET, and_self, true_and, and_true, Nat.reduceEqDiff, reduceCtorEq, reduceIte, PRN, MRN, DRN, DS, MS, PGS, PGR, des_ren, exVs_append, List.map_append, List.map_cons, List.map_nil, List.length_append, List.length_cons, List.length_nil, pick], rfl⟩
        clear hx r5 a5 h5 i5
        rintro ⟨mm, acc, s5⟩ ⟨g5, hr5, hne, hlen, hx⟩
        dsimp only at g5 hr5 hne hlen hx ⊢
        have i5 := g5.1
        have hle5 := i5.le
        have hlt5 := i5.lt
        obtain ⟨mm, rfl⟩ : ∃ k, mm = k + 1 := ⟨mm - 1, by omega⟩
        rw [argsF] at hx
        refine WC.sK fun K7 hK7 => ?_
        refine WC.rs fun K hK => ?_
        simp only [↓EJ, EX, FA, simprocAttr]
        refine CallX.mk (CallW.par (enc := .bool) (accept_sem ts s5 i5 [44]) rfl rfl (by simp only [CL, and_self]) (fun v => by simp only [CL]) (fun b6 s6 h6 => ?_) (fun e s' he => by intros; exact PSem.fails (fn := Tryd.f10) (s := s') (hx.trans (by simp only [he, bnd_error])) rfl rfl))
        simp only [h6, bnd_ok] at hx
        have g6 := acc_ge i5 h6
        have i6 := g6.1
        have r6 := g6.rem
        have a6 := g6.2
        simp only [↓EJ, EX, FA, simprocAttr]
        refine hK _ ?_; try clear hK K
        refine WC.trim [0, 2, 3, 4, 5, 7, 18, 29, 38, 67, 106] ?_
        simp only [ET, simprocAttr]
        refine WC.cond (c := .tmp 38) rfl (fun h => ?_) (fun h => ?_)
        ·obtain rfl : b6 = true := by simpa using h
         dsimp only at hx
         have q6 := (acc_up i5 h6).rem
         refine WC.skip ?_
         try simp only [EQ, reduceIte, Nat.reduceEqDiff]
         refine hK7 _ ?_; try clear hK7 K7
         refine WC.b1 ?_
         refine WC.d1 [⟨0, 0, true, []⟩, ⟨1, 0, true, []⟩, ⟨2, 0, false, []⟩, ⟨3, 1, false, [0, 1]⟩, ⟨4, 2, false, []⟩, ⟨5, 1, false, []⟩, ⟨6, 0, false, []⟩, ⟨7, 1, false, []⟩] [0, 1, 0, 4, 12, 31, 63, 127] mo (by kernel_rfl) (by simp only [EPl, List.getElem?_cons_zero, List.getElem?_cons_succ]; rfl) ?_
         simp only [↓EJ, EX, FA, simprocAttr, MS]
         refine CallX.mk (CallW.par (enc := deV) (arg_sem ts s6 i6) rfl rfl (by simp only [CL, PCL, TCL, DCL, FCL, RCL, MCL, BCL, GCL, and_self]) (fun v => by simp only [CL, PCL, TCL, DCL, FCL, RCL, MCL, BCL, GCL, and_self]) (fun t s7 h7 => ?_) (fun e s' he => by intros; exact PSem.fails (fn := Tryd.f10) (s := s') (hx.trans (by simp only [he, bnd_error])) rfl rfl))
         simp only [h7, bnd_ok] at hx
         have g7 := arg_up i6 h7
         have i7 := g7.1
         have r7 := g7.rem
         have a7 := g7.2
         simp only [↓EJ, EX, FA, simprocAttr, DS, MS]
         refine ⟨by rw [List.length_map], by omega, by omega, ?_⟩
         try simp only [EQ, reduceIte, Nat.reduceEqDiff]
         refine ⟨(mm, acc ++ [t], s7), [0, 1, 2, 4], ⟨g5.trans (g6.trans g7.ge), by dsimp only; omega, by simp, by simp only [List.length_append, List.length_cons, List.length_nil]; omega, hx⟩, by dsimp only; omega, ?_⟩
         dsimp only
         refine ⟨by simp, by simp only [EV, EB, EL, ER, ET, and_self, true_and, and_true, Nat.reduceEqDiff, reduceCtorEq, reduceIte, PRN, MRN, DRN, DS, MS, PGS, PGR, des_ren, exVs_append, List.map_append, List.map_cons, List.map_nil, List.length_append, List.length_cons, List.length_nil], by simp only [EV, EB, EL, ER, ET, and_self, true_and, and_true, Nat.reduceEqDiff, reduceCtorEq, reduceIte, PRN, MRN, DRN, DS, MS, PGS, PGR, des_ren, exVs_append, List.map_append, List.map_cons, List.map_nil, List.length_append, List.length_cons, List.length_nil], by simp only [EV, EB, EL, ER, ET, and_self, true_and, and_true, Nat.reduceEqDiff, reduceCtorEq, reduceIte, PRN, MRN, DRN, DS, MS, PGS, PGR, des_ren, exVs_append, List.map_append, List.map_cons, List.map_nil, List.length_append, List.length_cons, List.length_nil, pick], rfl⟩
        ·obtain rfl : b6 = false := by simpa using h
         dsimp only at hx
         simp only [bnd_ok] at hx
         refine WC.frzC 2 3 1 rfl rfl rfl (by decide) (by simp) ?_
         simp only [List.set_cons_zero, List.set_cons_succ]
         refine WC.exit ?_
         simp only [EQ, reduceIte, Nat.reduceEqDiff]
         try simp only [EQ, reduceIte, Nat.reduceEqDiff]
         refine ⟨(acc, s6), [0, 1, 2], ⟨g5.trans g6, hx⟩, ?_⟩
         dsimp only
         rw [desV_ne hne]
         have ht : List.take acc.length (List.drop 0 (List.map deV acc)) = List.map deV acc := by rw [List.drop_zero, List.take_of_length_le (by simp)]
         rw [ht]
         refine ⟨by simp, by simp only [EV, EB, EL, ER, ET, and_self, true_and, and_true, Nat.reduceEqDiff, reduceCtorEq, reduceIte, PRN, MRN, DRN, DS, MS, PGS, PGR, des_ren], by simp only [EV, EB, EL, ER, ET, and_self, true_and, and_true, Nat.reduceEqDiff, reduceCtorEq, reduceIte, PRN, MRN, DRN, DS, MS, PGS, PGR, des_ren], by simp only [EV, EB, EL, ER, ET, and_self, true_and, and_true, Nat.reduceEqDiff, reduceCtorEq, reduceIte, PRN, MRN, DRN, DS, MS, PGS, PGR, des_ren, pick], rfl⟩
     rintro ⟨al, s5⟩ ⟨g5, hx5⟩
     dsimp only at g5 hx5 ⊢
     clear hx
     rename x = _ => hx
     unfold funcK at hx
     have i5 := g5.1
     have r5 := g5.rem
     have a5 := g5.2
     refine WC.zs [1] (by simp only [cutZ, List.drop_zero, List.drop_succ_cons, List.take_zero, List.take_succ_cons, Option.map_some]; rfl) fun K hK => ?_
     simp only [↓EJ, EX, FA, simprocAttr, EZ]
     refine CallX.mk (CallW.par (enc := fun _ => .tuple []) (expect_sem ts [[41], [123]] s5 i5 (by decide)) rfl rfl (by simp only [CL, List.map_cons, List.map_nil, and_self]) (fun v => by simp only [CL]) (fun u6 s6 h6 => ?_) (fun e s' he => by intros; exact PSem.fails (fn := Tryd.f10) (s := s') (hx.trans (by simp only [he, bnd_error])) rfl rfl))
     simp only [h6, bnd_ok] at hx
     have g6 := exp_up i5 h6
     have i6 := g6.1
     have r6 := g6.rem
     have a6 := g6.2
     simp only [↓EJ, EX, FA, simprocAttr, EZ]
     refine hK _ ?_; try clear hK K
     refine WC.trim [0, 2, 3, 4, 5, 7, 18, 29, 38, 67, 106] ?_
     simp only [ET, simprocAttr]
     refine WC.rs fun K hK => ?_
     simp only [↓EJ, EX, FA, simprocAttr]
     refine CallX.mk (CallW.par (enc := blV) (block_sem ts s6 i6) rfl rfl (by simp only [CL, PCL, TCL, DCL, FCL, RCL, MCL, BCL, GCL, and_self]) (fun v => by simp only [CL, PCL, TCL, DCL, FCL, RCL, MCL, BCL, GCL, and_self]) (fun b s7 h7 => ?_) (fun e s' he => by intros; exact PSem.fails (fn := Tryd.f10) (s := s') (hx.trans (by simp only [he, bnd_error])) rfl rfl))
     simp only [h7, bnd_ok] at hx
     have g7 := block_up i6 h7
     have i7 := g7.1
     have r7 := g7.rem
     have a7 := g7.2
     simp only [↓EJ, EX, FA, simprocAttr, blV, MS, desV_sc]
     refine hK _ ?_; try clear hK K
     refine WC.trim [0, 2, 3, 4, 5, 7, 18, 29, 38, 67, 106] ?_
     simp only [ET, simprocAttr]
     refine WC.zs [1] (by simp only [cutZ, List.drop_zero, List.drop_succ_cons, List.take_zero, List.take_succ_cons, Option.map_some]; rfl) fun K hK => ?_
     simp only [↓EJ, EX, FA, simprocAttr, EZ]
     refine CallX.mk (CallW.par (enc := fun _ => .tuple []) (expect_sem ts [[125]] s7 i7 (by decide)) rfl rfl (by simp only [CL, List.map_cons, List.map_nil, and_self]) (fun v => by simp only [CL]) (fun u8 s8 h8 => ?_) (fun e s' he => by intros; exact PSem.fails (fn := Tryd.f10) (s := s') (hx.trans (by simp only [he, bnd_error])) rfl rfl))
     simp only [h8, bnd_ok] at hx
     have g8 := exp_up i7 h8
     have i8 := g8.1
     have r8 := g8.rem
     have a8 := g8.2
     have i8l := i8.le
     have i8t := i8.lt
     simp only [↓EJ, EX, FA, simprocAttr, EZ]
     refine hK _ ?_; try clear hK K
     refine WC.trim [0, 2, 3, 4, 5, 7, 18, 29, 38, 67, 106] ?_
     simp only [ET, simprocAttr]
     refine WC.zs [3] (by simp only [cutZ, List.drop_zero, List.drop_succ_cons, List.take_zero, List.take_succ_cons, Option.map_some]; rfl) fun K hK => ?_
     simp only [↓EJ, EX, FA, simprocAttr, EZ, MS]
     refine hK _ ?_; try clear hK K
     refine WC.trim [0, 2, 3, 4, 5, 7, 18, 29, 38, 67, 106] ?_
     simp only [ET, simprocAttr]
     refine WC.exit ?_
     simp only [EQ, reduceIte, Nat.reduceEqDiff]
     try simp only [EQ, reduceIte, Nat.reduceEqDiff]
     refine ⟨(m, [] ++ [⟨w, al, b.vars, b.body, b.result⟩], [], s8), [0, 1, 3], ⟨i8, by dsimp only; omega, by simp only [List.length_append, List.length_cons, List.length_nil]; omega, by first | exact Nat.zero_le _ | (dsimp only; omega), hx⟩, by dsimp only; omega, ?_⟩
     dsimp only
     rw [if_neg (by simp), if_pos rfl]
     refine ⟨by simp, by simp only [EV, EB, EL, ER, ET, and_self, true_and, and_true, Nat.reduceEqDiff, reduceCtorEq, reduceIte, PRN, MRN, DRN, DS, MS, PGS, PGR, des_ren, exVs_append, List.map_append, List.map_cons, List.map_nil, List.length_append, List.length_cons, List.length_nil, List.nil_append, fnV, fnC], by simp only [EV, EB, EL, ER, ET, and_self, true_and, and_true, Nat.reduceEqDiff, reduceCtorEq, reduceIte, PRN, MRN, DRN, DS, MS, PGS, PGR, des_ren, exVs_append, List.map_append, List.map_cons, List.map_nil, List.length_append, List.length_cons, List.length_nil, List.nil_append, fnV, fnC], by simp only [EV, EB, EL, ER, ET, and_self, true_and, and_true, Nat.reduceEqDiff, reduceCtorEq, reduceIte, PRN, MRN, DRN, DS, MS, PGS, PGR, des_ren, exVs_append, List.map_append, List.map_cons, List.map_nil, List.length_append, List.length_cons, List.length_nil, List.nil_append, fnV, fnC, pick], rfl⟩
    obtain rfl : b2 = false := by simpa using h
    dsimp only at hx
    refine WC.rs fun K hK => ?_
    simp only [↓EJ, EX, FA, simprocAttr]
    refine CallX.mk (CallW.par (enc := .bool) (accept_sem ts s2 i2 [113, 117, 101, 114, 121]) rfl rfl (by simp only [CL, and_self]) (fun v => by simp only [CL]) (fun b3 s3 h3 => ?_) (fun e s' he => by intros; exact PSem.fails (fn := Tryd.f10) (s := s') (hx.trans (by simp only [he, bnd_error])) rfl rfl))
    simp only [h3, bnd_ok] at hx
    have g3 := acc_ge i2 h3
    have i3 := g3.1
    have r3 := g3.rem
    have a3 := g3.2
    simp only [↓EJ, EX, FA, simprocAttr]
    refine hK _ ?_; try clear hK K
    refine WC.trim [0, 2, 3, 4, 5, 7, 18, 29, 38, 67, 106] ?_
    simp only [ET, simprocAttr]
    refine WC.cond (c := .tmp 67) rfl (fun h => ?_) (fun h => ?_)
    ·obtain rfl : b3 = true := by simpa using h
     dsimp only at hx
     have q3 := (acc_up i2 h3).rem
     unfold queryF at hx
     refine WC.rs fun K hK => ?_
     simp only [↓EJ, EX, FA, simprocAttr]
     refine CallX.mk (CallW.par (enc := .str) (name_sem ts s3 i3) rfl rfl (by simp only [CL, PCL, TCL, DCL, FCL, RCL, MCL, BCL, GCL, and_self]) (fun v => by simp only [CL, PCL, TCL, DCL, FCL, RCL, MCL, BCL, GCL, and_self]) (fun w s4 h4 => ?_) (fun e s' he => by intros; exact PSem.fails (fn := Tryd.f10) (s := s') (hx.trans (by simp only [he, bnd_error])) rfl rfl))
     simp only [h4, bnd_ok] at hx
     have g4 := name_up i3 h4
     have i4 := g4.1
     have r4 := g4.rem
     have a4 := g4.2
     simp only [↓EJ, EX, FA, simprocAttr, MS]
     refine hK _ ?_; try clear hK K
     refine WC.trim [0, 2, 3, 4, 5, 7, 18, 29, 38, 67, 106] ?_
     simp only [ET, simprocAttr]
     refine WC.zs [1] (by simp only [cutZ, List.drop_zero, List.drop_succ_cons, List.take_zero, List.take_succ_cons, Option.map_some]; rfl) fun K hK => ?_
     simp only [↓EJ, EX, FA, simprocAttr, EZ]
     refine CallX.mk (CallW.par (enc := fun _ => .tuple []) (expect_sem ts [[123]] s4 i4 (by decide)) rfl rfl (by simp only [CL, List.map_cons, List.map_nil, and_self]) (fun v => by simp only [CL]) (fun u6 s6 h6 => ?_) (fun e s' he => by intros; exact PSem.fails (fn := Tryd.f10) (s := s') (hx.trans (by simp only [he, bnd_error])) rfl rfl))
     simp only [h6, bnd_ok] at hx
     have g6 := exp_up i4 h6
     have i6 := g6.1
     have r6 := g6.rem
     have a6 := g6.2
     simp only [↓EJ, EX, FA, simprocAttr, EZ]
     refine hK _ ?_; try clear hK K
     refine WC.trim [0, 2, 3, 4, 5, 7, 18, 29, 38, 67, 106] ?_
     simp only [ET, simprocAttr]
     refine WC.rs fun K hK => ?_
     simp only [↓EJ, EX, FA, simprocAttr]
     refine CallX.mk (CallW.par (enc := blV) (block_sem ts s6 i6) rfl rfl (by simp only [CL, PCL, TCL, DCL, FCL, RCL, MCL, BCL, GCL, and_self]) (fun v => by simp only [CL, PCL, TCL, DCL, FCL, RCL, MCL, BCL, GCL, and_self]) (fun b s7 h7 => ?_) (fun e s' he => by intros; exact PSem.fails (fn := Tryd.f10) (s := s') (hx.trans (by simp only [he, bnd_error])) rfl rfl))
     simp only [h7, bnd_ok] at hx
     have g7 := block_up i6 h7
     have i7 := g7.1
     have r7 := g7.rem
     have a7 := g7.2
     simp only [↓EJ, EX, FA, simprocAttr, blV, MS, desV_sc]
     refine hK _ ?_; try clear hK K
     refine WC.trim [0, 2, 3, 4, 5, 7, 18, 29, 38, 67, 106] ?_
     simp only [ET, simprocAttr]
     refine WC.zs [1] (by simp only [cutZ, List.drop_zero, List.drop_succ_cons, List.take_zero, List.take_succ_cons, Option.map_some]; rfl) fun K hK => ?_
     simp only [↓EJ, EX, FA, simprocAttr, EZ]
     refine CallX.mk (CallW.par (enc := fun _ => .tuple []) (expect_sem ts [[125]] s7 i7 (by decide)) rfl rfl (by simp only [CL, List.map_cons, List.map_nil, and_self]) (fun v => by simp only [CL]) (fun u8 s8 h8 => ?_) (fun e s' he => by intros; exact PSem.fails (fn := Tryd.f10) (s := s') (hx.trans (by simp only [he, bnd_error])) rfl rfl))
     simp only [h8, bnd_ok] at hx
     have g8 := exp_up i7 h8
     have i8 := g8.1
     have r8 := g8.rem
     have a8 := g8.2
     have i8l := i8.le
     have i8t := i8.lt
     simp only [↓EJ, EX, FA, simprocAttr, EZ]
     refine hK _ ?_; try clear hK K
     refine WC.trim [0, 2, 3, 4, 5, 7, 18, 29, 38, 67, 106] ?_
     simp only [ET, simprocAttr]
     refine WC.zs [3] (by simp only [cutZ, List.drop_zero, List.drop_succ_cons, List.take_zero, List.take_succ_cons, Option.map_some]; rfl) fun K hK => ?_
     simp only [↓EJ, EX, FA, simprocAttr, EZ, MS]
     refine hK _ ?_; try clear hK K
     refine WC.trim [0, 2, 3, 4, 5, 7, 18, 29, 38, 67, 106] ?_
     simp only [ET, simprocAttr]
     refine WC.exit ?_
     simp only [EQ, reduceIte, Nat.reduceEqDiff]
     try simp only [EQ, reduceIte, Nat.reduceEqDiff]
     refine ⟨(m, [], [] ++ [⟨w, [], b.vars, b.body, b.result⟩], s8), [0, 1, 3], ⟨i8, by dsimp only; omega, by first | exact Nat.zero_le _ | (dsimp only; omega), by simp only [List.length_append, List.length_cons, List.length_nil]; omega, hx⟩, by dsimp only; omega, ?_⟩
     dsimp only
     rw [if_pos rfl, if_neg (by simp)]
     refine ⟨by simp, by simp only [EV, EB, EL, ER, ET, and_self, true_and, and_true, Nat.reduceEqDiff, reduceCtorEq, reduceIte, PRN, MRN, DRN, DS, MS, PGS, PGR, des_ren, exVs_append, List.map_append, List.map_cons, List.map_nil, List.length_append, List.length_cons, List.length_nil, List.nil_append, fnV, fnC, desV_nil], by simp only [EV, EB, EL, ER, ET, and_self, true_and, and_true, Nat.reduceEqDiff, reduceCtorEq, reduceIte, PRN, MRN, DRN, DS, MS, PGS, PGR, des_ren, exVs_append, List.map_append, List.map_cons, List.map_nil, List.length_append, List.length_cons, List.length_nil, List.nil_append, fnV, fnC, desV_nil], by simp only [EV, EB, EL, ER, ET, and_self, true_and, and_true, Nat.reduceEqDiff, reduceCtorEq, reduceIte, PRN, MRN, DRN, DS, MS, PGS, PGR, des_ren, exVs_append, List.map_append, List.map_cons, List.map_nil, List.length_append, List.length_cons, List.length_nil, List.nil_append, fnV, fnC, desV_nil, pick], rfl⟩
    obtain rfl : b3 = false := by simpa using h
    dsimp only at hx
    simp only [bnd_ok] at hx
    refine WC.skip ?_
    try simp only [EQ, reduceIte, Nat.reduceEqDiff]
    refine hK4 _ ?_; try clear hK4 K4
    refine WC.exit ?_
    simp only [EQ, reduceIte, Nat.reduceEqDiff]
    try simp only [EQ, reduceIte, Nat.reduceEqDiff]
    refine ⟨(([], []), s3), [0, 1], ⟨i3, hx⟩, ?_⟩
    dsimp only
    rw [fnsV_nil]
    refine ⟨by simp, by simp only [EV, EB, EL, ER, ET, and_self, true_and, and_true, Nat.reduceEqDiff, reduceCtorEq, reduceIte, PRN, MRN, DRN, DS, MS, PGS, PGR, des_ren], by simp only [EV, EB, EL, ER, ET, and_self, true_and, and_true, Nat.reduceEqDiff, reduceCtorEq, reduceIte, PRN, MRN, DRN, DS, MS, PGS, PGR, des_ren], by simp only [EV, EB, EL, ER, ET, and_self, true_and, and_true, Nat.reduceEqDiff, reduceCtorEq, reduceIte, PRN, MRN, DRN, DS, MS, PGS, PGR, des_ren, pick], rfl⟩
   ·skip
    subst hF
    rw [if_pos rfl, if_neg hQ]
    refine WC.b1 ?_
    refine WC.bs fun K4 hK4 => ?_
    refine WC.rs fun K hK => ?_
    simp only [↓EJ, EX, FA, simprocAttr]
    refine CallX.mk (CallW.par (enc := .bool) (accept_sem ts s1 i1 [102, 117, 110, 99]) rfl rfl (by simp only [CL, and_self]) (fun v => by simp only [CL]) (fun b2 s2 h2 => ?_) (fun e s' he => by intros; exact PSem.fails (fn := Tryd.f10) (s := s') (hx.trans (by simp only [he, bnd_error])) rfl rfl))
    simp only [h2, bnd_ok] at hx
    have g2 := acc_ge i1 h2
    have i2 := g2.1
    have r2 := g2.rem
    have a2 := g2.2
    simp only [↓EJ, EX, FA, simprocAttr]
    refine hK _ ?_; try clear hK K
    refine WC.trim [0, 2, 3, 4, 5, 7, 18, 29, 38, 67, 106] ?_
    simp only [ET, simprocAttr]
    refine WC.cond (c := .tmp 18) rfl (fun h => ?_) (fun h => ?_)
    ·obtain rfl : b2 = true := by simpa using h
     dsimp only at hx
     have q2 := (acc_up i1 h2).rem
     unfold funcF at hx
     refine WC.rs fun K hK => ?_
     simp only [↓EJ, EX, FA, simprocAttr]
     refine CallX.mk (CallW.par (enc := .str) (name_sem ts s2 i2) rfl rfl (by simp only [CL, PCL, TCL, DCL, FCL, RCL, MCL, BCL, GCL, and_self]) (fun v => by simp only [CL, PCL, TCL, DCL, FCL, RCL, MCL, BCL, GCL, and_self]) (fun w s3 h3 => ?_) (fun e s' he => by intros; exact PSem.fails (fn := Tryd.f10) (s := s') (hx.trans (by simp only [he, bnd_error])) rfl rfl))
     simp only [h3, bnd_ok] at hx
     have g3 := name_up i2 h3
     have i3 := g3.1
     have r3 := g3.rem
     have a3 := g3.2
     simp only [↓EJ, EX, FA, simprocAttr, MS]
     refine hK _ ?_; try clear hK K
     refine WC.trim [0, 2, 3, 4, 5, 7, 18, 29, 38, 67, 106] ?_
     simp only [ET, simprocAttr]
     refine WC.zs [1] (by simp only [cutZ, List.drop_zero, List.drop_succ_cons, List.take_zero, List.take_succ_cons, Option.map_some]; rfl) fun K hK => ?_
     simp only [↓EJ, EX, FA, simprocAttr, EZ]
     refine CallX.mk (CallW.par (enc := fun _ => .tuple []) (expect_sem ts [[40]] s3 i3 (by decide)) rfl rfl (by simp only [CL, List.map_cons, List.map_nil, and_self]) (fun v => by simp only [CL]) (fun u4 s4 h4 => ?_) (fun e s' he => by intros; exact PSem.fails (fn := Tryd.f10) (s := s') (hx.trans (by simp only [he, bnd_error])) rfl rfl))
     simp only [h4, bnd_ok] at hx
     have g4 := exp_up i3 h4
     have i4 := g4.1
     have r4 := g4.rem
     have a4 := g4.2
     simp only [↓EJ, EX, FA, simprocAttr, EZ]
     refine hK _ ?_; try clear hK K
     refine WC.trim [0, 2, 3, 4, 5, 7, 18, 29, 38, 67, 106] ?_
     simp only [ET, simprocAttr]
     refine WC.sx (X := List De × PS) (fun y => Ge ts s4 y.2 ∧ x = bnd (bnd (funcK ts w y.1 y.2) (fun f s => defsF ts m ([] ++ [f]) Q s)) (progK2 ts ps)) (fun y => ⟨[(4, .ptr (.l 3) 0 0), (3, .ptr (.l 1) 0 0), (2, .ptr (.l 0) 0 0), (0, .ptr (.o 0) 0 0)], [pblk ts y.2], [.row [.agg [.nils, .nils, .nils, .nils, .nils, .str []]] 6 28, .row [.agg [strsV ps, .nils, .ref (.l 2) 0 Q.length, .nils, .nils, .str []]] 6 28, .row (Q.map fnV) 5 71, .row [.agg [.str w, desV y.1, .nils, .nils, .str []]] 5 71], []⟩) ?_ ?_
     ·cases hp : isP ts s4 [41] with
      | true =>
        simp only [hp, bnd_ok] at hx
        refine WC.rs fun K hK => ?_
        simp only [↓EJ, EX, FA, simprocAttr]
        refine CallX.mk (CallW.one (r := .o 0) (is_sem ts s4 i4 [41]) rfl (pblk_closed ts s4) (pblk_closed ts s4) (by simp only [CL]) (by simp [renL, ren, fCall]) ?_)
        rw [hp]
        simp only [↓EJ, EX, FA, simprocAttr]
        refine hK _ ?_; try clear hK K
        refine WC.trim [0, 2, 3, 4, 5, 7, 18, 29, 38, 67, 106] ?_
        simp only [ET, simprocAttr]
        refine WC.cond (c := .tmp 29) rfl (fun h => ?_) (fun h => ?_)
        ·simp at h
        refine WC.skip ?_
        try simp only [EQ, reduceIte, Nat.reduceEqDiff]
        refine ⟨([], s4), [0, 1, 2, 3], ⟨Ge.refl i4, hx⟩, ?_⟩
        dsimp only
        rw [desV_nil]
        refine ⟨by simp, by simp only [EV, EB, EL, ER, ET, and_self, true_and, and_true, Nat.reduceEqDiff, reduceCtorEq, reduceIte, PRN, MRN, DRN, DS, MS, PGS, PGR, des_ren], by simp only [EV, EB, EL, ER, ET, and_self, true_and, and_true, Nat.reduceEqDiff, reduceCtorEq, reduceIte, PRN, MRN, DRN, DS, MS, PGS, PGR, des_ren], by simp only [EV, EB, EL, ER, ET, and_self, true_and, and_true, Nat.reduceEqDiff, reduceCtorEq, reduceIte, PRN, MRN, DRN, DS, MS, PGS, PGR, des_ren, pick], rfl⟩
      | false =>
        simp only [hp] at hx
        refine WC.rs fun K hK => ?_
        simp only [↓EJ, EX, FA, simprocAttr]
        refine CallX.mk (CallW.one (r := .o 0) (is_sem ts s4 i4 [41]) rfl (pblk_closed ts s4) (pblk_closed ts s4) (by simp only [CL]) (by simp [renL, ren, fCall]) ?_)
        rw [hp]
        simp only [↓EJ, EX, FA, simprocAttr]
        refine hK _ ?_; try clear hK K
        refine WC.trim [0, 2, 3, 4, 5, 7, 18, 29, 38, 67, 106] ?_
        simp only [ET, simprocAttr]
        refine WC.cond (c := .tmp 29) rfl (fun h => ?_) (fun h => ?_)
        rotate_left
        ·simp at h
        refine WC.ds [⟨0, 0, true, []⟩, ⟨1, 0, true, []⟩, ⟨2, 0, false, []⟩, ⟨3, 1, false, [0, 1]⟩, ⟨4, 2, false, []⟩, ⟨5, 1, false, []⟩, ⟨6, 0, false, []⟩, ⟨7, 1, false, []⟩] [0, 1, 0, 4, 12, 31, 63, 127] mo (by kernel_rfl) (by simp only [EPl, List.getElem?_cons_zero, List.getElem?_cons_succ]; rfl) fun K hK => ?_
        simp only [↓EJ, EX, FA, simprocAttr, MS]
        refine CallX.mk (CallW.par (enc := deV) (arg_sem ts s4 i4) rfl rfl (by simp only [CL, PCL, TCL, DCL, FCL, RCL, MCL, BCL, GCL, and_self]) (fun v => by simp only [CL, PCL, TCL, DCL, FCL, RCL, MCL, BCL, GCL, and_self]) (fun t s5 h5 => ?_) (fun e s' he => by intros; exact PSem.fails (fn := Tryd.f10) (s := s') (hx.trans (by simp only [he, bnd_error])) rfl rfl))
        simp only [h5, bnd_ok] at hx
        have g5 := arg_up i4 h5
        have i5 := g5.1
        have r5 := g5.rem
        have a5 := g5.2
        simp only [↓EJ, EX, FA, simprocAttr, DS, MS]
        refine hK _ ?_; try clear hK K
        refine WC.trim [0, 2, 3, 4, 5, 7, 18, 29, 38, 67, 106] ?_
        simp only [ET, simprocAttr]
        refine WC.b1 ?_
        refine WC.loop (X := Nat × List De × PS) (fun y => ⟨[(4, .ptr (.l 3) 0 0), (3, .ptr (.l 1) 0 0), (2, .ptr (.l 0) 0 0), (0, .ptr (.o 0) 0 0)], [pblk ts y.2.2], [.row [.agg [.nils, .nils, .nils, .nils, .nils, .str []]] 6 28, .row [.agg [strsV ps, .nils, .ref (.l 2) 0 Q.length, .nils, .nils, .str []]] 6 28, .row (Q.map fnV) 5 71, .row [.agg [.str w, .ref (.l 4) 0 y.2.1.length, .nils, .nils, .str []]] 5 71, .row (y.2.1.map deV) 6 76], []⟩)
         (fun y => Ge ts s4 y.2.2 ∧ rem ts y.2.2 + 1 ≤ y.1 ∧ y.2.1 ≠ [] ∧ y.2.1.length ≤ y.2.2.at_ ∧ x = bnd (bnd (bnd (argsF ts y.1 y.2.1 y.2.2) (funcK ts w)) (fun f s => defsF ts m ([] ++ [f]) Q s)) (progK2 ts ps)) (fun y => y.1) (rem ts s5 + 1, [t], s5) [0, 1, 2, 3, 4] ⟨g5.ge, Nat.le_refl _, by simp, by simp only [List.length_cons, List.length_nil]; omega, hx⟩ ?_ ?_
        ·refine ⟨by simp, by simp only [EV, EB, EL, ER, ET, and_self, true_and, and_true, Nat.reduceEqDiff, reduceCtorEq, reduceIte, PRN, MRN, DRN, DS, MS, PGS, PGR, des_ren, exVs_append, List.map_append, List.map_cons, List.map_nil, List.length_append, List.length_cons, List.length_nil], by simp only [EV, EB, EL, ER, ET, and_self, true_and, and_true, Nat.reduceEqDiff, reduceCtorEq, reduceIte, PRN, MRN, DRN, DS, MS, PGS, PGR, des_ren, exVs_append, List.map_append, List.map_cons, List.map_nil, List.length_append, List.length_cons, List.length_nil], by simp only [EV, EB, EL, ER, ET, and_self, true_and, and_true, Nat.reduceEqDiff, reduceCtorEq, reduceIte, PRN, MRN, DRN, DS, MS, PGS, PGR, des_ren, exVs_append, List.map_append, List.map_cons, List.map_nil, List.length_append, List.length_cons, List.length_nil, pick], rfl⟩
        clear hx r5 a5 h5 i5
        rintro ⟨mm, acc, s5⟩ ⟨g5, hr5, hne, hlen, hx⟩
        dsimp only at g5 hr5 hne hlen hx ⊢
        have i5 := g5.1
        have hle5 := i5.le
        have hlt5 := i5.lt
        obtain ⟨mm, rfl⟩ : ∃ k, mm = k + 1 := ⟨mm - 1, by omega⟩
        rw [argsF] at hx
        refine WC.sK fun K7 hK7 => ?_
        refine WC.rs fun K hK => ?_
        simp only [↓EJ, EX, FA, simprocAttr]
        refine CallX.mk (CallW.par (enc := .bool) (accept_sem ts s5 i5 [44]) rfl rfl (by simp only [CL, and_self]) (fun v => by simp only [CL]) (fun b6 s6 h6 => ?_) (fun e s' he => by intros; exact PSem.fails (fn := Tryd.f10) (s := s') (hx.trans (by simp only [he, bnd_error])) rfl rfl))
        simp only [h6, bnd_ok] at hx
        have g6 := acc_ge i5 h6
        have i6 := g6.1
        have r6 := g6.rem
        have a6 := g6.2
        simp only [↓EJ, EX, FA, simprocAttr]
        refine hK _ ?_; try clear hK K
        refine WC.trim [0, 2, 3, 4, 5, 7, 18, 29, 38, 67, 106] ?_
        simp only [ET, simprocAttr]
        refine WC.cond (c := .tmp 38) rfl (fun h => ?_) (fun h => ?_)
        ·obtain rfl : b6 = true := by simpa using h
         dsimp only at hx
         have q6 := (acc_up i5 h6).rem
         refine WC.skip ?_
         try simp only [EQ, reduceIte, Nat.reduceEqDiff]
         refine hK7 _ ?_; try clear hK7 K7
         refine WC.b1 ?_
         refine WC.d1 [⟨0, 0, true, []⟩, ⟨1, 0, true, []⟩, ⟨2, 0, false, []⟩, ⟨3, 1, false, [0, 1]⟩, ⟨4, 2, false, []⟩, ⟨5, 1, false, []⟩, ⟨6, 0, false, []⟩, ⟨7, 1, false, []⟩] [0, 1, 0, 4, 12, 31, 63, 127] mo (by kernel_rfl) (by simp only [EPl, List.getElem?_cons_zero, List.getElem?_cons_succ]; rfl) ?_
         simp only [↓EJ, EX, FA, simprocAttr, MS]
         refine CallX.mk (CallW.par (enc := deV) (arg_sem ts s6 i6) rfl rfl (by simp only [CL, PCL, TCL, DCL, FCL, RCL, MCL, BCL, GCL, and_self]) (fun v => by simp only [CL, PCL, TCL, DCL, FCL, RCL, MCL, BCL, GCL, and_self]) (fun t s7 h7 => ?_) (fun e s' he => by intros; exact PSem.fails (fn := Tryd.f10) (s := s') (hx.trans (by simp only [he, bnd_error])) rfl rfl))
         simp only [h7, bnd_ok] at hx
         have g7 := arg_up i6 h7
         have i7 := g7.1
         have r7 := g7.rem
         have a7 := g7.2
         simp only [↓EJ, EX, FA, simprocAttr, DS, MS]
         refine ⟨by rw [List.length_map], by omega, by omega, ?_⟩
         try simp only [EQ, reduceIte, Nat.reduceEqDiff]
         refine ⟨(mm, acc ++ [t], s7), [0, 1, 2, 3, 5], ⟨g5.trans (g6.trans g7.ge), by dsimp only; omega, by simp, by simp only [List.length_append, List.length_cons, List.length_nil]; omega, hx⟩, by dsimp only; omega, ?_⟩
         dsimp only
         refine ⟨by simp, by simp only [EV, EB, EL, ER, ET, and_self, true_and, and_true, Nat.reduceEqDiff, reduceCtorEq, reduceIte, PRN, MRN, DRN, DS, MS, PGS, PGR, des_ren, exVs_append, List.map_append, List.map_cons, List.map_nil, List.length_append, List.length_cons, List.length_nil], by simp only [EV, EB, EL, ER, ET, and_self, true_and, and_true, Nat.reduceEqDiff, reduceCtorEq, reduceIte, PRN, MRN, DRN, DS, MS, PGS, PGR, des_ren, exVs_append, List.map_append, List.map_cons, List.map_nil, List.length_append, List.length_cons, List.length_nil], by simp only [EV, EB, EL, ER, ET, and_self, true_and, and_true, Nat.reduceEqDiff, reduceCtorEq, reduceIte, PRN, MRN, DRN, DS, MS, PGS, PGR, des_ren, exVs_append, List.map_append, List.map_cons, List.map_nil, List.length_append, List.length_cons, List.length_nil, pick], rfl⟩
        ·obtain rfl : b6 = false := by simpa using h
         dsimp only at hx
         simp only [bnd_ok] at hx
         refine WC.frzC 3 4 1 rfl rfl rfl (by decide) (by simp) ?_
         simp only [List.set_cons_zero, List.set_cons_succ]
         refine WC.exit ?_
         simp only [EQ, reduceIte, Nat.reduceEqDiff]
         try simp only [EQ, reduceIte, Nat.reduceEqDiff]
         refine ⟨(acc, s6), [0, 1, 2, 3], ⟨g5.trans g6, hx⟩, ?_⟩
         dsimp only
         rw [desV_ne hne]
         have ht : List.take acc.length (List.drop 0 (List.map deV acc)) = List.map deV acc := by rw [List.drop_zero, List.take_of_length_le (by simp)]
         rw [ht]
         refine ⟨by simp, by simp only [EV, EB, EL, ER, ET, and_self, true_and, and_true, Nat.reduceEqDiff, reduceCtorEq, reduceIte, PRN, MRN, DRN, DS, MS, PGS, PGR, des_ren], by simp only [EV, EB, EL, ER, ET, and_self, true_and, and_true, Nat.reduceEqDiff, reduceCtorEq, reduceIte, PRN, MRN, DRN, DS, MS, PGS, PGR, des_ren], by simp only [EV, EB, EL, ER, ET, and_self, true_and, and_true, Nat.reduceEqDiff, reduceCtorEq, reduceIte, PRN, MRN, DRN, DS, MS, PGS, PGR, des_ren, pick], rfl⟩
     rintro ⟨al, s5⟩ ⟨g5, hx5⟩
     dsimp only at g5 hx5 ⊢
     clear hx
     rename x = _ => hx
     unfold funcK at hx
     have i5 := g5.1
     have r5 := g5.rem
     have a5 := g5.2
     refine WC.zs [1] (by simp only [cutZ, List.drop_zero, List.drop_succ_cons, List.take_zero, List.take_succ_cons, Option.map_some]; rfl) fun K hK => ?_
     simp only [↓EJ, EX, FA, simprocAttr, EZ]
     refine CallX.mk (CallW.par (enc := fun _ => .tuple []) (expect_sem ts [[41], [123]] s5 i5 (by decide)) rfl rfl (by simp only [CL, List.map_cons, List.map_nil, and_self]) (fun v => by simp only [CL]) (fun u6 s6 h6 => ?_) (fun e s' he => by intros; exact PSem.fails (fn := Tryd.f10) (s := s') (hx.trans (by simp only [he, bnd_error])) rfl rfl))
     simp only [h6, bnd_ok] at hx
     have g6 := exp_up i5 h6
     have i6 := g6.1
     have r6 := g6.rem
     have a6 := g6.2
     simp only [↓EJ, EX, FA, simprocAttr, EZ]
     refine hK _ ?_; try clear hK K
     refine WC.trim [0, 2, 3, 4, 5, 7, 18, 29, 38, 67, 106] ?_
     simp only [ET, simprocAttr]
     refine WC.rs fun K hK => ?_
     simp only [↓EJ, EX, FA, simprocAttr]
     refine CallX.mk (CallW.par (enc := blV) (block_sem ts s6 i6) rfl rfl (by simp only [CL, PCL, TCL, DCL, FCL, RCL, MCL, BCL, GCL, and_self]) (fun v => by simp only [CL, PCL, TCL, DCL, FCL, RCL, MCL, BCL, GCL, and_self]) (fun b s7 h7 => ?_) (fun e s' he => by intros; exact PSem.fails (fn := Tryd.f10) (s := s') (hx.trans (by simp only [he, bnd_error])) rfl rfl))
     simp only [h7, bnd_ok] at hx
     have g7 := block_up i6 h7
     have i7 := g7.1
     have r7 := g7.rem
     have a7 := g7.2
     simp only [↓EJ, EX, FA, simprocAttr, blV, MS, desV_sc]
     refine hK _ ?_; try clear hK K
     refine WC.trim [0, 2, 3, 4, 5, 7, 18, 29, 38, 67, 106] ?_
     simp only [ET, simprocAttr]
     refine WC.zs [1] (by simp only [cutZ, List.drop_zero, List.drop_succ_cons, List.take_zero, List.take_succ_cons, Option.map_some]; rfl) fun K hK => ?_
     simp only [↓EJ, EX, FA, simprocAttr, EZ]
     refine CallX.mk (CallW.par (enc := fun _ => .tuple []) (expect_sem ts [[125]] s7 i7 (by decide)) rfl rfl (by simp only [CL, List.map_cons, List.map_nil, and_self]) (fun v => by simp only [CL]) (fun u8 s8 h8 => ?_) (fun e s' he => by intros; exact PSem.fails (fn := Tryd.f10) (s := s') (hx.trans (by simp only [he, bnd_error])) rfl rfl))
     simp only [h8, bnd_ok] at hx
     have g8 := exp_up i7 h8
     have i8 := g8.1
     have r8 := g8.rem
     have a8 := g8.2
     have i8l := i8.le
     have i8t := i8.lt
     simp only [↓EJ, EX, FA, simprocAttr, EZ]
     refine hK _ ?_; try clear hK K
     refine WC.trim [0, 2, 3, 4, 5, 7, 18, 29, 38, 67, 106] ?_
     simp only [ET, simprocAttr]
     refine WC.zs [3] (by simp only [cutZ, List.drop_zero, List.drop_succ_cons, List.take_zero, List.take_succ_cons, Option.map_some]; rfl) fun K hK => ?_
     simp only [↓EJ, EX, FA, simprocAttr, EZ, MS]
     refine hK _ ?_; try clear hK K
     refine WC.trim [0, 2, 3, 4, 5, 7, 18, 29, 38, 67, 106] ?_
     simp only [ET, simprocAttr]
     refine WC.exit ?_
     simp only [EQ, reduceIte, Nat.reduceEqDiff]
     try simp only [EQ, reduceIte, Nat.reduceEqDiff]
     refine ⟨(m, [] ++ [⟨w, al, b.vars, b.body, b.result⟩], Q, s8), [0, 1, 4, 2], ⟨i8, by dsimp only; omega, by simp only [List.length_append, List.length_cons, List.length_nil]; omega, by first | exact Nat.zero_le _ | (dsimp only; omega), hx⟩, by dsimp only; omega, ?_⟩
     dsimp only
     rw [if_neg (by simp), if_neg hQ]
     refine ⟨by simp, by simp only [EV, EB, EL, ER, ET, and_self, true_and, and_true, Nat.reduceEqDiff, reduceCtorEq, reduceIte, PRN, MRN, DRN, DS, MS, PGS, PGR, des_ren, exVs_append, List.map_append, List.map_cons, List.map_nil, List.length_append, List.length_cons, List.length_nil, List.nil_append, fnV, fnC], by simp only [EV, EB, EL, ER, ET, and_self, true_and, and_true, Nat.reduceEqDiff, reduceCtorEq, reduceIte, PRN, MRN, DRN, DS, MS, PGS, PGR, des_ren, exVs_append, List.map_append, List.map_cons, List.map_nil, List.length_append, List.length_cons, List.length_nil, List.nil_append, fnV, fnC], by simp only [EV, EB, EL, ER, ET, and_self, true_and, and_true, Nat.reduceEqDiff, reduceCtorEq, reduceIte, PRN, MRN, DRN, DS, MS, PGS, PGR, des_ren, exVs_append, List.map_append, List.map_cons, List.map_nil, List.length_append, List.length_cons, List.length_nil, List.nil_append, fnV, fnC, pick], rfl⟩
    obtain rfl : b2 = false := by simpa using h
    dsimp only at hx
    refine WC.rs fun K hK => ?_
    simp only [↓EJ, EX, FA, simprocAttr]
    refine CallX.mk (CallW.par (enc := .bool) (accept_sem ts s2 i2 [113, 117, 101, 114, 121]) rfl rfl (by simp only [CL, and_self]) (fun v => by simp only [CL]) (fun b3 s3 h3 => ?_) (fun e s' he => by intros; exact PSem.fails (fn := Tryd.f10) (s := s') (hx.trans (by simp only [he, bnd_error])) rfl rfl))
    simp only [h3, bnd_ok] at hx
    have g3 := acc_ge i2 h3
    have i3 := g3.1
    have r3 := g3.rem
    have a3 := g3.2
    simp only [↓EJ, EX, FA, simprocAttr]
    refine hK _ ?_; try clear hK K
    refine WC.trim [0, 2, 3, 4, 5, 7, 18, 29, 38, 67, 106] ?_
    simp only [ET, simprocAttr]
    refine WC.cond (c := .tmp 67) rfl (fun h => ?_) (fun h => ?_)
    ·obtain rfl : b3 = true := by simpa using h
     dsimp only at hx
     have q3 := (acc_up i2 h3).rem
     unfold queryF at hx
     refine WC.rs fun K hK => ?_
     simp only [↓EJ, EX, FA, simprocAttr]
     refine CallX.mk (CallW.par (enc := .str) (name_sem ts s3 i3) rfl rfl (by simp only [CL, PCL, TCL, DCL, FCL, RCL, MCL, BCL, GCL, and_self]) (fun v => by simp only [CL, PCL, TCL, DCL, FCL, RCL, MCL, BCL, GCL, and_self]) (fun w s4 h4 => ?_) (fun e s' he => by intros; exact PSem.fails (fn := Tryd.f10) (s := s') (hx.trans (by simp only [he, bnd_error])) rfl rfl))
     simp only [h4, bnd_ok] at hx
     have g4 := name_up i3 h4
     have i4 := g4.1
     have r4 := g4.rem
     have a4 := g4.2
     simp only [↓EJ, EX, FA, simprocAttr, MS]
     refine hK _ ?_; try clear hK K
     refine WC.trim [0, 2, 3, 4, 5, 7, 18, 29, 38, 67, 106] ?_
     simp only [ET, simprocAttr]
     refine WC.zs [1] (by simp only [cutZ, List.drop_zero, List.drop_succ_cons, List.take_zero, List.take_succ_cons, Option.map_some]; rfl) fun K hK => ?_
     simp only [↓EJ, EX, FA, simprocAttr, EZ]
     refine CallX.mk (CallW.par (enc := fun _ => .tuple []) (expect_sem ts [[123]] s4 i4 (by decide)) rfl rfl (by simp only [CL, List.map_cons, List.map_nil, and_self]) (fun v => by simp only [CL]) (fun u6 s6 h6 => ?_) (fun e s' he => by intros; exact PSem.fails (fn := Tryd.f10) (s := s') (hx.trans (by simp only [he, bnd_error])) rfl rfl))
     simp only [h6, bnd_ok] at hx
     have g6 := exp_up i4 h6
     have i6 := g6.1
     have r6 := g6.rem
     have a6 := g6.2
     simp only [↓EJ, EX, FA, simprocAttr, EZ]
     refine hK _ ?_; try clear hK K
     refine WC.trim [0, 2, 3, 4, 5, 7, 18, 29, 38, 67, 106] ?_
     simp only [ET, simprocAttr]
     refine WC.rs fun K hK => ?_
     simp only [↓EJ, EX, FA, simprocAttr]
     refine CallX.mk (CallW.par (enc := blV) (block_sem ts s6 i6) rfl rfl (by simp only [CL, PCL, TCL, DCL, FCL, RCL, MCL, BCL, GCL, and_self]) (fun v => by simp only [CL, PCL, TCL, DCL, FCL, RCL, MCL, BCL, GCL, and_self]) (fun b s7 h7 => ?_) (fun e s' he => by intros; exact PSem.fails (fn := Tryd.f10) (s := s') (hx.trans (by simp only [he, bnd_error])) rfl rfl))
     simp only [h7, bnd_ok] at hx
     have g7 := block_up i6 h7
     have i7 := g7.1
     have r7 := g7.rem
     have a7 := g7.2
     simp only [↓EJ, EX, FA, simprocAttr, blV, MS, desV_sc]
     refine hK _ ?_; try clear hK K
     refine WC.trim [0, 2, 3, 4, 5, 7, 18, 29, 38, 67, 106] ?_
     simp only [ET, simprocAttr]
     refine WC.zs [1] (by simp only [cutZ, List.drop_zero, List.drop_succ_cons, List.take_zero, List.take_succ_cons, Option.map_some]; rfl) fun K hK => ?_
     simp only [↓EJ, EX, FA, simprocAttr, EZ]
     refine CallX.mk (CallW.par (enc := fun _ => .tuple []) (expect_sem ts [[125]] s7 i7 (by decide)) rfl rfl (by simp only [CL, List.map_cons, List.map_nil, and_self]) (fun v => by simp only [CL]) (fun u8 s8 h8 => ?_) (fun e s' he => by intros; exact PSem.fails (fn := Tryd.f10) (s := s') (hx.trans (by simp only [he, bnd_error])) rfl rfl))
     simp only [h8, bnd_ok] at hx
     have g8 := exp_up i7 h8
     have i8 := g8.1
     have r8 := g8.rem
     have a8 := g8.2
     have i8l := i8.le
     have i8t := i8.lt
     simp only [↓EJ, EX, FA, simprocAttr, EZ]
     refine hK _ ?_; try clear hK K
     refine WC.trim [0, 2, 3, 4, 5, 7, 18, 29, 38, 67, 106] ?_
     simp only [ET, simprocAttr]
     refine WC.zs [3] (by simp only [cutZ, List.drop_zero, List.drop_succ_cons, List.take_zero, List.take_succ_cons, Option.map_some]; rfl) fun K hK => ?_
     simp only [↓EJ, EX, FA, simprocAttr, EZ, MS]
     refine ⟨by rw [List.length_map], by omega, by omega, ?_⟩
     refine hK _ ?_; try clear hK K
     refine WC.trim [0, 2, 3, 4, 5, 7, 18, 29, 38, 67, 106] ?_
     simp only [ET, simprocAttr]
     refine WC.exit ?_
     simp only [EQ, reduceIte, Nat.reduceEqDiff]
     try simp only [EQ, reduceIte, Nat.reduceEqDiff]
     refine ⟨(m, [], Q ++ [⟨w, [], b.vars, b.body, b.result⟩], s8), [0, 1, 4], ⟨i8, by dsimp only; omega, by first | exact Nat.zero_le _ | (dsimp only; omega), by simp only [List.length_append, List.length_cons, List.length_nil]; omega, hx⟩, by dsimp only; omega, ?_⟩
     dsimp only
     rw [if_pos rfl, if_neg (by simp)]
     refine ⟨by simp, by simp only [EV, EB, EL, ER, ET, and_self, true_and, and_true, Nat.reduceEqDiff, reduceCtorEq, reduceIte, PRN, MRN, DRN, DS, MS, PGS, PGR, des_ren, exVs_append, List.map_append, List.map_cons, List.map_nil, List.length_append, List.length_cons, List.length_nil, List.nil_append, fnV, fnC, desV_nil], by simp only [EV, EB, EL, ER, ET, and_self, true_and, and_true, Nat.reduceEqDiff, reduceCtorEq, reduceIte, PRN, MRN, DRN, DS, MS, PGS, PGR, des_ren, exVs_append, List.map_append, List.map_cons, List.map_nil, List.length_append, List.length_cons, List.length_nil, List.nil_append, fnV, fnC, desV_nil], by simp only [EV, EB, EL, ER, ET, and_self, true_and, and_true, Nat.reduceEqDiff, reduceCtorEq, reduceIte, PRN, MRN, DRN, DS, MS, PGS, PGR, des_ren, exVs_append, List.map_append, List.map_cons, List.map_nil, List.length_append, List.length_cons, List.length_nil, List.nil_append, fnV, fnC, desV_nil, pick], rfl⟩
    obtain rfl : b3 = false := by simpa using h
    dsimp only at hx
    simp only [bnd_ok] at hx
    refine WC.skip ?_
    try simp only [EQ, reduceIte, Nat.reduceEqDiff]
    refine hK4 _ ?_; try clear hK4 K4
    refine WC.frzC 1 2 2 rfl rfl rfl (by decide) (by simp) ?_
    simp only [List.set_cons_zero, List.set_cons_succ]
    refine WC.exit ?_
    simp only [EQ, reduceIte, Nat.reduceEqDiff]
    try simp only [EQ, reduceIte, Nat.reduceEqDiff]
    refine ⟨(([], Q), s3), [0, 1], ⟨i3, hx⟩, ?_⟩
    dsimp only
    rw [fnsV_nil, fnsV_ne hQ]
    have ht2 : List.take Q.length (List.drop 0 (List.map fnV Q)) = List.map fnV Q := by rw [List.drop_zero, List.take_of_length_le (by simp)]
    rw [ht2]
    refine ⟨by simp, by simp only [EV, EB, EL, ER, ET, and_self, true_and, and_true, Nat.reduceEqDiff, reduceCtorEq, reduceIte, PRN, MRN, DRN, DS, MS, PGS, PGR, des_ren], by simp only [EV, EB, EL, ER, ET, and_self, true_and, and_true, Nat.reduceEqDiff, reduceCtorEq, reduceIte, PRN, MRN, DRN, DS, MS, PGS, PGR, des_ren], by simp only [EV, EB, EL, ER, ET, and_self, true_and, and_true, Nat.reduceEqDiff, reduceCtorEq, reduceIte, PRN, MRN, DRN, DS, MS, PGS, PGR, des_ren, pick], rfl⟩
   ·skip
    subst hQ
    rw [if_neg hF, if_pos rfl]
    refine WC.b1 ?_
    refine WC.bs fun K4 hK4 => ?_
    refine WC.rs fun K hK => ?_
    simp only [↓EJ, EX, FA, simprocAttr]
    refine CallX.mk (CallW.par (enc := .bool) (accept_sem ts s1 i1 [102, 117, 110, 99]) rfl rfl (by simp only [CL, and_self]) (fun v => by simp only [CL]) (fun b2 s2 h2 => ?_) (fun e s' he => by intros; exact PSem.fails (fn := Tryd.f10) (s := s') (hx.trans (by simp only [he, bnd_error])) rfl rfl))
    simp only [h2, bnd_ok] at hx
    have g2 := acc_ge i1 h2
    have i2 := g2.1
    have r2 := g2.rem
    have a2 := g2.2
    simp only [↓EJ, EX, FA, simprocAttr]
    refine hK _ ?_; try clear hK K
    refine WC.trim [0, 2, 3, 4, 5, 7, 18, 29, 38, 67, 106] ?_
    simp only [ET, simprocAttr]
    refine WC.cond (c := .tmp 18) rfl (fun h => ?_) (fun h => ?_)
    ·obtain rfl : b2 = true := by simpa using h
     dsimp only at hx
     have q2 := (acc_up i1 h2).rem
     unfold funcF at hx
     refine WC.rs fun K hK => ?_
     simp only [↓EJ, EX, FA, simprocAttr]
     refine CallX.mk (CallW.par (enc := .str) (name_sem ts s2 i2) rfl rfl (by simp only [CL, PCL, TCL, DCL, FCL, RCL, MCL, BCL, GCL, and_self]) (fun v => by simp only [CL, PCL, TCL, DCL, FCL, RCL, MCL, BCL, GCL, and_self]) (fun w s3 h3 => ?_) (fun e s' he => by intros; exact PSem.fails (fn := Tryd.f10) (s := s') (hx.trans (by simp only [he, bnd_error])) rfl rfl))
     simp only [h3, bnd_ok] at hx
     have g3 := name_up i2 h3
     have i3 := g3.1
     have r3 := g3.rem
     have a3 := g3.2
     simp only [↓EJ, EX, FA, simprocAttr, MS]
     refine hK _ ?_; try clear hK K
     refine WC.trim [0, 2, 3, 4, 5, 7, 18, 29, 38, 67, 106] ?_
     simp only [ET, simprocAttr]
     refine WC.zs [1] (by simp only [cutZ, List.drop_zero, List.drop_succ_cons, List.take_zero, List.take_succ_cons, Option.map_some]; rfl) fun K hK => ?_
     simp only [↓EJ, EX, FA, simprocAttr, EZ]
     refine CallX.mk (CallW.par (enc := fun _ => .tuple []) (expect_sem ts [[40]] s3 i3 (by decide)) rfl rfl (by simp only [CL, List.map_cons, List.map_nil, and_self]) (fun v => by simp only [CL]) (fun u4 s4 h4 => ?_) (fun e s' he => by intros; exact PSem.fails (fn := Tryd.f10) (s := s') (hx.trans (by simp only [he, bnd_error])) rfl rfl))
     simp only [h4, bnd_ok] at hx
     have g4 := exp_up i3 h4
     have i4 := g4.1
     have r4 := g4.rem
     have a4 := g4.2
     simp only [↓EJ, EX, FA, simprocAttr, EZ]
     refine hK _ ?_; try clear hK K
     refine WC.trim [0, 2, 3, 4, 5, 7, 18, 29, 38, 67, 106] ?_
     simp only [ET, simprocAttr]
     refine WC.sx (X := List De × PS) (fun y => Ge ts s4 y.2 ∧ x = bnd (bnd (funcK ts w y.1 y.2) (fun f s => defsF ts m (F ++ [f]) [] s)) (progK2 ts ps)) (fun y => ⟨[(4, .ptr (.l 3) 0 0), (3, .ptr (.l 1) 0 0), (2, .ptr (.l 0) 0 0), (0, .ptr (.o 0) 0 0)], [pblk ts y.2], [.row [.agg [.nils, .nils, .nils, .nils, .nils, .str []]] 6 28, .row [.agg [strsV ps, .ref (.l 2) 0 F.length, .nils, .nils, .nils, .str []]] 6 28, .row (F.map fnV) 5 71, .row [.agg [.str w, desV y.1, .nils, .nils, .str []]] 5 71], []⟩) ?_ ?_
     ·cases hp : isP ts s4 [41] with
      | true =>
        simp only [hp, bnd_ok] at hx
        refine WC.rs fun K hK => ?_
        simp only [↓EJ, EX, FA, simprocAttr]
        refine CallX.mk (CallW.one (r := .o 0) (is_sem ts s4 i4 [41]) rfl (pblk_closed ts s4) (pblk_closed ts s4) (by simp only [CL]) (by simp [renL, ren, fCall]) ?_)
        rw [hp]
        simp only [↓EJ, EX, FA, simprocAttr]
        refine hK _ ?_; try clear hK K
        refine WC.trim [0, 2, 3, 4, 5, 7, 18, 29, 38, 67, 106] ?_
        simp only [ET, simprocAttr]
        refine WC.cond (c := .tmp 29) rfl (fun h => ?_) (fun h => ?_)
        ·simp at h
        refine WC.skip ?_
        try simp only [EQ, reduceIte, Nat.reduceEqDiff]
        refine ⟨([], s4), [0, 1, 2, 3], ⟨Ge.refl i4, hx⟩, ?_⟩
        dsimp only
        rw [desV_nil]
        refine ⟨by simp, by simp only [EV, EB, EL, ER, ET, and_self, true_and, and_true, Nat.reduceEqDiff, reduceCtorEq, reduceIte, PRN, MRN, DRN, DS, MS, PGS, PGR, des_ren], by simp only [EV, EB, EL, ER, ET, and_self, true_and, and_true, Nat.reduceEqDiff, reduceCtorEq, reduceIte, PRN, MRN, DRN, DS, MS, PGS, PGR, des_ren], by simp only [EV, EB, EL, ER, ET, and_self, true_and, and_true, Nat.reduceEqDiff, reduceCtorEq, reduceIte, PRN, MRN, DRN, DS, MS, PGS, PGR, des_ren, pick], rfl⟩
      | false =>
        simp only [hp] at hx
        refine WC.rs fun K hK => ?_
        simp only [↓EJ, EX, FA, simprocAttr]
        refine CallX.mk (CallW.one (r := .o 0) (is_sem ts s4 i4 [41]) rfl (pblk_closed ts s4) (pblk_closed ts s4) (by simp only [CL]) (by simp [renL, ren, fCall]) ?_)
        rw [hp]
        simp only [↓EJ, EX, FA, simprocAttr]
        refine hK _ ?_; try clear hK K
        refine WC.trim [0, 2, 3, 4, 5, 7, 18, 29, 38, 67, 106] ?_
        simp only [ET, simprocAttr]
        refine WC.cond (c := .tmp 29) rfl (fun h => ?_) (fun h => ?_)
        rotate_left
        ·simp at h
        refine WC.ds [⟨0, 0, true, []⟩, ⟨1, 0, true, []⟩, ⟨2, 0, false, []⟩, ⟨3, 1, false, [0, 1]⟩, ⟨4, 2, false, []⟩, ⟨5, 1, false, []⟩, ⟨6, 0, false, []⟩, ⟨7, 1, false, []⟩] [0, 1, 0, 4, 12, 31, 63, 127] mo (by kernel_rfl) (by simp only [EPl, List.getElem?_cons_zero, List.getElem?_cons_succ]; rfl) fun K hK => ?_
        simp only [↓EJ, EX, FA, simprocAttr, MS]
        refine CallX.mk (CallW.par (enc := deV) (arg_sem ts s4 i4) rfl rfl (by simp only [CL, PCL, TCL, DCL, FCL, RCL, MCL, BCL, GCL, and_self]) (fun v => by simp only [CL, PCL, TCL, DCL, FCL, RCL, MCL, BCL, GCL, and_self]) (fun t s5 h5 => ?_) (fun e s' he => by intros; exact PSem.fails (fn := Tryd.f10) (s := s') (hx.trans (by simp only [he, bnd_error])) rfl rfl))
        simp only [h5, bnd_ok] at hx
        have g5 := arg_up i4 h5
        have i5 := g5.1
        have r5 := g5.rem
        have a5 := g5.2
        simp only [↓EJ, EX, FA, simprocAttr, DS, MS]
        refine hK _ ?_; try clear hK K
        refine WC.trim [0, 2, 3, 4, 5, 7, 18, 29, 38, 67, 106] ?_
        simp only [ET, simprocAttr]
        refine WC.b1 ?_
        refine WC.loop (X := Nat × List De × PS) (fun y => ⟨[(4, .ptr (.l 3) 0 0), (3, .ptr (.l 1) 0 0), (2, .ptr (.l 0) 0 0), (0, .ptr (.o 0) 0 0)], [pblk ts y.2.2], [.row [.agg [.nils, .nils, .nils, .nils, .nils, .str []]] 6 28, .row [.agg [strsV ps, .ref (.l 2) 0 F.length, .nils, .nils, .nils, .str []]] 6 28, .row (F.map fnV) 5 71, .row [.agg [.str w, .ref (.l 4) 0 y.2.1.length, .nils, .nils, .str []]] 5 71, .row (y.2.1.map deV) 6 76], []⟩)
         (fun y => Ge ts s4 y.2.2 ∧ rem ts y.2.2 + 1 ≤ y.1 ∧ y.2.1 ≠ [] ∧ y.2.1.length ≤ y.2.2.at_ ∧ x = bnd (bnd (bnd (argsF ts y.1 y.2.1 y.2.2) (funcK ts w)) (fun f s => defsF ts m (F ++ [f]) [] s)) (progK2 ts ps)) (fun y => y.1) (rem ts s5 + 1, [t], s5) [0, 1, 2, 3, 4] ⟨g5.ge, Nat.le_refl _, by simp, by simp only [List.length_cons, List.length_nil]; omega, hx⟩ ?_ ?_
        ·refine ⟨by simp, by simp only [EV, EB, EL, ER, ET, and_self, true_and, and_true, Nat.reduceEqDiff, reduceCtorEq, reduceIte, PRN, MRN, DRN, DS, MS, PGS, PGR, des_ren, exVs_append, List.map_append, List.map_cons, List.map_nil, List.length_append, List.length_cons, List.length_nil], by simp only [EV, EB, EL, ER, ET, and_self, true_and, and_true, Nat.reduceEqDiff, reduceCtorEq, reduceIte, PRN, MRN, DRN, DS, MS, PGS, PGR, des_ren, exVs_append, List.map_append, List.map_cons, List.map_nil, List.length_append, List.length_cons, List.length_nil], by simp only [EV, EB, EL, ER, ET, and_self, true_and, and_true, Nat.reduceEqDiff, reduceCtorEq, reduceIte, PRN, MRN, DRN, DS, MS, PGS, PGR, des_ren, exVs_append, List.map_append, List.map_cons, List.map_nil, List.length_append, List.length_cons, List.length_nil, pick], rfl⟩
        clear hx r5 a5 h5 i5
        rintro ⟨mm, acc, s5⟩ ⟨g5, hr5, hne, hlen, hx⟩
        dsimp only at g5 hr5 hne hlen hx ⊢
        have i5 := g5.1
        have hle5 := i5.le
        have hlt5 := i5.lt
        obtain ⟨mm, rfl⟩ : ∃ k, mm = k + 1 := ⟨mm - 1, by omega⟩
        rw [argsF] at hx
        refine WC.sK fun K7 hK7 => ?_
        refine WC.rs fun K hK => ?_
        simp only [↓EJ, EX, FA, simprocAttr]
        refine CallX.mk (CallW.par (enc := .bool) (accept_sem ts s5 i5 [44]) rfl rfl (by simp only [CL, and_self]) (fun v => by simp only [CL]) (fun b6 s6 h6 => ?_) (fun e s' he => by intros; exact PSem.fails (fn := Tryd.f10) (s := s') (hx.trans (by simp only [he, bnd_error])) rfl rfl))
        simp only [h6, bnd_ok] at hx
        have g6 := acc_ge i5 h6
        have i6 := g6.1
        have r6 := g6.rem
        have a6 := g6.2
        simp only [↓EJ, EX, FA, simprocAttr]
        refine hK _ ?_; try clear hK K
        refine WC.trim [0, 2, 3, 4, 5, 7, 18, 29, 38, 67, 106] ?_
        simp only [ET, simprocAttr]
        refine WC.cond (c := .tmp 38) rfl (fun h => ?_) (fun h => ?_)
        ·obtain rfl : b6 = true := by simpa using h
         dsimp only at hx
         have q6 := (acc_up i5 h6).rem
         refine WC.skip ?_
         try simp only [EQ, reduceIte, Nat.reduceEqDiff]
         refine hK7 _ ?_; try clear hK7 K7
         refine WC.b1 ?_
         refine WC.d1 [⟨0, 0, true, []⟩, ⟨1, 0, true, []⟩, ⟨2, 0, false, []⟩, ⟨3, 1, false, [0, 1]⟩, ⟨4, 2, false, []⟩, ⟨5, 1, false, []⟩, ⟨6, 0, false, []⟩, ⟨7, 1, false, []⟩] [0, 1, 0, 4, 12, 31, 63, 127] mo (by kernel_rfl) (by simp only [EPl, List.getElem?_cons_zero, List.getElem?_cons_succ]; rfl) ?_
         simp only [↓EJ, EX, FA, simprocAttr, MS]
         refine CallX.mk (CallW.par (enc := deV) (arg_sem ts s6 i6) rfl rfl (by simp only [CL, PCL, TCL, DCL, FCL, RCL, MCL, BCL, GCL, and_self]) (fun v => by simp only [CL, PCL, TCL, DCL, FCL, RCL, MCL, BCL, GCL, and_self]) (fun t s7 h7 => ?_) (fun e s' he => by intros; exact PSem.fails (fn := Tryd.f10) (s := s') (hx.trans (by simp only [he, bnd_error])) rfl rfl))
         simp only [h7, bnd_ok] at hx
         have g7 := arg_up i6 h7
         have i7 := g7.1
         have r7 := g7.rem
         have a7 := g7.2
         simp only [↓EJ, EX, FA, simprocAttr, DS, MS]
         refine ⟨by rw [List.length_map], by omega, by omega, ?_⟩
         try simp only [EQ, reduceIte, Nat.reduceEqDiff]
         refine ⟨(mm, acc ++ [t], s7), [0, 1, 2, 3, 5], ⟨g5.trans (g6.trans g7.ge), by dsimp only; omega, by simp, by simp only [List.length_append, List.length_cons, List.length_nil]; omega, hx⟩, by dsimp only; omega, ?_⟩
         dsimp only
         refine ⟨by simp, by simp only [EV, EB, EL, ER, ET, and_self, true_and, and_true, Nat.reduceEqDiff, reduceCtorEq, reduceIte, PRN, MRN, DRN, DS, MS, PGS, PGR, des_ren, exVs_append, List.map_append, List.map_cons, List.map_nil, List.length_append, List.length_cons, List.length_nil], by simp only [EV, EB, EL, ER, ET, and_self, true_and, and_true, Nat.reduceEqDiff, reduceCtorEq, reduceIte, PRN, MRN, DRN, DS, MS, PGS, PGR, des_ren, exVs_append, List.map_append, List.map_cons, List.map_nil, List.length_append, List.length_cons, List.length_nil], by simp only [EV, EB, EL, ER, ET, and_self, true_and, and_true, Nat.reduceEqDiff, reduceCtorEq, reduceIte, PRN, MRN, DRN, DS, MS, PGS, PGR, des_ren, exVs_append, List.map_append, List.map_cons, List.map_nil, List.length_append, List.length_cons, List.length_nil, pick], rfl⟩
        ·obtain rfl : b6 = false := by simpa using h
         dsimp only at hx
         simp only [bnd_ok] at hx
         refine WC.frzC 3 4 1 rfl rfl rfl (by decide) (by simp) ?_
         simp only [List.set_cons_zero, List.set_cons_succ]
         refine WC.exit ?_
         simp only [EQ, reduceIte, Nat.reduceEqDiff]
         try simp only [EQ, reduceIte, Nat.reduceEqDiff]
         refine ⟨(acc, s6), [0, 1, 2, 3], ⟨g5.trans g6, hx⟩, ?_⟩
         dsimp only
         rw [desV_ne hne]
         have ht : List.take acc.length (List.drop 0 (List.map deV acc)) = List.map deV acc := by rw [List.drop_zero, List.take_of_length_le (by simp)]
         rw [ht]
         refine ⟨by simp, by simp only [EV, EB, EL, ER, ET, and_self, true_and, and_true, Nat.reduceEqDiff, reduceCtorEq, reduceIte, PRN, MRN, DRN, DS, MS, PGS, PGR, des_ren], by simp only [EV, EB, EL, ER, ET, and_self, true_and, and_true, Nat.reduceEqDiff, reduceCtorEq, reduceIte, PRN, MRN, DRN, DS, MS, PGS, PGR, des_ren], by simp only [EV, EB, EL, ER, ET, and_self, true_and, and_true, Nat.reduceEqDiff, reduceCtorEq, reduceIte, PRN, MRN, DRN, DS, MS, PGS, PGR, des_ren, pick], rfl⟩
     rintro ⟨al, s5⟩ ⟨g5, hx5⟩
     dsimp only at g5 hx5 ⊢
     clear hx
     rename x = _ => hx
     unfold funcK at hx
     have i5 := g5.1
     have r5 := g5.rem
     have a5 := g5.2
     refine WC.zs [1] (by simp only [cutZ, List.drop_zero, List.drop_succ_cons, List.take_zero, List.take_succ_cons, Option.map_some]; rfl) fun K hK => ?_
     simp only [↓EJ, EX, FA, simprocAttr, EZ]
     refine CallX.mk (CallW.par (enc := fun _ => .tuple []) (expect_sem ts [[41], [123]] s5 i5 (by decide)) rfl rfl (by simp only [CL, List.map_cons, List.map_nil, and_self]) (fun v => by simp only [CL]) (fun u6 s6 h6 => ?_) (fun e s' he => by intros; exact PSem.fails (fn := Tryd.f10) (s := s') (hx.trans (by simp only [he, bnd_error])) rfl rfl))
     simp only [h6, bnd_ok] at hx
     have g6 := exp_up i5 h6
     have i6 := g6.1
     have r6 := g6.rem
     have a6 := g6.2
     simp only [↓EJ, EX, FA, simprocAttr, EZ]
     refine hK _ ?_; try clear hK K
     refine WC.trim [0, 2, 3, 4, 5, 7, 18, 29, 38, 67, 106] ?_
     simp only [ET, simprocAttr]
     refine WC.rs fun K hK => ?_
     simp only [↓EJ, EX, FA, simprocAttr]
     refine CallX.mk (CallW.par (enc := blV) (block_sem ts s6 i6) rfl rfl (by simp only [CL, PCL, TCL, DCL, FCL, RCL, MCL, BCL, GCL, and_self]) (fun v => by simp only [CL, PCL, TCL, DCL, FCL, RCL, MCL, BCL, GCL, and_self]) (fun b s7 h7 => ?_) (fun e s' he => by intros; exact PSem.fails (fn := Tryd.f10) (s := s') (hx.trans (by simp only [he, bnd_error])) rfl rfl))
     simp only [h7, bnd_ok] at hx
     have g7 := block_up i6 h7
     have i7 := g7.1
     have r7 := g7.rem
     have a7 := g7.2
     simp only [↓EJ, EX, FA, simprocAttr, blV, MS, desV_sc]
     refine hK _ ?_; try clear hK K
     refine WC.trim [0, 2, 3, 4, 5, 7, 18, 29, 38, 67, 106] ?_
     simp only [ET, simprocAttr]
     refine WC.zs [1] (by simp only [cutZ, List.drop_zero, List.drop_succ_cons, List.take_zero, List.take_succ_cons, Option.map_some]; rfl) fun K hK => ?_
     simp only [↓EJ, EX, FA, simprocAttr, EZ]
     refine CallX.mk (CallW.par (enc := fun _ => .tuple []) (expect_sem ts [[125]] s7 i7 (by decide)) rfl rfl (by simp only [CL, List.map_cons, List.map_nil, and_self]) (fun v => by simp only [CL]) (fun u8 s8 h8 => ?_) (fun e s' he => by intros; exact PSem.fails (fn := Tryd.f10) (s := s') (hx.trans (by simp only [he, bnd_error])) rfl rfl))
     simp only [h8, bnd_ok] at hx
     have g8 := exp_up i7 h8
     have i8 := g8.1
     have r8 := g8.rem
     have a8 := g8.2
     have i8l := i8.le
     have i8t := i8.lt
     simp only [↓EJ, EX, FA, simprocAttr, EZ]
     refine hK _ ?_; try clear hK K
     refine WC.trim [0, 2, 3, 4, 5, 7, 18, 29, 38, 67, 106] ?_
     simp only [ET, simprocAttr]
     refine WC.zs [3] (by simp only [cutZ, List.drop_zero, List.drop_succ_cons, List.take_zero, List.take_succ_cons, Option.map_some]; rfl) fun K hK => ?_
     simp only [↓EJ, EX, FA, simprocAttr, EZ, MS]
     refine ⟨by rw [List.length_map], by omega, by omega, ?_⟩
     refine hK _ ?_; try clear hK K
     refine WC.trim [0, 2, 3, 4, 5, 7, 18, 29, 38, 67, 106] ?_
     simp only [ET, simprocAttr]
     refine WC.exit ?_
     simp only [EQ, reduceIte, Nat.reduceEqDiff]
     try simp only [EQ, reduceIte, Nat.reduceEqDiff]
     refine ⟨(m, F ++ [⟨w, al, b.vars, b.body, b.result⟩], [], s8), [0, 1, 4], ⟨i8, by dsimp only; omega, by simp only [List.length_append, List.length_cons, List.length_nil]; omega, by first | exact Nat.zero_le _ | (dsimp only; omega), hx⟩, by dsimp only; omega, ?_⟩
     dsimp only
     rw [if_neg (by simp), if_pos rfl]
     refine ⟨by simp, by simp only [EV, EB, EL, ER, ET, and_self, true_and, and_true, Nat.reduceEqDiff, reduceCtorEq, reduceIte, PRN, MRN, DRN, DS, MS, PGS, PGR, des_ren, exVs_append, List.map_append, List.map_cons, List.map_nil, List.length_append, List.length_cons, List.length_nil, List.nil_append, fnV, fnC], by simp only [EV, EB, EL, ER, ET, and_self, true_and, and_true, Nat.reduceEqDiff, reduceCtorEq, reduceIte, PRN, MRN, DRN, DS, MS, PGS, PGR, des_ren, exVs_append, List.map_append, List.map_cons, List.map_nil, List.length_append, List.length_cons, List.length_nil, List.nil_append, fnV, fnC], by simp only [EV, EB, EL, ER, ET, and_self, true_and, and_true, Nat.reduceEqDiff, reduceCtorEq, reduceIte, PRN, MRN, DRN, DS, MS, PGS, PGR, des_ren, exVs_append, List.map_append, List.map_cons, List.map_nil, List.length_append, List.length_cons, List.length_nil, List.nil_append, fnV, fnC, pick], rfl⟩
    obtain rfl : b2 = false := by simpa using h
    dsimp only at hx
    refine WC.rs fun K hK => ?_
    simp only [↓EJ, EX, FA, simprocAttr]
    refine CallX.mk (CallW.par (enc := .bool) (accept_sem ts s2 i2 [113, 117, 101, 114, 121]) rfl rfl (by simp only [CL, and_self]) (fun v => by simp only [CL]) (fun b3 s3 h3 => ?_) (fun e s' he => by intros; exact PSem.fails (fn := Tryd.f10) (s := s') (hx.trans (by simp only [he, bnd_error])) rfl rfl))
    simp only [h3, bnd_ok] at hx
    have g3 := acc_ge i2 h3
    have i3 := g3.1
    have r3 := g3.rem
    have a3 := g3.2
    simp only [↓EJ, EX, FA, simprocAttr]
    refine hK _ ?_; try clear hK K
    refine WC.trim [0, 2, 3, 4, 5, 7, 18, 29, 38, 67, 106] ?_
    simp only [ET, simprocAttr]
    refine WC.cond (c := .tmp 67) rfl (fun h => ?_) (fun h => ?_)
    ·obtain rfl : b3 = true := by simpa using h
     dsimp only at hx
     have q3 := (acc_up i2 h3).rem
     unfold queryF at hx
     refine WC.rs fun K hK => ?_
     simp only [↓EJ, EX, FA, simprocAttr]
     refine CallX.mk (CallW.par (enc := .str) (name_sem ts s3 i3) rfl rfl (by simp only [CL, PCL, TCL, DCL, FCL, RCL, MCL, BCL, GCL, and_self]) (fun v => by simp only [CL, PCL, TCL, DCL, FCL, RCL, MCL, BCL, GCL, and_self]) (fun w s4 h4 => ?_) (fun e s' he => by intros; exact PSem.fails (fn := Tryd.f10) (s := s') (hx.trans (by simp only [he, bnd_error])) rfl rfl))
     simp only [h4, bnd_ok] at hx
     have g4 := name_up i3 h4
     have i4 := g4.1
     have r4 := g4.rem
     have a4 := g4.2
     simp only [↓EJ, EX, FA, simprocAttr, MS]
     refine hK _ ?_; try clear hK K
     refine WC.trim [0, 2, 3, 4, 5, 7, 18, 29, 38, 67, 106] ?_
     simp only [ET, simprocAttr]
     refine WC.zs [1] (by simp only [cutZ, List.drop_zero, List.drop_succ_cons, List.take_zero, List.take_succ_cons, Option.map_some]; rfl) fun K hK => ?_
     simp only [↓EJ, EX, FA, simprocAttr, EZ]
     refine CallX.mk (CallW.par (enc := fun _ => .tuple []) (expect_sem ts [[123]] s4 i4 (by decide)) rfl rfl (by simp only [CL, List.map_cons, List.map_nil, and_self]) (fun v => by simp only [CL]) (fun u6 s6 h6 => ?_) (fun e s' he => by intros; exact PSem.fails (fn := Tryd.f10) (s := s') (hx.trans (by simp only [he, bnd_error])) rfl rfl))
     simp only [h6, bnd_ok] at hx
     have g6 := exp_up i4 h6
     have i6 := g6.1
     have r6 := g6.rem
     have a6 := g6.2
     simp only [↓EJ, EX, FA, simprocAttr, EZ]
     refine hK _ ?_; try clear hK K
     refine WC.trim [0, 2, 3, 4, 5, 7, 18, 29, 38, 67, 106] ?_
     simp only [ET, simprocAttr]
     refine WC.rs fun K hK => ?_
     simp only [↓EJ, EX, FA, simprocAttr]
     refine CallX.mk (CallW.par (enc := blV) (block_sem ts s6 i6) rfl rfl (by simp only [CL, PCL, TCL, DCL, FCL, RCL, MCL, BCL, GCL, and_self]) (fun v => by simp only [CL, PCL, TCL, DCL, FCL, RCL, MCL, BCL, GCL, and_self]) (fun b s7 h7 => ?_) (fun e s' he => by intros; exact PSem.fails (fn := Tryd.f10) (s := s') (hx.trans (by simp only [he, bnd_error])) rfl rfl))
     simp only [h7, bnd_ok] at hx
     have g7 := block_up i6 h7
     have i7 := g7.1
     have r7 := g7.rem
     have a7 := g7.2
     simp only [↓EJ, EX, FA, simprocAttr, blV, MS, desV_sc]
     refine hK _ ?_; try clear hK K
     refine WC.trim [0, 2, 3, 4, 5, 7, 18, 29, 38, 67, 106] ?_
     simp only [ET, simprocAttr]
     refine WC.zs [1] (by simp only [cutZ, List.drop_zero, List.drop_succ_cons, List.take_zero, List.take_succ_cons, Option.map_some]; rfl) fun K hK => ?_
     simp only [↓EJ, EX, FA, simprocAttr, EZ]
     refine CallX.mk (CallW.par (enc := fun _ => .tuple []) (expect_sem ts [[125]] s7 i7 (by decide)) rfl rfl (by simp only [CL, List.map_cons, List.map_nil, and_self]) (fun v => by simp only [CL]) (fun u8 s8 h8 => ?_) (fun e s' he => by intros; exact PSem.fails (fn := Tryd.f10) (s := s') (hx.trans (by simp only [he, bnd_error])) rfl rfl))
     simp only [h8, bnd_ok] at hx
     have g8 := exp_up i7 h8
     have i8 := g8.1
     have r8 := g8.rem
     have a8 := g8.2
     have i8l := i8.le
     have i8t := i8.lt
     simp only [↓EJ, EX, FA, simprocAttr, EZ]
     refine hK _ ?_; try clear hK K
     refine WC.trim [0, 2, 3, 4, 5, 7, 18, 29, 38, 67, 106] ?_
     simp only [ET, simprocAttr]
     refine WC.zs [3] (by simp only [cutZ, List.drop_zero, List.drop_succ_cons, List.take_zero, List.take_succ_cons, Option.map_some]; rfl) fun K hK => ?_
     simp only [↓EJ, EX, FA, simprocAttr, EZ, MS]
     refine hK _ ?_; try clear hK K
     refine WC.trim [0, 2, 3, 4, 5, 7, 18, 29, 38, 67, 106] ?_
     simp only [ET, simprocAttr]
     refine WC.exit ?_
     simp only [EQ, reduceIte, Nat.reduceEqDiff]
     try simp only [EQ, reduceIte, Nat.reduceEqDiff]
     refine ⟨(m, F, [] ++ [⟨w, [], b.vars, b.body, b.result⟩], s8), [0, 1, 2, 4], ⟨i8, by dsimp only; omega, by first | exact Nat.zero_le _ | (dsimp only; omega), by simp only [List.length_append, List.length_cons, List.length_nil]; omega, hx⟩, by dsimp only; omega, ?_⟩
     dsimp only
     rw [if_neg hF, if_neg (by simp)]
     refine ⟨by simp, by simp only [EV, EB, EL, ER, ET, and_self, true_and, and_true, Nat.reduceEqDiff, reduceCtorEq, reduceIte, PRN, MRN, DRN, DS, MS, PGS, PGR, des_ren, exVs_append, List.map_append, List.map_cons, List.map_nil, List.length_append, List.length_cons, List.length_nil, List.nil_append, fnV, fnC, desV_nil], by simp only [EV, EB, EL, ER, ET, and_self, true_and, and_true, Nat.reduceEqDiff, reduceCtorEq, reduceIte, PRN, MRN, DRN, DS, MS, PGS, PGR, des_ren, exVs_append, List.map_append, List.map_cons, List.map_nil, List.length_append, List.length_cons, List.length_nil, List.nil_append, fnV, fnC, desV_nil], by simp only [EV, EB, EL, ER, ET, and_self, true_and, and_true, Nat.reduceEqDiff, reduceCtorEq, reduceIte, PRN, MRN, DRN, DS, MS, PGS, PGR, des_ren, exVs_append, List.map_append, List.map_cons, List.map_nil, List.length_append, List.length_cons, List.length_nil, List.nil_append, fnV, fnC, desV_nil, pick], rfl⟩
    obtain rfl : b3 = false := by simpa using h
    dsimp only at hx
    simp only [bnd_ok] at hx
    refine WC.skip ?_
    try simp only [EQ, reduceIte, Nat.reduceEqDiff]
    refine hK4 _ ?_; try clear hK4 K4
    refine WC.frzC 1 2 1 rfl rfl rfl (by decide) (by simp) ?_
    simp only [List.set_cons_zero, List.set_cons_succ]
    refine WC.exit ?_
    simp only [EQ, reduceIte, Nat.reduceEqDiff]
    try simp only [EQ, reduceIte, Nat.reduceEqDiff]
    refine ⟨((F, []), s3), [0, 1], ⟨i3, hx⟩, ?_⟩
    dsimp only
    rw [fnsV_ne hF, fnsV_nil]
    have ht : List.take F.length (List.drop 0 (List.map fnV F)) = List.map fnV F := by rw [List.drop_zero, List.take_of_length_le (by simp)]
    rw [ht]
    refine ⟨by simp, by simp only [EV, EB, EL, ER, ET, and_self, true_and, and_true, Nat.reduceEqDiff, reduceCtorEq, reduceIte, PRN, MRN, DRN, DS, MS, PGS, PGR, des_ren], by simp only [EV, EB, EL, ER, ET, and_self, true_and, and_true, Nat.reduceEqDiff, reduceCtorEq, reduceIte, PRN, MRN, DRN, DS, MS, PGS, PGR, des_ren], by simp only [EV, EB, EL, ER, ET, and_self, true_and, and_true, Nat.reduceEqDiff, reduceCtorEq, reduceIte, PRN, MRN, DRN, DS, MS, PGS, PGR, des_ren, pick], rfl⟩
   ·skip
    rw [if_neg hF, if_neg hQ]
    refine WC.b1 ?_
    refine WC.bs fun K4 hK4 => ?_
    refine WC.rs fun K hK => ?_
    simp only [↓EJ, EX, FA, simprocAttr]
    refine CallX.mk (CallW.par (enc := .bool) (accept_sem ts s1 i1 [102, 117, 110, 99]) rfl rfl (by simp only [CL, and_self]) (fun v => by simp only [CL]) (fun b2 s2 h2 => ?_) (fun e s' he => by intros; exact PSem.fails (fn := Tryd.f10) (s := s') (hx.trans (by simp only [he, bnd_error])) rfl rfl))
    simp only [h2, bnd_ok] at hx
    have g2 := acc_ge i1 h2
    have i2 := g2.1
    have r2 := g2.rem
    have a2 := g2.2
    simp only [↓EJ, EX, FA, simprocAttr]
    refine hK _ ?_; try clear hK K
    refine WC.trim [0, 2, 3, 4, 5, 7, 18, 29, 38, 67, 106] ?_
    simp only [ET, simprocAttr]
    refine WC.cond (c := .tmp 18) rfl (fun h => ?_) (fun h => ?_)
    ·obtain rfl : b2 = true := by simpa using h
     dsimp only at hx
     have q2 := (acc_up i1 h2).rem
     unfold funcF at hx
     refine WC.rs fun K hK => ?_
     simp only [↓EJ, EX, FA, simprocAttr]
     refine CallX.mk (CallW.par (enc := .str) (name_sem ts s2 i2) rfl rfl (by simp only [CL, PCL, TCL, DCL, FCL, RCL, MCL, BCL, GCL, and_self]) (fun v => by simp only [CL, PCL, TCL, DCL, FCL, RCL, MCL, BCL, GCL, and_self]) (fun w s3 h3 => ?_) (fun e s' he => by intros; exact PSem.fails (fn := Tryd.f10) (s := s') (hx.trans (by simp only [he, bnd_error])) rfl rfl))
     simp only [h3, bnd_ok] at hx
     have g3 := name_up i2 h3
     have i3 := g3.1
     have r3 := g3.rem
     have a3 := g3.2
     simp only [↓EJ, EX, FA, simprocAttr, MS]
     refine hK _ ?_; try clear hK K
     refine WC.trim [0, 2, 3, 4, 5, 7, 18, 29, 38, 67, 106] ?_
     simp only [ET, simprocAttr]
     refine WC.zs [1] (by simp only [cutZ, List.drop_zero, List.drop_succ_cons, List.take_zero, List.take_succ_cons, Option.map_some]; rfl) fun K hK => ?_
     simp only [↓EJ, EX, FA, simprocAttr, EZ]
     refine CallX.mk (CallW.par (enc := fun _ => .tuple []) (expect_sem ts [[40]] s3 i3 (by decide)) rfl rfl (by simp only [CL, List.map_cons, List.map_nil, and_self]) (fun v => by simp only [CL]) (fun u4 s4 h4 => ?_) (fun e s' he => by intros; exact PSem.fails (fn := Tryd.f10) (s := s') (hx.trans (by simp only [he, bnd_error])) rfl rfl))
     simp only [h4, bnd_ok] at hx
     have g4 := exp_up i3 h4
     have i4 := g4.1
     have r4 := g4.rem
     have a4 := g4.2
     simp only [↓EJ, EX, FA, simprocAttr, EZ]
     refine hK _ ?_; try clear hK K
     refine WC.trim [0, 2, 3, 4, 5, 7, 18, 29, 38, 67, 106] ?_
     simp only [ET, simprocAttr]
     refine WC.sx (X := List De × PS) (fun y => Ge ts s4 y.2 ∧ x = bnd (bnd (funcK ts w y.1 y.2) (fun f s => defsF ts m (F ++ [f]) Q s)) (progK2 ts ps)) (fun y => ⟨[(4, .ptr (.l 4) 0 0), (3, .ptr (.l 1) 0 0), (2, .ptr (.l 0) 0 0), (0, .ptr (.o 0) 0 0)], [pblk ts y.2], [.row [.agg [.nils, .nils, .nils, .nils, .nils, .str []]] 6 28, .row [.agg [strsV ps, .ref (.l 2) 0 F.length, .ref (.l 3) 0 Q.length, .nils, .nils, .str []]] 6 28, .row (F.map fnV) 5 71, .row (Q.map fnV) 5 71, .row [.agg [.str w, desV y.1, .nils, .nils, .str []]] 5 71], []⟩) ?_ ?_
     ·cases hp : isP ts s4 [41] with
      | true =>
        simp only [hp, bnd_ok] at hx
        refine WC.rs fun K hK => ?_
        simp only [↓EJ, EX, FA, simprocAttr]
        refine CallX.mk (CallW.one (r := .o 0) (is_sem ts s4 i4 [41]) rfl (pblk_closed ts s4) (pblk_closed ts s4) (by simp only [CL]) (by simp [renL, ren, fCall]) ?_)
        rw [hp]
        simp only [↓EJ, EX, FA, simprocAttr]
        refine hK _ ?_; try clear hK K
        refine WC.trim [0, 2, 3, 4, 5, 7, 18, 29, 38, 67, 106] ?_
        simp only [ET, simprocAttr]
        refine WC.cond (c := .tmp 29) rfl (fun h => ?_) (fun h => ?_)
        ·simp at h
        refine WC.skip ?_
        try simp only [EQ, reduceIte, Nat.reduceEqDiff]
        refine ⟨([], s4), [0, 1, 2, 3, 4], ⟨Ge.refl i4, hx⟩, ?_⟩
        dsimp only
        rw [desV_nil]
        refine ⟨by simp, by simp only [EV, EB, EL, ER, ET, and_self, true_and, and_true, Nat.reduceEqDiff, reduceCtorEq, reduceIte, PRN, MRN, DRN, DS, MS, PGS, PGR, des_ren], by simp only [EV, EB, EL, ER, ET, and_self, true_and, and_true, Nat.reduceEqDiff, reduceCtorEq, reduceIte, PRN, MRN, DRN, DS, MS, PGS, PGR, des_ren], by simp only [EV, EB, EL, ER, ET, and_self, true_and, and_true, Nat.reduceEqDiff, reduceCtorEq, reduceIte, PRN, MRN, DRN, DS, MS, PGS, PGR, des_ren, pick], rfl⟩
      | false =>
        simp only [hp] at hx
        refine WC.rs fun K hK => ?_
        simp only [↓EJ, EX, FA, simprocAttr]
        refine CallX.mk (CallW.one (r := .o 0) (is_sem ts s4 i4 [41]) rfl (pblk_closed ts s4) (pblk_closed ts s4) (by simp only [CL]) (by simp [renL, ren, fCall]) ?_)
        rw [hp]
        simp only [↓EJ, EX, FA, simprocAttr]
        refine hK _ ?_; try clear hK K
        refine WC.trim [0, 2, 3, 4, 5, 7, 18, 29, 38, 67, 106] ?_
        simp only [ET, simprocAttr]
        refine WC.cond (c := .tmp 29) rfl (fun h => ?_) (fun h => ?_)
        rotate_left
        ·simp at h
        refine WC.ds [⟨0, 0, true, []⟩, ⟨1, 0, true, []⟩, ⟨2, 0, false, []⟩, ⟨3, 1, false, [0, 1]⟩, ⟨4, 2, false, []⟩, ⟨5, 1, false, []⟩, ⟨6, 0, false, []⟩, ⟨7, 1, false, []⟩] [0, 1, 0, 4, 12, 31, 63, 127] mo (by kernel_rfl) (by simp only [EPl, List.getElem?_cons_zero, List.getElem?_cons_succ]; rfl) fun K hK => ?_
        simp only [↓EJ, EX, FA, simprocAttr, MS]
        refine CallX.mk (CallW.par (enc := deV) (arg_sem ts s4 i4) rfl rfl (by simp only [CL, PCL, TCL, DCL, FCL, RCL, MCL, BCL, GCL, and_self]) (fun v => by simp only [CL, PCL, TCL, DCL, FCL, RCL, MCL, BCL, GCL, and_self]) (fun t s5 h5 => ?_) (fun e s' he => by intros; exact PSem.fails (fn := Tryd.f10) (s := s') (hx.trans (by simp only [he, bnd_error])) rfl rfl))
        simp only [h5, bnd_ok] at hx
        have g5 := arg_up i4 h5
        have i5 := g5.1
        have r5 := g5.rem
        have a5 := g5.2
        simp only [↓EJ, EX, FA, simprocAttr, DS, MS]
        refine hK _ ?_; try clear hK K
        refine WC.trim [0, 2, 3, 4, 5, 7, 18, 29, 38, 67, 106] ?_
        simp only [ET, simprocAttr]
        refine WC.b1 ?_
        refine WC.loop (X := Nat × List De × PS) (fun y => ⟨[(4, .ptr (.l 4) 0 0), (3, .ptr (.l 1) 0 0), (2, .ptr (.l 0) 0 0), (0, .ptr (.o 0) 0 0)], [pblk ts y.2.2], [.row [.agg [.nils, .nils, .nils, .nils, .nils, .str []]] 6 28, .row [.agg [strsV ps, .ref (.l 2) 0 F.length, .ref (.l 3) 0 Q.length, .nils, .nils, .str []]] 6 28, .row (F.map fnV) 5 71, .row (Q.map fnV) 5 71, .row [.agg [.str w, .ref (.l 5) 0 y.2.1.length, .nils, .nils, .str []]] 5 71, .row (y.2.1.map deV) 6 76], []⟩)
         (fun y => Ge ts s4 y.2.2 ∧ rem ts y.2.2 + 1 ≤ y.1 ∧ y.2.1 ≠ [] ∧ y.2.1.length ≤ y.2.2.at_ ∧ x = bnd (bnd (bnd (argsF ts y.1 y.2.1 y.2.2) (funcK ts w)) (fun f s => defsF ts m (F ++ [f]) Q s)) (progK2 ts ps)) (fun y => y.1) (rem ts s5 + 1, [t], s5) [0, 1, 2, 3, 4, 5] ⟨g5.ge, Nat.le_refl _, by simp, by simp only [List.length_cons, List.length_nil]; omega, hx⟩ ?_ ?_
        ·refine ⟨by simp, by simp only [EV, EB, EL, ER, ET, and_self, true_and, and_true, Nat.reduceEqDiff, reduceCtorEq, reduceIte, PRN, MRN, DRN, DS, MS, PGS, PGR, des_ren, exVs_append, List.map_append, List.map_cons, List.map_nil, List.length_append, List.length_cons, List.length_nil], by simp only [EV, EB, EL, ER, ET, and_self, true_and, and_true, Nat.reduceEqDiff, reduceCtorEq, reduceIte, PRN, MRN, DRN, DS, MS, PGS, PGR, des_ren, exVs_append, List.map_append, List.map_cons, List.map_nil, List.length_append, List.length_cons, List.length_nil], by simp only [EV, EB, EL, ER, ET, and_self, true_and, and_true, Nat.reduceEqDiff, reduceCtorEq, reduceIte, PRN, MRN, DRN, DS, MS, PGS, PGR, des_ren, exVs_append, List.map_append, List.map_cons, List.map_nil, List.length_append, List.length_cons, List.length_nil, pick], rfl⟩
        clear hx r5 a5 h5 i5
        rintro ⟨mm, acc, s5⟩ ⟨g5, hr5, hne, hlen, hx⟩
        dsimp only at g5 hr5 hne hlen hx ⊢
        have i5 := g5.1
        have hle5 := i5.le
        have hlt5 := i5.lt
        obtain ⟨mm, rfl⟩ : ∃ k, mm = k + 1 := ⟨mm - 1, by omega⟩
        rw [argsF] at hx
        refine WC.sK fun K7 hK7 => ?_
        refine WC.rs fun K hK => ?_
        simp only [↓EJ, EX, FA, simprocAttr]
        refine CallX.mk (CallW.par (enc := .bool) (accept_sem ts s5 i5 [44]) rfl rfl (by simp only [CL, and_self]) (fun v => by simp only [CL]) (fun b6 s6 h6 => ?_) (fun e s' he => by intros; exact PSem.fails (fn := Tryd.f10) (s := s') (hx.trans (by simp only [he, bnd_error])) rfl rfl))
        simp only [h6, bnd_ok] at hx
        have g6 := acc_ge i5 h6
        have i6 := g6.1
        have r6 := g6.rem
        have a6 := g6.2
        simp only [↓EJ, EX, FA, simprocAttr]
        refine hK _ ?_; try clear hK K
        refine WC.trim [0, 2, 3, 4, 5, 7, 18, 29, 38, 67, 106] ?_
        simp only [ET, simprocAttr]
        refine WC.cond (c := .tmp 38) rfl (fun h => ?_) (fun h => ?_)
        ·obtain rfl : b6 = true := by simpa using h
         dsimp only at hx
         have q6 := (acc_up i5 h6).rem
         refine WC.skip ?_
         try simp only [EQ, reduceIte, Nat.reduceEqDiff]
         refine hK7 _ ?_; try clear hK7 K7
         refine WC.b1 ?_
         refine WC.d1 [⟨0, 0, true, []⟩, ⟨1, 0, true, []⟩, ⟨2, 0, false, []⟩, ⟨3, 1, false, [0, 1]⟩, ⟨4, 2, false, []⟩, ⟨5, 1, false, []⟩, ⟨6, 0, false, []⟩, ⟨7, 1, false, []⟩] [0, 1, 0, 4, 12, 31, 63, 127] mo (by kernel_rfl) (by simp only [EPl, List.getElem?_cons_zero, List.getElem?_cons_succ]; rfl) ?_
         simp only [↓EJ, EX, FA, simprocAttr, MS]
         refine CallX.mk (CallW.par (enc := deV) (arg_sem ts s6 i6) rfl rfl (by simp only [CL, PCL, TCL, DCL, FCL, RCL, MCL, BCL, GCL, and_self]) (fun v => by simp only [CL, PCL, TCL, DCL, FCL, RCL, MCL, BCL, GCL, and_self]) (fun t s7 h7 => ?_) (fun e s' he => by intros; exact PSem.fails (fn := Tryd.f10) (s := s') (hx.trans (by simp only [he, bnd_error])) rfl rfl))
         simp only [h7, bnd_ok] at hx
         have g7 := arg_up i6 h7
         have i7 := g7.1
         have r7 := g7.rem
         have a7 := g7.2
         simp only [↓EJ, EX, FA, simprocAttr, DS, MS]
         refine ⟨by rw [List.length_map], by omega, by omega, ?_⟩
         try simp only [EQ, reduceIte, Nat.reduceEqDiff]
         refine ⟨(mm, acc ++ [t], s7), [0, 1, 2, 3, 4, 6], ⟨g5.trans (g6.trans g7.ge), by dsimp only; omega, by simp, by simp only [List.length_append, List.length_cons, List.length_nil]; omega, hx⟩, by dsimp only; omega, ?_⟩
         dsimp only
         refine ⟨by simp, by simp only [EV, EB, EL, ER, ET, and_self, true_and, and_true, Nat.reduceEqDiff, reduceCtorEq, reduceIte, PRN, MRN, DRN, DS, MS, PGS, PGR, des_ren, exVs_append, List.map_append, List.map_cons, List.map_nil, List.length_append, List.length_cons, List.length_nil], by simp only [EV, EB, EL, ER, ET, and_self, true_and, and_true, Nat.reduceEqDiff, reduceCtorEq, reduceIte, PRN, MRN, DRN, DS, MS, PGS, PGR, des_ren, exVs_append, List.map_append, List.map_cons, List.map_nil, List.length_append, List.length_cons, List.length_nil], by simp only [EV, EB, EL, ER, ET, and_self, true_and, and_true, Nat.reduceEqDiff, reduceCtorEq, reduceIte, PRN, MRN, DRN, DS, MS, PGS, PGR, des_ren, exVs_append, List.map_append, List.map_cons, List.map_nil, List.length_append, List.length_cons, List.length_nil, pick], rfl⟩
        ·obtain rfl : b6 = false := by simpa using h
         dsimp only at hx
         simp only [bnd_ok] at hx
         refine WC.frzC 4 5 1 rfl rfl rfl (by decide) (by simp) ?_
         simp only [List.set_cons_zero, List.set_cons_succ]
         refine WC.exit ?_
         simp only [EQ, reduceIte, Nat.reduceEqDiff]
         try simp only [EQ, reduceIte, Nat.reduceEqDiff]
         refine ⟨(acc, s6), [0, 1, 2, 3, 4], ⟨g5.trans g6, hx⟩, ?_⟩
         dsimp only
         rw [desV_ne hne]
         have ht : List.take acc.length (List.drop 0 (List.map deV acc)) = List.map deV acc := by rw [List.drop_zero, List.take_of_length_le (by simp)]
         rw [ht]
         refine ⟨by simp, by simp only [EV, EB, EL, ER, ET, and_self, true_and, and_true, Nat.reduceEqDiff, reduceCtorEq, reduceIte, PRN, MRN, DRN, DS, MS, PGS, PGR, des_ren], by simp only [EV, EB, EL, ER, ET, and_self, true_and, and_true, Nat.reduceEqDiff, reduceCtorEq, reduceIte, PRN, MRN, DRN, DS, MS, PGS, PGR, des_ren], by simp only [EV, EB, EL, ER, ET, and_self, true_and, and_true, Nat.reduceEqDiff, reduceCtorEq, reduceIte, PRN, MRN, DRN, DS, MS, PGS, PGR, des_ren, pick], rfl⟩
     rintro ⟨al, s5⟩ ⟨g5, hx5⟩
     dsimp only at g5 hx5 ⊢
     clear hx
     rename x = _ => hx
     unfold funcK at hx
     have i5 := g5.1
     have r5 := g5.rem
     have a5 := g5.2
     refine WC.zs [1] (by simp only [cutZ, List.drop_zero, List.drop_succ_cons, List.take_zero, List.take_succ_cons, Option.map_some]; rfl) fun K hK => ?_
     simp only [↓EJ, EX, FA, simprocAttr, EZ]
     refine CallX.mk (CallW.par (enc := fun _ => .tuple []) (expect_sem ts [[41], [123]] s5 i5 (by decide)) rfl rfl (by simp only [CL, List.map_cons, List.map_nil, and_self]) (fun v => by simp only [CL]) (fun u6 s6 h6 => ?_) (fun e s' he => by intros; exact PSem.fails (fn := Tryd.f10) (s := s') (hx.trans (by simp only [he, bnd_error])) rfl rfl))
     simp only [h6, bnd_ok] at hx
     have g6 := exp_up i5 h6
     have i6 := g6.1
     have r6 := g6.rem
     have a6 := g6.2
     simp only [↓EJ, EX, FA, simprocAttr, EZ]
     refine hK _ ?_; try clear hK K
     refine WC.trim [0, 2, 3, 4, 5, 7, 18, 29, 38, 67, 106] ?_
     simp only [ET, simprocAttr]
     refine WC.rs fun K hK => ?_
     simp only [↓EJ, EX, FA, simprocAttr]
     refine CallX.mk (CallW.par (enc := blV) (block_sem ts s6 i6) rfl rfl (by simp only [CL, PCL, TCL, DCL, FCL, RCL, MCL, BCL, GCL, and_self]) (fun v => by simp only [CL, PCL, TCL, DCL, FCL, RCL, MCL, BCL, GCL, and_self]) (fun b s7 h7 => ?_) (fun e s' he => by intros; exact PSem.fails (fn := Tryd.f10) (s := s') (hx.trans (by simp only [he, bnd_error])) rfl rfl))
     simp only [h7, bnd_ok] at hx
     have g7 := block_up i6 h7
     have i7 := g7.1
     have r7 := g7.rem
     have a7 := g7.2
     simp only [↓EJ, EX, FA, simprocAttr, blV, MS, desV_sc]
     refine hK _ ?_; try clear hK K
     refine WC.trim [0, 2, 3, 4, 5, 7, 18, 29, 38, 67, 106] ?_
     simp only [ET, simprocAttr]
     refine WC.zs [1] (by simp only [cutZ, List.drop_zero, List.drop_succ_cons, List.take_zero, List.take_succ_cons, Option.map_some]; rfl) fun K hK => ?_
     simp only [↓EJ, EX, FA, simprocAttr, EZ]
     refine CallX.mk (CallW.par (enc := fun _ => .tuple []) (expect_sem ts [[125]] s7 i7 (by decide)) rfl rfl (by simp only [CL, List.map_cons, List.map_nil, and_self]) (fun v => by simp only [CL]) (fun u8 s8 h8 => ?_) (fun e s' he => by intros; exact PSem.fails (fn := Tryd.f10) (s := s') (hx.trans (by simp only [he, bnd_error])) rfl rfl))
     simp only [h8, bnd_ok] at hx
     have g8 := exp_up i7 h8
     have i8 := g8.1
     have r8 := g8.rem
     have a8 := g8.2
     have i8l := i8.le
     have i8t := i8.lt
     simp only [↓EJ, EX, FA, simprocAttr, EZ]
     refine hK _ ?_; try clear hK K
     refine WC.trim [0, 2, 3, 4, 5, 7, 18, 29, 38, 67, 106] ?_
     simp only [ET, simprocAttr]
     refine WC.zs [3] (by simp only [cutZ, List.drop_zero, List.drop_succ_cons, List.take_zero, List.take_succ_cons, Option.map_some]; rfl) fun K hK => ?_
     simp only [↓EJ, EX, FA, simprocAttr, EZ, MS]
     refine ⟨by rw [List.length_map], by omega, by omega, ?_⟩
     refine hK _ ?_; try clear hK K
     refine WC.trim [0, 2, 3, 4, 5, 7, 18, 29, 38, 67, 106] ?_
     simp only [ET, simprocAttr]
     refine WC.exit ?_
     simp only [EQ, reduceIte, Nat.reduceEqDiff]
     try simp only [EQ, reduceIte, Nat.reduceEqDiff]
     refine ⟨(m, F ++ [⟨w, al, b.vars, b.body, b.result⟩], Q, s8), [0, 1, 5, 3], ⟨i8, by dsimp only; omega, by simp only [List.length_append, List.length_cons, List.length_nil]; omega, by first | exact Nat.zero_le _ | (dsimp only; omega), hx⟩, by dsimp only; omega, ?_⟩
     dsimp only
     rw [if_neg (by simp), if_neg hQ]
     refine ⟨by simp, by simp only [EV, EB, EL, ER, ET, and_self, true_and, and_true, Nat.reduceEqDiff, reduceCtorEq, reduceIte, PRN, MRN, DRN, DS, MS, PGS, PGR, des_ren, exVs_append, List.map_append, List.map_cons, List.map_nil, List.length_append, List.length_cons, List.length_nil, List.nil_append, fnV, fnC], by simp only [EV, EB, EL, ER, ET, and_self, true_and, and_true, Nat.reduceEqDiff, reduceCtorEq, reduceIte, PRN, MRN, DRN, DS, MS, PGS, PGR, des_ren, exVs_append, List.map_append, List.map_cons, List.map_nil, List.length_append, List.length_cons, List.length_nil, List.nil_append, fnV, fnC], by simp only [EV, EB, EL, ER, ET, and_self, true_and, and_true, Nat.reduceEqDiff, reduceCtorEq, reduceIte, PRN, MRN, DRN, DS, MS, PGS, PGR, des_ren, exVs_append, List.map_append, List.map_cons, List.map_nil, List.length_append, List.length_cons, List.length_nil, List.nil_append, fnV, fnC, pick], rfl⟩
    obtain rfl : b2 = false := by simpa using h
    dsimp only at hx
    refine WC.rs fun K hK => ?_
    simp only [↓EJ, EX, FA, simprocAttr]
    refine CallX.mk (CallW.par (enc := .bool) (accept_sem ts s2 i2 [113, 117, 101, 114, 121]) rfl rfl (by simp only [CL, and_self]) (fun v => by simp only [CL]) (fun b3 s3 h3 => ?_) (fun e s' he => by intros; exact PSem.fails (fn := Tryd.f10) (s := s') (hx.trans (by simp only [he, bnd_error])) rfl rfl))
    simp only [h3, bnd_ok] at hx
    have g3 := acc_ge i2 h3
    have i3 := g3.1
    have r3 := g3.rem
    have a3 := g3.2
    simp only [↓EJ, EX, FA, simprocAttr]
    refine hK _ ?_; try clear hK K
    refine WC.trim [0, 2, 3, 4, 5, 7, 18, 29, 38, 67, 106] ?_
    simp only [ET, simprocAttr]
    refine WC.cond (c := .tmp 67) rfl (fun h => ?_) (fun h => ?_)
    ·obtain rfl : b3 = true := by simpa using h
     dsimp only at hx
     have q3 := (acc_up i2 h3).rem
     unfold queryF at hx
     refine WC.rs fun K hK => ?_
     simp only [↓EJ, EX, FA, simprocAttr]
     refine CallX.mk (CallW.par (enc := .str) (name_sem ts s3 i3) rfl rfl (by simp only [CL, PCL, TCL, DCL, FCL, RCL, MCL, BCL, GCL, and_self]) (fun v => by simp only [CL, PCL, TCL, DCL, FCL, RCL, MCL, BCL, GCL, and_self]) (fun w s4 h4 => ?_) (fun e s' he => by intros; exact PSem.fails (fn := Tryd.f10) (s := s') (hx.trans (by simp only [he, bnd_error])) rfl rfl))
     simp only [h4, bnd_ok] at hx
     have g4 := name_up i3 h4
     have i4 := g4.1
     have r4 := g4.rem
     have a4 := g4.2
     simp only [↓EJ, EX, FA, simprocAttr, MS]
     refine hK _ ?_; try clear hK K
     refine WC.trim [0, 2, 3, 4, 5, 7, 18, 29, 38, 67, 106] ?_
     simp only [ET, simprocAttr]
     refine WC.zs [1] (by simp only [cutZ, List.drop_zero, List.drop_succ_cons, List.take_zero, List.take_succ_cons, Option.map_some]; rfl) fun K hK => ?_
     simp only [↓EJ, EX, FA, simprocAttr, EZ]
     refine CallX.mk (CallW.par (enc := fun _ => .tuple []) (expect_sem ts [[123]] s4 i4 (by decide)) rfl rfl (by simp only [CL, List.map_cons, List.map_nil, and_self]) (fun v => by simp only [CL]) (fun u6 s6 h6 => ?_) (fun e s' he => by intros; exact PSem.fails (fn := Tryd.f10) (s := s') (hx.trans (by simp only [he, bnd_error])) rfl rfl))
     simp only [h6, bnd_ok] at hx
     have g6 := exp_up i4 h6
     have i6 := g6.1
     have r6 := g6.rem
     have a6 := g6.2
     simp only [↓EJ, EX, FA, simprocAttr, EZ]
     refine hK _ ?_; try clear hK K
     refine WC.trim [0, 2, 3, 4, 5, 7, 18, 29, 38, 67, 106] ?_
     simp only [ET, simprocAttr]
     refine WC.rs fun K hK => ?_
     simp only [↓EJ, EX, FA, simprocAttr]
     refine CallX.mk (CallW.par (enc := blV) (block_sem ts s6 i6) rfl rfl (by simp only [CL, PCL, TCL, DCL, FCL, RCL, MCL, BCL, GCL, and_self]) (fun v => by simp only [CL, PCL, TCL, DCL, FCL, RCL, MCL, BCL, GCL, and_self]) (fun b s7 h7 => ?_) (fun e s' he => by intros; exact PSem.fails (fn := Tryd.f10) (s := s') (hx.trans (by simp only [he, bnd_error])) rfl rfl))
     simp only [h7, bnd_ok] at hx
     have g7 := block_up i6 h7
     have i7 := g7.1
     have r7 := g7.rem
     have a7 := g7.2
     simp only [↓EJ, EX, FA, simprocAttr, blV, MS, desV_sc]
     refine hK _ ?_; try clear hK K
     refine WC.trim [0, 2, 3, 4, 5, 7, 18, 29, 38, 67, 106] ?_
     simp only [ET, simprocAttr]
     refine WC.zs [1] (by simp only [cutZ, List.drop_zero, List.drop_succ_cons, List.take_zero, List.take_succ_cons, Option.map_some]; rfl) fun K hK => ?_
     simp only [↓EJ, EX, FA, simprocAttr, EZ]
     refine CallX.mk (CallW.par (enc := fun _ => .tuple []) (expect_sem ts [[125]] s7 i7 (by decide)) rfl rfl (by simp only [CL, List.map_cons, List.map_nil, and_self]) (fun v => by simp only [CL]) (fun u8 s8 h8 => ?_) (fun e s' he => by intros; exact PSem.fails (fn := Tryd.f10) (s := s') (hx.trans (by simp only [he, bnd_error])) rfl rfl))
     simp only [h8, bnd_ok] at hx
     have g8 := exp_up i7 h8
     have i8 := g8.1
     have r8 := g8.rem
     have a8 := g8.2
     have i8l := i8.le
     have i8t := i8.lt
     simp only [↓EJ, EX, FA, simprocAttr, EZ]
     refine hK _ ?_; try clear hK K
     refine WC.trim [0, 2, 3, 4, 5, 7, 18, 29, 38, 67, 106] ?_
     simp only [ET, simprocAttr]
     refine WC.zs [3] (by simp only [cutZ, List.drop_zero, List.drop_succ_cons, List.take_zero, List.take_succ_cons, Option.map_some]; rfl) fun K hK => ?_
     simp only [↓EJ, EX, FA, simprocAttr, EZ, MS]
     refine ⟨by rw [List.length_map], by omega, by omega, ?_⟩
     refine hK _ ?_; try clear hK K
     refine WC.trim [0, 2, 3, 4, 5, 7, 18, 29, 38, 67, 106] ?_
     simp only [ET, simprocAttr]
     refine WC.exit ?_
     simp only [EQ, reduceIte, Nat.reduceEqDiff]
     try simp only [EQ, reduceIte, Nat.reduceEqDiff]
     refine ⟨(m, F, Q ++ [⟨w, [], b.vars, b.body, b.result⟩], s8), [0, 1, 2, 5], ⟨i8, by dsimp only; omega, by first | exact Nat.zero_le _ | (dsimp only; omega), by simp only [List.length_append, List.length_cons, List.length_nil]; omega, hx⟩, by dsimp only; omega, ?_⟩
     dsimp only
     rw [if_neg hF, if_neg (by simp)]
     refine ⟨by simp, by simp only [EV, EB, EL, ER, ET, and_self, true_and, and_true, Nat.reduceEqDiff, reduceCtorEq, reduceIte, PRN, MRN, DRN, DS, MS, PGS, PGR, des_ren, exVs_append, List.map_append, List.map_cons, List.map_nil, List.length_append, List.length_cons, List.length_nil, List.nil_append, fnV, fnC, desV_nil], by simp only [EV, EB, EL, ER, ET, and_self, true_and, and_true, Nat.reduceEqDiff, reduceCtorEq, reduceIte, PRN, MRN, DRN, DS, MS, PGS, PGR, des_ren, exVs_append, List.map_append, List.map_cons, List.map_nil, List.length_append, List.length_cons, List.length_nil, List.nil_append, fnV, fnC, desV_nil], by simp only [EV, EB, EL, ER, ET, and_self, true_and, and_true, Nat.reduceEqDiff, reduceCtorEq, reduceIte, PRN, MRN, DRN, DS, MS, PGS, PGR, des_ren, exVs_append, List.map_append, List.map_cons, List.map_nil, List.length_append, List.length_cons, List.length_nil, List.nil_append, fnV, fnC, desV_nil, pick], rfl⟩
    obtain rfl : b3 = false := by simpa using h
    dsimp only at hx
    simp only [bnd_ok] at hx
    refine WC.skip ?_
    try simp only [EQ, reduceIte, Nat.reduceEqDiff]
    refine hK4 _ ?_; try clear hK4 K4
    refine WC.frzC 1 2 1 rfl rfl rfl (by decide) (by simp) ?_
    simp only [List.set_cons_zero, List.set_cons_succ]
    refine WC.frzC 1 3 2 rfl rfl rfl (by decide) (by simp) ?_
    simp only [List.set_cons_zero, List.set_cons_succ]
    refine WC.exit ?_
    simp only [EQ, reduceIte, Nat.reduceEqDiff]
    try simp only [EQ, reduceIte, Nat.reduceEqDiff]
    refine ⟨((F, Q), s3), [0, 1], ⟨i3, hx⟩, ?_⟩
    dsimp only
    rw [fnsV_ne hF, fnsV_ne hQ]
    have ht : List.take F.length (List.drop 0 (List.map fnV F)) = List.map fnV F := by rw [List.drop_zero, List.take_of_length_le (by simp)]
    rw [ht]
    have ht2 : List.take Q.length (List.drop 0 (List.map fnV Q)) = List.map fnV Q := by rw [List.drop_zero, List.take_of_length_le (by simp)]
    rw [ht2]
    refine ⟨by simp, by simp only [EV, EB, EL, ER, ET, and_self, true_and, and_true, Nat.reduceEqDiff, reduceCtorEq, reduceIte, PRN, MRN, DRN, DS, MS, PGS, PGR, des_ren], by simp only [EV, EB, EL, ER, ET, and_self, true_and, and_true, Nat.reduceEqDiff, reduceCtorEq, reduceIte, PRN, MRN, DRN, DS, MS, PGS, PGR, des_ren], by simp only [EV, EB, EL, ER, ET, and_self, true_and, and_true, Nat.reduceEqDiff, reduceCtorEq, reduceIte, PRN, MRN, DRN, DS, MS, PGS, PGR, des_ren, pick], rfl⟩
  ·rintro ⟨⟨F, Q⟩, s2⟩ ⟨i2, hx2⟩
   dsimp only at i2 hx2 ⊢
   clear hx i1
   rename x = _ => hx
   unfold progK2 at hx
   refine WC.rs fun K hK => ?_
   simp only [↓EJ, EX, FA, simprocAttr]
   refine CallX.mk (CallW.par (enc := blV) (block_sem ts s2 i2) rfl rfl (by simp only [CL, PCL, TCL, DCL, FCL, RCL, MCL, BCL, GCL, and_self]) (fun v => by simp only [CL, PCL, TCL, DCL, FCL, RCL, MCL, BCL, GCL, and_self]) (fun b s3 h3 => ?_) (fun e s' he => by intros; exact PSem.fails (fn := Tryd.f10) (s := s') (hx.trans (by simp only [he, bnd_error])) rfl rfl))
   simp only [h3, bnd_ok] at hx
   have g3 := block_up i2 h3
   have i3 := g3.1
   simp only [↓EJ, EX, FA, simprocAttr, blV, MS, desV_sc]
   refine hK _ ?_; try clear hK K
   refine WC.trim [0, 2, 3, 4, 5, 7, 18, 29, 38, 67, 106] ?_
   simp only [ET, simprocAttr]
   refine WC.sK fun K8 hK8 => ?_
   refine WC.rs fun K hK => ?_
   simp only [↓EJ, EX, FA, simprocAttr]
   refine CallX.mk (CallW.one (r := .o 0) (now_sem ts s3 i3) rfl (pblk_closed ts s3) (pblk_closed ts s3) (tkv_closed1 _) (by simp [renL, ren, fCall]) ?_)
   simp only [↓EJ, EX, FA, simprocAttr, tkv_cells, tkv, tk]
   refine hK _ ?_; try clear hK K
   refine WC.trim [0, 2, 3, 4, 5, 7, 18, 29, 38, 67, 106] ?_
   simp only [ET, simprocAttr]
   refine WC.cond (c := .tmp 106) rfl (fun h => ?_) (fun h => ?_)
   ·have hk : (cur ts s3).1 ≠ 5 := by simp at h; omega
    rw [if_pos hk] at hx
    refine WC.r1 ?_
    simp only [↓EJ, EX, FA, simprocAttr]
    refine CallX.mk (CallW.par (α := Unit) (enc := fun _ => .tuple []) (fail_par ts s3 i3 4) rfl rfl (by simp only [CL, and_self]) (fun _ => by simp only [CL]) (fun v s' hv => nomatch hv) (fun e s' he => ?_))
    cases he
    exact PSem.fails (fn := Tryd.f10) (s := s') hx rfl rfl
   ·have hk : (cur ts s3).1 = 5 := by simp at h; omega
    rw [if_neg (by omega)] at hx
    refine WC.skip ?_
    try simp only [EQ, reduceIte, Nat.reduceEqDiff]
    refine hK8 _ ?_; try clear hK8 K8
    refine WC.rs fun K hK => ?_
    simp only [↓EJ, EX, FA, simprocAttr, MS]
    refine hK _ ?_; try clear hK K
    refine WC.trim [0, 2, 3, 4, 5, 7, 18, 29, 38, 67, 106] ?_
    simp only [ET, simprocAttr]
    refine WC.ret ?_
    simp only [↓EJ, EX, FA, simprocAttr, EQ, FnQ, Tryd.results10, wResL, tup, List.reverse_cons, List.reverse_nil, true_and, MS]
    exact PSem.done (fn := Tryd.f10) (s := s3) (v := ⟨ps, F, Q, b.vars, b.body, b.result⟩) hx rfl (of_eq_true (by simp only [CL, PCL, TCL, DCL, FCL, RCL, MCL, BCL, GCL, and_self])) rfl
end Go.LexSem
-- CLOSERS: PCL, TCL, DCL, FCL, RCL, MCL, BCL, GCL
set_option maxHeartbeats 4000000
set_option maxRecDepth 8000
namespace Go.LexSem
open Go Go.V Go.Proofs Go.Num

/-! ### What the lexer hands over -/
def okT (t : Tok) : Prop := t.1 = 2 → t.2.1 ≠ [] ∧ t.2.1.length ≤ 60 ∧ ∀ c ∈ t.2.1, digitI (c.toNat : Int) = true
theorem runTo_all (p : Int → Bool) (s : List UInt8) : ∀ f t j, t ≤ j → j < runTo p s f t → p (gb s j) = true
 | 0, t, j, h1, h2 => by simp only [runTo] at h2; omega
 | f + 1, t, j, h1, h2 => by
   unfold runTo at h2
   split at h2
   ·rename_i hc
    rcases Nat.lt_or_ge t j with h | h
    ·exact runTo_all p s f (t + 1) j h h2
    ·rw [show j = t by omega]; exact hc.2
   ·omega
theorem runAt_all {p : Int → Bool} {s : List UInt8} {a : Nat} (ha : a ≤ s.length) : ∀ c ∈ runAt p s a, p (c.toNat : Int) = true := fun c hc => by
 obtain ⟨j, hj, rfl⟩ := List.getElem_of_mem hc
 have hl := runAt_length (p := p) ha
 have hle := runTo_le p s (s.length - a) a ha
 have h := runTo_all p s (s.length - a) a (a + j) (Nat.le_add_right _ _) (by omega)
 have hlt : a + j < s.length := by omega
 rw [gb_at hlt] at h
 have e : some ((runAt p s a)[j]) = some (s[a + j]) := by
  rw [← List.getElem?_eq_getElem hj, ← List.getElem?_eq_getElem hlt]
  unfold runAt
  rw [List.getElem?_take, if_pos (by omega), List.getElem?_drop]
 rw [Option.some.inj e]; exact h
theorem tokenF_ok {s : List UInt8} {a l c : Nat} (ha : a < s.length) (h0 : (tokenF s a).2.2 = 0) : okT ((tokenF s a).1, (tokenF s a).2.1, l, c) := fun hk => by
 have hlen := tokenF_len s a ha h0
 unfold tokenF at hk h0 hlen ⊢
 dsimp only at hk ⊢
 split at hk
 ·split at hk
  ·cases hk
  ·split at hk <;> cases hk
 ·rename_i h1
  simp only [h1, if_false, Bool.false_eq_true] at hk h0 hlen ⊢
  split at hk
  ·rename_i h2
   simp only [h2, if_true] at h0 hlen ⊢
   split at hk
   ·cases hk
   ·rename_i h3
    rw [if_neg h3] at h0 hlen
    simp only [if_neg h3]
    exact ⟨fun e => by rw [e] at hlen; simp at hlen, by omega, runAt_all (Nat.le_of_lt ha)⟩
  ·split at hk <;> cases hk
structure LOk (s : List UInt8) (ts : List Tok) : Prop where
 ne : 0 < ts.length
 le : ts.length ≤ s.length + 1
 fin : (ts.getD (ts.length - 1) (5, [], 1, 1)).1 = 5
 num : ∀ t ∈ ts, okT t
theorem lexN_ok (s : List UInt8) : ∀ k a l c acc, s.length - a < k → acc.length ≤ a → acc.length ≤ s.length → (∀ t ∈ acc, okT t) → (lexN k s a l c acc).2.2 = 0 → LOk s (lexN k s a l c acc).1
 | 0, _, _, _, _, h, _, _, _, _ => by omega
 | k + 1, a, l, c, acc, hk, hl, hl2, hacc, h0 => by
   unfold lexN at h0 ⊢
   by_cases ha : a < s.length
   ·simp only [if_pos ha] at h0 ⊢
    by_cases hb : blankI (gb s a) = true
    ·simp only [if_pos hb] at h0 ⊢
     exact lexN_ok s k _ _ _ _ (by omega) (by omega) hl2 hacc h0
    ·simp only [if_neg hb] at h0 ⊢
     by_cases h35 : gb s a = 35
     ·simp only [if_pos h35] at h0 ⊢
      exact lexN_ok s k _ _ _ _ (by omega) (by omega) hl2 hacc h0
     ·simp only [if_neg h35] at h0 ⊢
      by_cases ht : (tokenF s a).2.2 = 0
      ·simp only [if_pos ht] at h0 ⊢
       refine lexN_ok s k _ _ _ _ (by omega) (by simp only [List.length_append, List.length_cons, List.length_nil]; omega) (by simp only [List.length_append, List.length_cons, List.length_nil]; omega) (fun t hm => ?_) h0
       rcases List.mem_append.1 hm with hm | hm
       ·exact hacc t hm
       ·simp only [List.mem_singleton] at hm
        subst hm
        exact tokenF_ok ha ht
      ·simp only [if_neg ht] at h0 ⊢
       exact absurd h0 ht
   ·simp only [if_neg ha] at h0 ⊢
    refine ⟨by simp, by simp; omega, by simp, fun t hm => ?_⟩
    rcases List.mem_append.1 hm with hm | hm
    ·exact hacc t hm
    ·simp only [List.mem_singleton] at hm
     subst hm
     exact fun h => by cases h
theorem toks_ok {s : List UInt8} (h0 : (tokensF s).2.2 = 0) : PInv (tokensF s).1 ⟨0, 0⟩ ∧ (tokensF s).1 ≠ [] := by
 unfold tokensF at h0 ⊢
 split at h0
 ·cases h0
 ·rename_i hs
  rw [if_neg hs]
  rw [lexF_eq s (s.length + 1) 0 1 1 [] (by omega)] at h0 ⊢
  obtain ⟨h1, h2, h3, h4⟩ := lexN_ok s (s.length + 1) 0 1 1 [] (by omega) (Nat.le_refl _) (Nat.zero_le _) (fun t ht => by cases ht) h0
  refine ⟨⟨h1, by omega, by simp, by simp, h3, h4⟩, fun e => ?_⟩
  rw [e] at h1; simp at h1
/-! ### Parse -/
def zpg : Pg := ⟨[], [], [], [], [], []⟩
def parseF (s : List UInt8) : Except Er Pg :=
 if (tokensF s).2.2 ≠ 0 then .error ((tokensF s).2.1, (tokensF s).2.2) else match progF (tokensF s).1 ⟨0, 0⟩ with
  | .error e => .error e
  | .ok (p, _) => .ok p
def posV (l c : Nat) : PVal := .agg [.int .i64 l, .int .i64 c]
def resV : Except Er Pg → PVal
 | .ok p => .tuple [pgV p, posV 0 0, .int .i64 0]
 | .error e => .tuple [pgV zpg, posV e.1.1 e.1.2, .int .i64 (e.2 : Nat)]
theorem resV_closed (x : Except Er Pg) : Closed (resV x) := by
 cases x
 ·exact of_eq_true (by simp only [resV, posV, CL, GCL, and_self])
 ·exact of_eq_true (by simp only [resV, posV, CL, GCL, and_self])
theorem EAs : (∀ (C : Ctx) x xt t σ K KP u, wOpX C (.typeAssert x xt t true) σ K KP u = wAssert C t (val σ.e x) true fun q => K q σ) := fun _ _ _ _ _ _ _ _ => rfl
def pgB (p : PVal) : Blk := .row [p] 6 28
def psB (p : PVal) : Blk := .row [p] 2 30
def enB (n : Nat) : Blk := .row [.int .i64 n] 1 31
theorem pgB_ren {p : PVal} (h : Closed p) (f : Ref → Ref) : renB f (pgB p) = pgB p := by simp only [pgB, renB, renL, h f]
theorem psB_ren {p : PVal} (h : Closed p) (f : Ref → Ref) : renB f (psB p) = psB p := by simp only [psB, renB, renL, h f]
theorem enB_ren (k : Nat) (f : Ref → Ref) : renB f (enB k) = enB k := by simp only [enB, renB, renL, ren]
theorem parse1_none (p q : PVal) (k : Nat) (hp : Closed p) (hq : Closed q) : DSem C 9 [.ptr (.o 0) 0 0, .ptr (.o 1) 0 0, .ptr (.o 2) 0 0] [pgB p, psB q, enB k] none (fun st => st = [pgB p, psB q, enB k]) := by
 refine DSem.enterR (C := C) (n := 17) Tryd.func9 rfl rfl ok_9 (by simp) (by decide) ?_
 simp only [argEnv, Option.getD_none, Option.getD_some, errV]
 refine WC.b1 ?_
 refine WC.rs fun K hK => ?_
 simp only [↓EJ, EX, FA, simprocAttr]
 refine ⟨rfl, ?_⟩
 refine hK _ ?_; try clear hK K
 refine WC.trim [0, 1, 2, 4, 5, 6, 8, 10, 11] ?_
 simp only [ET, simprocAttr]
 refine WC.cond (c := .tmp 8) rfl (fun h => ?_) (fun h => ?_)
 rotate_left
 ·simp at h
 refine WC.r1 ?_
 simp only [↓EJ, EX, FA, simprocAttr]
 simp only [EQ, FnQ, reduceIte, Nat.reduceEqDiff, Tryd.results9, wResL, tup, List.reverse_cons, List.reverse_nil, true_and]
 refine EndsIn.plain (by simp only [CL]) (fun b hb => ?_) ⟨⟨_, rfl⟩, rfl⟩
 simp only [List.mem_cons, List.mem_singleton, List.not_mem_nil, or_false] at hb
 rcases hb with rfl | rfl | rfl <;> intro f <;> simp only [pgB, psB, enB, renB, renL, ren, hp f, hq f]
theorem parse1_some (a b : Int) (k : Nat) (e : Er) : DSem C 9 [.ptr (.o 0) 0 0, .ptr (.o 1) 0 0, .ptr (.o 2) 0 0] [pgB (.agg [.nils, .nils, .nils, .nils, .nils, .str []]), psB (.agg [.int .i64 a, .int .i64 b]), enB k] (some (errV e))
 (fun st => st = [pgB (pgV zpg), psB (posV e.1.1 e.1.2), enB e.2]) := by
 refine DSem.enterR (C := C) (n := 17) Tryd.func9 rfl rfl ok_9 (by simp) (by decide) ?_
 simp only [argEnv, Option.getD_none, Option.getD_some, errV]
 refine WC.b1 ?_
 refine WC.rs fun K hK => ?_
 simp only [↓EJ, EX, FA, simprocAttr]
 refine hK _ ?_; try clear hK K
 refine WC.trim [0, 1, 2, 4, 5, 6, 8, 10, 11] ?_
 simp only [ET, simprocAttr]
 refine WC.cond (c := .tmp 8) rfl (fun h => ?_) (fun h => ?_)
 ·simp at h
 have hcc : ccq C.P 41 = true := by kernel_rfl
 refine WC.rs fun K hK => ?_
 simp only [↓EJ, EX, FA, simprocAttr, EAs, assert_eq hcc]
 refine hK _ ?_; try clear hK K
 refine WC.trim [0, 1, 2, 4, 5, 6, 8, 10, 11] ?_
 simp only [ET, simprocAttr]
 refine WC.cond (c := .tmp 10) rfl (fun h => ?_) (fun h => ?_)
 rotate_left
 ·simp at h
 refine WC.rs fun K hK => ?_
 simp only [↓EJ, EX, FA, simprocAttr]
 refine hK _ ?_; try clear hK K
 refine WC.trim [0, 1, 2, 4, 5, 6, 8, 10, 11] ?_
 simp only [ET, simprocAttr]
 refine WC.d1 [⟨0, 0, false, []⟩, ⟨1, 0, true, []⟩, ⟨2, 0, true, []⟩, ⟨3, 0, true, []⟩, ⟨4, 0, true, []⟩, ⟨5, 1, false, [1, 2, 3, 4]⟩, ⟨6, 1, false, [3, 4]⟩, ⟨7, 1, false, []⟩] [0, 0, 2, 0, 8, 1, 39, 127] mo (by kernel_rfl) (by simp only [EPl, List.getElem?_cons_zero, List.getElem?_cons_succ]; rfl) ?_
 simp only [↓EJ, EX, FA, simprocAttr, pgB, psB, enB]
 try simp only [EQ, reduceIte, Nat.reduceEqDiff, FnQ, Tryd.results9, wResL, tup, List.reverse_cons, List.reverse_nil, true_and]
 refine EndsIn.plain (by simp only [CL]) (fun b hb => ?_) ⟨⟨_, rfl⟩, rfl⟩
 simp only [List.mem_cons, List.mem_singleton, List.not_mem_nil, or_false] at hb
 rcases hb with rfl | rfl | rfl <;> intro f <;> simp only [renB, renL, ren]
theorem parse_sem (s : List UInt8) : FSem C 5 [.str s] [] fun r st => r = .ret (resV (parseF s)) ∧ st = [] := by
 obtain ⟨x, hx⟩ : ∃ x, x = parseF s := ⟨_, rfl⟩
 rw [← hx]
 unfold parseF at hx
 have ht := toks_sem s
 have hok := toks_ok (s := s)
 obtain ⟨⟨ts, ⟨l, c⟩, cd⟩, hts⟩ : ∃ r, tokensF s = r := ⟨_, rfl⟩
 rw [hts] at hx ht hok
 dsimp only at hx ht hok
 refine FSem.enterD (C := C) (n := 25) Tryd.func5 rfl rfl ok_5 (by simp) ?_
 simp only [argEnv]
 refine WC.rs fun K hK => ?_
 simp only [↓EJ, EX, FA, simprocAttr]
 refine hK _ ?_; try clear hK K
 refine WC.trim [0, 2, 3, 4, 5, 6, 14] ?_
 simp only [ET, simprocAttr]
 refine WC.rs fun K hK => ?_
 simp only [↓EJ, EX, FA, simprocAttr]
 refine CallX.mk (CallW.pure ht (by simp only [CL, and_self]) (by cases ts <;> simp only [tokv, pl, CL, eq_true (tkv_closed _), and_self]) ?_)
 simp only [↓EJ, EX, FA, simprocAttr, pl]
 refine hK _ ?_; try clear hK K
 refine WC.trim [0, 2, 3, 4, 5, 6, 14] ?_
 simp only [ET, simprocAttr]
 refine WC.sK fun K1 hK1 => ?_
 refine WC.rs fun K hK => ?_
 simp only [↓EJ, EX, FA, simprocAttr]
 refine hK _ ?_; try clear hK K
 refine WC.trim [0, 2, 3, 4, 5, 6, 14] ?_
 simp only [ET, simprocAttr]
 refine WC.cond (c := .tmp 14) rfl (fun h => ?_) (fun h => ?_)
 ·have hc : cd ≠ 0 := by simp at h; omega
  rw [if_pos hc] at hx
  refine WC.ds [⟨0, 0, false, []⟩, ⟨1, 0, true, []⟩, ⟨2, 0, true, []⟩, ⟨3, 1, false, [1, 2]⟩, ⟨4, 1, false, [2]⟩, ⟨5, 1, false, []⟩] [0, 0, 0, 1, 11, 31] mo (by kernel_rfl) (by simp only [EPl, List.getElem?_cons_zero, List.getElem?_cons_succ]; rfl) fun K hK => ?_
  simp only [↓EJ, EX, FA, simprocAttr]
  refine hK _ ?_; try clear hK K
  refine WC.trim [0, 2, 3, 4, 5, 6, 14] ?_
  simp only [ET, simprocAttr]
  refine WC.ret ?_
  simp only [↓EJ, EX, FA, simprocAttr, EQ, FnQD, Tryd.results5, wResL, tup, List.reverse_cons, List.reverse_nil, true_and]
  refine EndsIn.plain (by simp only [CL, and_self]) (fun b hb => by simp at hb) ⟨?_, rfl⟩
  rw [hx]; rfl
 ·have hc : cd = 0 := by simp at h; omega
  subst hc
  rw [if_neg (by simp)] at hx
  obtain ⟨hI, hne⟩ := hok rfl
  have htk : tokv ts = .slc (ts.map tkv) := by
   cases ts with
   | nil => exact absurd rfl hne
   | cons a b => rfl
  refine WC.skip ?_
  try simp only [EQ, reduceIte, Nat.reduceEqDiff]
  refine hK1 _ ?_; try clear hK1 K1
  refine WC.dfr (by decide) ?_
  simp only [↓EJ, EX, FA, simprocAttr, List.map_cons, List.map_nil]
  rw [htk]
  refine WC.rs fun K hK => ?_
  simp only [↓EJ, EX, FA, simprocAttr]
  refine hK _ ?_; try clear hK K
  refine WC.trim [0, 2, 3, 4, 5, 6, 14] ?_
  simp only [ET, simprocAttr]
  rw [show Blk.row [.agg [.slc (ts.map tkv), .int .i64 0, .int .i64 0]] 3 44 = pblk ts ⟨0, 0⟩ from rfl]
  refine WC.rs fun K hK => ?_
  simp only [↓EJ, EX, FA, simprocAttr]
  refine CallX.mk (CallW.par (enc := pgV) (r := .l 3) (prog_sem ts ⟨0, 0⟩ hI) rfl rfl (by simp only [CL, and_self]) (fun v => by simp only [CL, GCL, and_self]) (fun p s1 hp => ?_) (fun e s' he => ?_))
  ·rw [hp] at hx
   simp only [↓EJ, EX, FA, simprocAttr, pgV, pgC]
   refine hK _ ?_; try clear hK K
   refine WC.trim [0, 2, 3, 4, 5, 6, 14] ?_
   simp only [ET, simprocAttr]
   refine WC.ret ?_
   simp only [↓EJ, EX, FA, simprocAttr, EQ, FnQD, Tryd.results5, wResL, tup, List.reverse_cons, List.reverse_nil, true_and]
   have c1 : Closed (pgV p) := of_eq_true (GCL.2.2 p)
   have c2 : Closed (posV 0 0) := of_eq_true (by simp only [posV, CL, and_self])
   refine DW.of (parse1_none (pgV p) (posV 0 0) 0 c1 c2) [.l 0, .l 1, .l 2] (by simp) (fun p h => by cases h) (by simp [renL, ren, fCall]) rfl (fun j r k hr hk => ?_) (fun st' hst => ?_)
   ·rcases j with _ | _ | _ | j <;> simp at hr hk <;> subst hr hk <;> simp only [pgB_ren c1, psB_ren c2, enB_ren] <;> rfl
   ·subst hst
    simp only [List.map_cons, List.map_nil, pgB_ren c1, psB_ren c2, enB_ren, setAll]
    simp only [↓EJ, EX, FA, simprocAttr, pgB, psB, enB, pgV, pgC, posV]
    refine EndsIn.plain ?_ (fun b hb => by simp at hb) ⟨?_, rfl⟩
    ·simp only [CL, GCL, BCL, MCL, and_self]
    ·rw [hx]; rfl
  ·rw [he] at hx
   have c2 : Closed (PVal.agg [.int .i64 l, .int .i64 c]) := of_eq_true (by simp only [CL, and_self])
   have c1 : Closed (PVal.agg [.nils, .nils, .nils, .nils, .nils, .str []]) := of_eq_true (by simp only [CL, and_self])
   have c3 : Closed (pgV zpg) := of_eq_true (GCL.2.2 zpg)
   have c4 : Closed (posV e.1.1 e.1.2) := of_eq_true (by simp only [posV, CL, and_self])
   refine DW.of (parse1_some (l : Int) (c : Int) 0 e) [.l 0, .l 1, .l 2] (by simp) (fun p h => by cases h; exact errV_closed e) (by simp [renL, ren, fCall]) rfl (fun j r k hr hk => ?_) (fun st' hst => ?_)
   ·rcases j with _ | _ | _ | j <;> simp at hr hk <;> subst hr hk <;> simp only [pgB_ren c1, psB_ren c2, enB_ren] <;> rfl
   ·subst hst
    simp only [List.map_cons, List.map_nil, pgB_ren c3, psB_ren c4, enB_ren, setAll]
    simp only [↓EJ, EX, FA, simprocAttr, pgB, psB, enB, pgV, pgC, posV, Tryd.results5, wResL, tup, List.reverse_cons, List.reverse_nil, true_and]
    refine EndsIn.plain ?_ (fun b hb => by simp at hb) ⟨?_, rfl⟩
    ·simp only [CL, GCL, BCL, MCL, and_self]
    ·rw [hx]; rfl
theorem endsPure' {e : Env} {l : List Blk} {d : List PDef} {p q : PVal} (hq : Closed q = True) (h : p = q) : EndsIn ⟨e, [], l, d⟩ p fun p st => PRes.ret p = PRes.ret q ∧ st = [] := endsPure (of_eq_true hq) h
end Go.LexSem
