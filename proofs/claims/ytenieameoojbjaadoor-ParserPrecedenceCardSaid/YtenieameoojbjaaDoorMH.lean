/-
 Texts joined: NumI NumJ NumK.
-/
import Derived.Test.YtenieameoojbjaaDoorMG
import Derived.Test.YtenieameoojbjaaDoorMD
set_option linter.unusedVariables false
set_option linter.unusedSimpArgs false
set_option linter.loopingSimpArgs false
set_option maxHeartbeats 4000000
set_option maxRecDepth 8000
namespace Go.LexSem
open Go Go.V Go.Proofs Go.Num

/-- A whole number of 64 bits without a sign. -/
def u64v (n : Nat) : PVal := .int .u64 n
theorem u64v_closed (n : Nat) : Closed (u64v n) = True := eq_true (fun _ => rfl)

theorem shrN {f k : Nat} (hk : k ≤ 31) : ((f : Int)).fdiv (2 ^ min k IntKind.u64.bits) = ((f / 2 ^ k : Nat) : Int) := by
 rw [show min k IntKind.u64.bits = k by simp [IntKind.bits]; omega, Int.fdiv_eq_ediv_of_nonneg _ (Int.pow_nonneg (by decide))]
 simp
/-- What a shift hands back. -/
def ShiftR (l : List Nat) (k : Nat) (p : PVal) (b : Blk) : Prop := ∃ o : List Nat, (lim o ∧ o.length = l.length + 1 ∧ nval o = nval l * 2 ^ k ∧ o.getD l.length 0 < 2 ^ k) ∧ p = .ref (.o 0) 0 (l.length + 1) ∧ b = .row (o.map lb) 1 117
theorem shift_sem' (l : List Nat) (k : Nat) (hl : lim l) (hn : l.length ≤ 100000) (hk : k ≤ 31) :
 FSem C 89 [lbs l, .int .u64 k] [] fun q st => ∃ p b, ShiftR l k p b ∧ q = .ret p ∧ st = [b] := by
 have h := shift_sem l k hl hn hk
 refine ⟨h.1, fun V vs hM hv => (h.2 V vs hM hv).mono fun e w' ⟨V', st', r, h1, h2, h3, h4, h5, o, h6, h7, h8⟩ => ⟨V', st', r, h1, h2, h3, h4, h5, _, _, ⟨o, h6, rfl, rfl⟩, h7, h8⟩⟩
/-- What a trimmed block hands back. -/
theorem trimOwn_sem' (l : List Nat) (hl : lim l) (hn : l.length ≤ 1000000) : FSem C 60 [.ref (.o 0) 0 l.length] [.row (l.map lb) 1 117]
 fun r st => ∃ p, (∃ k, k ≤ l.length ∧ l.take k = toL (nval l) ∧ p = .ref (.o 0) 0 k) ∧ r = .ret p ∧ st = [.row (l.map lb) 1 117] := by
 have h := trimOwn_sem l hl hn
 refine ⟨h.1, fun V vs hM hv => (h.2 V vs hM hv).mono fun e w' ⟨V', st', r, h1, h2, h3, h4, h5, k, h6, h7, h8, h9⟩ => ⟨V', st', r, h1, h2, h3, h4, h5, _, ⟨k, h6, h7, rfl⟩, h8, h9⟩⟩
theorem long_sem (x y : Nat) (hyx : y ≤ x) (h2 : 2 ≤ (toL y).length) (hn : (toL x).length ≤ 10000) :
 FSem C 86 [lbs (toL x), lbs (toL y)] [] fun r st => r = .ret (.tuple [lbs (toL (x / y)), lbs (toL (x % y))]) ∧ st = [] := by
 have hy0 : y ≠ 0 := fun h => by subst h; rw [toL_zero] at h2; simp at h2
 have hab : (toL y).length ≤ (toL x).length := len_mono hyx
 have htop0 := getLast_toL hy0
 have htopB := lim_get (lim_toL y) ((toL y).length - 1)
 have hgt : gi ((toL y).map lb) ((toL y).length - 1) = lb ((toL y).getD ((toL y).length - 1) 0) := lb_gi (by omega)
 have e1 : (((toL y).length : Int) - 1).toNat = (toL y).length - 1 := by omega
 obtain ⟨k1, k2, k3, _⟩ := lz_spec htop0 htopB
 have hlz := lz_sem _ htop0 htopB
 obtain ⟨nl, nt⟩ := norm_top k1 hy0 k2 k3
 generalize (toL y).getD ((toL y).length - 1) 0 = tp at *
 generalize lz tp = k at *
 have wk : IntKind.wrap .u64 (k : Int) = (k : Int) := wrapN64 (by omega)
 refine FSem.enter' (C := C) (n := 251) Tryd.func86 rfl rfl ok_86 (by simp) ?_
 simp only [argEnv]
 refine WC.rs fun K hK => ?_
 simp only [↓EJ, EX, FA, simprocAttr]
 refine hK _ ?_; try clear hK K
 refine WC.trim [0, 1, 4, 5, 6, 7, 8, 9, 10, 11, 12, 13, 14, 15, 16, 17, 18, 19, 20, 21, 22, 23, 24, 63, 108, 116, 117, 118, 119, 120, 174, 177, 178, 179, 180, 223, 224, 225] ?_
 simp only [ET, simprocAttr]
 refine WC.rs fun K hK => ?_
 simp (maxSteps := 1000000) (disch := omega) only [↓EJ, EX, FA, simprocAttr, w64, wu64, lbs, List.length_map, e1, hgt, lb_cells]
 repeat refine And.intro (by omega) ?_
 refine CallX.mk (CallW.pure hlz (by simp only [CL, lb_closed, and_self]) (by simp only [CL]) ?_)
 simp only [↓EJ, EX, FA, simprocAttr, wk]
 refine hK _ ?_; try clear hK K
 refine WC.trim [0, 1, 4, 5, 6, 7, 8, 9, 10, 11, 12, 13, 14, 15, 16, 17, 18, 19, 20, 21, 22, 23, 24, 63, 108, 116, 117, 118, 119, 120, 174, 177, 178, 179, 180, 223, 224, 225] ?_
 simp only [ET, simprocAttr]
 refine WC.rs fun K hK => ?_
 simp only [↓EJ, EX, FA, simprocAttr]
 refine CallX.mk (CallW.newEx (shift_sem' (toL x) k (lim_toL x) (by omega) k1) (by simp only [CL, lb_closedL, and_self]) ?_)
 rintro _ _ ⟨u, ⟨u1, u2, u3, u4⟩, rfl, rfl⟩
 refine ⟨fun f => by simp only [renB, lb_closedL _ f], ?_⟩
 simp only [↓EJ, EX, FA, simprocAttr, ren, gCall, List.length_nil, List.getD_cons_zero]
 refine CallX.mk (CallW.newEx (shift_sem' (toL y) k (lim_toL y) (by omega) k1) (by simp only [CL, lb_closedL, and_self]) ?_)
 rintro _ _ ⟨o, ⟨o1, o2, o3, o4⟩, rfl, rfl⟩
 refine ⟨fun f => by simp only [renB, lb_closedL _ f], ?_⟩
 simp only [↓EJ, EX, FA, simprocAttr, ren, gCall, List.length_cons, List.length_nil, List.getD_cons_zero]
 have htr := trimOwn_sem' o o1 (by omega)
 rw [o2, o3, val_toL] at htr
 refine CallX.mk (CallW.ref1 (r := .l 1) (args' := [.ref (.o 0) 0 ((toL y).length + 1)]) htr rfl (fun f => by simp only [renB, lb_closedL _ f]) (by simp [renL, ren, fCall]) ?_)
 rintro _ ⟨kk, kk1, kk2, rfl⟩
 simp only [↓EJ, EX, FA, simprocAttr, ren, gCall, List.length_cons, List.length_nil, List.getD_cons_zero]
 refine hK _ ?_; try clear hK K
 refine WC.trim [0, 1, 4, 5, 6, 7, 8, 9, 10, 11, 12, 13, 14, 15, 16, 17, 18, 19, 20, 21, 22, 23, 24, 63, 108, 116, 117, 118, 119, 120, 174, 177, 178, 179, 180, 223, 224, 225] ?_
 simp only [ET, simprocAttr]
 refine WC.frz 8 1 rfl rfl (by simp; omega) ?_
 rw [val_toL] at u3
 have e5 : ((o.map lb).drop 0).take kk = (toL (y * 2 ^ k)).map lb := by rw [List.drop_zero, ← List.map_take, kk2]
 rw [e5]
 have hv := lim_toL (y * 2 ^ k)
 have hvv := val_toL (y * 2 ^ k)
 have hxn : y * 2 ^ k ≤ x * 2 ^ k := Nat.mul_le_mul_right _ hyx
 obtain ⟨d1, d2⟩ := div_shift x y k
 have hul : nval (u.drop (u.length - (toL y).length)) < nval (toL (y * 2 ^ k)) := by
  refine top_lt (n := (toL y).length) u1 (by omega) nl (by omega) ?_
  rw [show u.length - (toL y).length + (toL y).length - 1 = (toL x).length by omega]
  exact Nat.lt_of_lt_of_le u4 (Nat.le_trans (pow_le31 k1) nt)
 generalize toL (y * 2 ^ k) = v at *
 clear hgt htr e5 kk2 o4 o3 o2 o1 hlz htop0 htopB k2 k3
 generalize hla : (toL x).length = la at *
 generalize hnb : (toL y).length = n at *
 clear hnb hla kk1
 refine WC.rs fun K hK => ?_
 simp only [↓EJ, EX, FA, simprocAttr, List.length_map, nl]
 refine hK _ ?_; try clear hK K
 refine WC.trim [0, 1, 4, 5, 6, 7, 8, 9, 10, 11, 12, 13, 14, 15, 16, 17, 18, 19, 20, 21, 22, 23, 24, 63, 108, 116, 117, 118, 119, 120, 174, 177, 178, 179, 180, 223, 224, 225] ?_
 simp only [ET, simprocAttr]
 have t1 : gi (v.map lb) (n - 1) = lb (v.getD (n - 1) 0) := lb_gi (by omega)
 have t2 : gi (v.map lb) (n - 2) = lb (v.getD (n - 2) 0) := lb_gi (by omega)
 have t1B := lim_get hv (n - 1)
 have t2B := lim_get hv (n - 2)
 have f1 : ((n : Int) - 1).toNat = n - 1 := by omega
 have f2 : ((n : Int) - 2).toNat = n - 2 := by omega
 have w1 := wrapN64 (Nat.lt_trans t1B (by decide))
 have w2 := wrapN64 (Nat.lt_trans t2B (by decide))
 refine WC.ds [⟨0, 0, false, []⟩, ⟨1, 0, false, []⟩, ⟨2, 0, false, []⟩, ⟨3, 0, false, []⟩, ⟨4, 0, false, []⟩, ⟨5, 0, false, []⟩, ⟨6, 0, false, []⟩, ⟨7, 0, false, []⟩, ⟨8, 0, false, []⟩, ⟨9, 0, false, []⟩, ⟨10, 0, false, []⟩, ⟨11, 0, false, []⟩, ⟨12, 0, false, []⟩, ⟨13, 0, false, []⟩] [0, 0, 2, 7, 15, 31, 0, 0, 128, 448, 960, 1984, 63, 8191] mo (by kernel_rfl) (by simp only [EPl, List.getElem?_cons_zero, List.getElem?_cons_succ]; rfl) fun K hK => ?_
 simp (maxSteps := 1000000) (disch := omega) only [↓EJ, EX, FA, simprocAttr, w64, wu64, List.length_map, nl, t1, t2, f1, f2, lb, w1, w2]
 repeat refine And.intro (by omega) ?_
 refine hK _ ?_; try clear hK K
 refine WC.trim [0, 1, 4, 5, 6, 7, 8, 9, 10, 11, 12, 13, 14, 15, 16, 17, 18, 19, 20, 21, 22, 23, 24, 63, 108, 116, 117, 118, 119, 120, 174, 177, 178, 179, 180, 223, 224, 225] ?_
 simp only [ET, simprocAttr]
 refine WC.rs fun K hK => ?_
 simp (maxSteps := 1000000) (disch := omega) only [↓EJ, EX, FA, simprocAttr, w64, wu64, List.length_map, u2]
 repeat refine And.intro (by omega) ?_
 refine hK _ ?_; try clear hK K
 refine WC.trim [0, 1, 4, 5, 6, 7, 8, 9, 10, 11, 12, 13, 14, 15, 16, 17, 18, 19, 20, 21, 22, 23, 24, 63, 108, 116, 117, 118, 119, 120, 174, 177, 178, 179, 180, 223, 224, 225] ?_
 simp only [ET, simprocAttr]
 obtain ⟨m, hm⟩ : ∃ m, m = la + 1 - n := ⟨_, rfl⟩
 have em : (((la + 1 : Nat) : Int) - (n : Int)).toNat = m := by omega
 rw [em, rep_lb]
 have hV0 : 0 < nval v := by rw [hvv]; exact Nat.mul_pos (by omega) (Nat.pow_pos (by decide))
 have hVB : nval v < B ^ n := by rw [← nl]; exact nval_lt hv
 rw [u2, ← hm] at hul
 rw [← hvv, ← u3] at d1 d2
 refine WC.sx (X := List Nat × List Nat) (fun g => LongInv g.1 g.2 (nval u) (nval v) n 0 ∧ g.1.length = la + 1 ∧ g.2.length = m ∧ lim g.2) (fun g => ⟨[(9, .int .i64 n), (7, .ref (.l 0) 0 (la + 1)), (6, .int .u64 k), (5, .nils), (4, .ref (.l 2) 0 m)], [], [.row (g.1.map lb) 1 117, .dead, .row (g.2.map lb) 1 117], []⟩) ?_ ?_
 ·refine WC.rs fun K hK => ?_
  simp (maxSteps := 1000000) (disch := omega) only [↓EJ, EX, FA, simprocAttr, w64, wu64]
  repeat refine And.intro (by omega) ?_
  refine hK _ ?_; try clear hK K
  refine WC.trim [0, 1, 4, 5, 6, 7, 8, 9, 10, 11, 12, 13, 14, 15, 16, 17, 18, 19, 20, 21, 22, 23, 24, 63, 108, 116, 117, 118, 119, 120, 174, 177, 178, 179, 180, 223, 224, 225] ?_
  simp only [ET, simprocAttr]
  refine WC.b1 ?_
  refine WC.loop (X := Nat × List Nat × List Nat) (fun z => ⟨[(12, .int .i64 ((z.1 : Int) - 1)), (11, .int .u64 (v.getD (n - 2) 0)), (10, .int .u64 (v.getD (n - 1) 0)), (9, .int .i64 n), (8, .slc (v.map lb)), (7, .ref (.l 0) 0 (la + 1)), (6, .int .u64 k), (5, .nils), (4, .ref (.l 2) 0 m)], [], [.row (z.2.1.map lb) 1 117, .dead, .row (z.2.2.map lb) 1 117], []⟩)
   (fun z => LongInv z.2.1 z.2.2 (nval u) (nval v) n z.1 ∧ z.2.1.length = la + 1 ∧ z.2.2.length = m ∧ lim z.2.2 ∧ z.1 ≤ m) (fun z => z.1) (m, u, List.replicate m 0) [0, 1, 2]
   ⟨?_, u2, by simp, lim_rep _, Nat.le_refl _⟩ ?_ ?_
  ·have := LongInv.start (u := u) (q := List.replicate m 0) (V := nval v) (n := n) u1 (by simp; omega) (by simpa using hul)
   simpa using this
  ·refine ⟨by simp, by simp only [EV, EB, EL, ER, ET, and_self, true_and, and_true, Nat.reduceEqDiff, reduceCtorEq, reduceIte, lb_closedL _ _], by simp only [EV, EB, EL, ER, ET, and_self, true_and, and_true, Nat.reduceEqDiff, reduceCtorEq, reduceIte, lb_closedL _ _], by simp only [EV, EB, EL, ER, ET, and_self, true_and, and_true, Nat.reduceEqDiff, reduceCtorEq, reduceIte, lb_closedL _ _, pick], rfl⟩
  ·rintro ⟨j1, w, q⟩ ⟨h1, h2', h3, h4, h5⟩
   dsimp only at h1 h2' h3 h4 h5 ⊢
   refine WC.sK fun K1 hK1 => ?_
   refine WC.rs fun K hK => ?_
   simp only [↓EJ, EX, FA, simprocAttr]
   refine hK _ ?_; try clear hK K
   refine WC.trim [0, 1, 4, 5, 6, 7, 8, 9, 10, 11, 12, 13, 14, 15, 16, 17, 18, 19, 20, 21, 22, 23, 24, 63, 108, 116, 117, 118, 119, 120, 174, 177, 178, 179, 180, 223, 224, 225] ?_
   simp only [ET, simprocAttr]
   refine WC.cond (c := .tmp 63) rfl (fun h => ?_) (fun h => ?_)
   ·obtain ⟨j, rfl⟩ : ∃ j, j1 = j + 1 := ⟨j1 - 1, by simp at h; omega⟩
    have ej : (((j + 1 : Nat) : Int) - 1) = (j : Int) := by omega
    rw [ej]
    refine WC.skip ?_
    try simp only [EQ, reduceIte, Nat.reduceEqDiff]
    refine hK1 _ ?_; try clear hK1 K1
    refine WC.bs fun K2 hK2 => ?_
    have hj : j + n < w.length := by omega
    have E := long_est h1 hv nl h2 nt hj
    have a1 : (w.map lb)[j + n]? = some (lb (w.getD (j + n) 0)) := lb_get hj
    have a2 : (w.map lb)[j + n - 1]? = some (lb (w.getD (j + n - 1) 0)) := lb_get (by omega)
    have a3 : (w.map lb)[j + n - 2]? = some (lb (w.getD (j + n - 2) 0)) := lb_get (by omega)
    have b1 := lim_get h1.lu (j + n)
    have b2 := lim_get h1.lu (j + n - 1)
    have b3 := lim_get h1.lu (j + n - 2)
    have z1 : ((j : Int) + (n : Int)).toNat = j + n := by omega
    have z2 : ((j : Int) + (n : Int) - 1).toNat = j + n - 1 := by omega
    have z3 : ((j : Int) + (n : Int) - 2).toNat = j + n - 2 := by omega
    have c1 := wrapN64 (Nat.lt_trans b1 (by decide))
    have c2 := wrapN64 (Nat.lt_trans b2 (by decide))
    have c3 := wrapN64 (Nat.lt_trans b3 (by decide))
    have hjn := join32 b1 b2
    have cs : IntKind.wrap .u64 ((w.getD (j + n) 0 : Int) * 4294967296) = (w.getD (j + n) 0 : Int) * 4294967296 := wu64 (by omega) (by rw [Bv] at b1; omega)
    have hwr := w64 (x := (j : Int) + (n : Int)) (by omega) (by omega)
    have hwr1 := w64 (x := (j : Int) + (n : Int) - 1) (by omega) (by omega)
    have hwr2 := w64 (x := (j : Int) + (n : Int) - 2) (by omega) (by omega)
    refine WC.ds [⟨0, 0, false, []⟩, ⟨1, 0, false, []⟩, ⟨2, 0, false, []⟩, ⟨3, 0, false, []⟩, ⟨4, 0, false, []⟩, ⟨5, 0, false, []⟩, ⟨6, 0, false, []⟩, ⟨7, 0, false, []⟩, ⟨8, 0, false, []⟩, ⟨9, 0, false, []⟩, ⟨10, 0, false, []⟩, ⟨11, 0, false, []⟩, ⟨12, 0, false, []⟩, ⟨13, 0, false, []⟩, ⟨14, 0, false, []⟩, ⟨15, 0, false, []⟩, ⟨16, 0, false, []⟩, ⟨17, 0, false, []⟩] [0, 0, 0, 6, 15, 31, 63, 127, 0, 0, 0, 1536, 3584, 7936, 16128, 32512, 65535, 131071] mo (by kernel_rfl) (by simp only [EPl, List.getElem?_cons_zero, List.getElem?_cons_succ]; rfl) fun K hK => ?_
    simp only [↓EJ, EX, FA, simprocAttr, hwr, hwr1, z1, z2, a1, a2, lb, c1, c2, shl64_32, cs, hjn]
    repeat refine And.intro (by omega) ?_
    refine hK _ ?_; try clear hK K
    refine WC.trim [0, 1, 4, 5, 6, 7, 8, 9, 10, 11, 12, 13, 14, 15, 16, 17, 18, 19, 20, 21, 22, 23, 24, 63, 108, 116, 117, 118, 119, 120, 174, 177, 178, 179, 180, 223, 224, 225] ?_
    simp only [ET, simprocAttr]
    have hfB : w.getD (j + n) 0 * B + w.getD (j + n - 1) 0 < B * B := by
     have : w.getD (j + n) 0 * B ≤ (B - 1) * B := Nat.mul_le_mul_right _ (by omega)
     rw [Bv] at *; omega
    have E0 := E.start
    have htp0 : v.getD (n - 1) 0 ≠ 0 := fun h0 => by rw [h0] at nt; exact absurd nt (by decide)
    generalize hU : seg w j (n + 1) = U at *
    generalize hfirst : w.getD (j + n) 0 * B + w.getD (j + n - 1) 0 = first at *
    generalize hu2 : w.getD (j + n - 2) 0 = uu at *
    generalize htp : v.getD (n - 1) 0 = tp' at *
    generalize hsc : v.getD (n - 2) 0 = sc at *
    have q1 := wrapN64 (n := first / tp') (Nat.lt_of_le_of_lt (Nat.div_le_self _ _) (Nat.lt_of_lt_of_le hfB (by decide)))
    have tz : ((tp' : Int) = 0) = False := eq_false (by omega)
    refine WC.ds [⟨0, 0, false, []⟩, ⟨1, 0, false, []⟩, ⟨2, 0, false, []⟩, ⟨3, 0, false, []⟩, ⟨4, 0, false, []⟩, ⟨5, 0, false, []⟩, ⟨6, 0, false, []⟩, ⟨7, 0, false, []⟩] [0, 0, 3, 0, 0, 24, 7, 127] mo (by kernel_rfl) (by simp only [EPl, List.getElem?_cons_zero, List.getElem?_cons_succ]; rfl) fun K hK => ?_
    simp only [↓EJ, EX, FA, simprocAttr, tdivN, tmodN, q1, tz]
    repeat refine And.intro (by omega) ?_
    refine hK _ ?_; try clear hK K
    refine WC.trim [0, 1, 4, 5, 6, 7, 8, 9, 10, 11, 12, 13, 14, 15, 16, 17, 18, 19, 20, 21, 22, 23, 24, 63, 108, 116, 117, 118, 119, 120, 174, 177, 178, 179, 180, 223, 224, 225] ?_
    simp only [ET, simprocAttr]
    refine WC.sx (X := Nat) (fun g => U / nval v ≤ g ∧ g ≤ U / nval v + 1 ∧ g < B) (fun g => ⟨[(14, .int .u64 g), (12, .int .i64 j), (11, .int .u64 sc), (10, .int .u64 tp'), (9, .int .i64 n), (8, .slc (v.map lb)), (7, .ref (.l 0) 0 (la + 1)), (6, .int .u64 k), (5, .nils), (4, .ref (.l 2) 0 m)], [], [.row (w.map lb) 1 117, .dead, .row (q.map lb) 1 117], []⟩) ?_ ?_
    ·refine WC.b1 ?_
     refine WC.loop (X := Nat × Nat) (fun z => ⟨[(15, .int .u64 z.2), (14, .int .u64 z.1), (12, .int .i64 j), (11, .int .u64 sc), (10, .int .u64 tp'), (9, .int .i64 n), (8, .slc (v.map lb)), (7, .ref (.l 0) 0 (la + 1)), (6, .int .u64 k), (5, .nils), (4, .ref (.l 2) 0 m)], [], [.row (w.map lb) 1 117, .dead, .row (q.map lb) 1 117], []⟩)
      (fun z => EstL U (nval v) tp' first z.1 z.2 ∧ z.2 < B) (fun z => z.1) (first / tp', first % tp') [0, 1, 2] ⟨E0, Nat.lt_trans (Nat.mod_lt _ (by omega)) t1B⟩ ?_ ?_
     ·refine ⟨by simp, by simp only [EV, EB, EL, ER, ET, and_self, true_and, and_true, Nat.reduceEqDiff, reduceCtorEq, reduceIte, lb_closedL _ _], by simp only [EV, EB, EL, ER, ET, and_self, true_and, and_true, Nat.reduceEqDiff, reduceCtorEq, reduceIte, lb_closedL _ _], by simp only [EV, EB, EL, ER, ET, and_self, true_and, and_true, Nat.reduceEqDiff, reduceCtorEq, reduceIte, lb_closedL _ _, pick], rfl⟩
     ·rintro ⟨g, r⟩ ⟨g1, g2⟩
      dsimp only at g1 g2 ⊢
      have gle := E.g_le g1
      refine WC.sK fun K3 hK3 => ?_
      refine WC.rj ⟨[(108, .bool (decide (B ≤ g ∨ r * B + uu < g * sc))), (15, .int .u64 r), (14, .int .u64 g), (12, .int .i64 j), (11, .int .u64 sc), (10, .int .u64 tp'), (9, .int .i64 n), (8, .slc (v.map lb)), (7, .ref (.l 0) 0 (la + 1)), (6, .int .u64 k), (5, .nils), (4, .ref (.l 2) 0 m)], [], [.row (w.map lb) 1 117, .dead, .row (q.map lb) 1 117], []⟩ ?_ ?_
      ·by_cases cg : g < B
       ·have cgi : ((g : Int) / 4294967296 = 0) = True := eq_true (by rw [Bv] at cg; omega)
        have hgs : g * sc < B * B := Nat.mul_lt_mul_of_lt_of_lt cg t2B
        have e3 : IntKind.wrap .u64 ((g : Int) * (sc : Int)) = ((g * sc : Nat) : Int) := by
         rw [← Int.natCast_mul]; exact wrapN64 (Nat.lt_of_lt_of_le hgs (by decide))
        have e4 : IntKind.wrap .u64 ((r : Int) * 4294967296) = (r : Int) * 4294967296 := wu64 (by omega) (by rw [Bv] at g2; omega)
        have e6 := join32 g2 b3
        simp only [↓EJ, EX, FA, simprocAttr, hwr, hwr2, z3, a3, lb, c3, shl64_32, shr64_32, cgi, Bool.not_true, Bool.not_false, e3, e4, e6]
        repeat refine And.intro (by omega) ?_
        refine ⟨[0, 1, 2], ?_⟩
        refine ⟨by simp, ?_, by simp only [↓EJ, EX, FA, simprocAttr, ER, lb_closedL _ _], by simp only [↓EJ, EX, FA, simprocAttr, ER, pick, lb_closedL _ _], rfl⟩
        simp only [↓EJ, EX, FA, simprocAttr, ER, and_self, lb_closedL _ _]
        congr 1
        rw [decide_eq_decide, Int.ofNat_lt]
        exact ⟨Or.inr, fun h => h.resolve_left (by omega)⟩
       ·have cgi : ((g : Int) / 4294967296 = 0) = False := eq_false (by rw [Bv] at cg; omega)
        simp only [↓EJ, EX, FA, simprocAttr, hwr, hwr2, z3, a3, lb, c3, shl64_32, shr64_32, cgi, Bool.not_true, Bool.not_false]
        refine ⟨[0, 1, 2], ?_⟩
        refine ⟨by simp, ?_, by simp only [↓EJ, EX, FA, simprocAttr, ER, lb_closedL _ _], by simp only [↓EJ, EX, FA, simprocAttr, ER, pick, lb_closedL _ _], rfl⟩
        simp only [↓EJ, EX, FA, simprocAttr, ER, and_self, lb_closedL _ _]
        simp; omega
      refine WC.cond (c := .tmp 108) rfl (fun h => ?_) (fun h => ?_)
      ·have hc : B ≤ g ∨ r * B + uu < g * sc := by simpa using h
       obtain ⟨L2, hg0⟩ := E.step g1 hc
       refine WC.skip ?_
       try simp only [EQ, reduceIte, Nat.reduceEqDiff]
       refine hK3 _ ?_; try clear hK3 K3
       refine WC.b1 ?_
       have eg : (g : Int) - 1 = ((g - 1 : Nat) : Int) := by omega
       have er : (r : Int) + (tp' : Int) = ((r + tp' : Nat) : Int) := by omega
       have wg := wrapN64 (n := g - 1) (by rw [Bv] at gle; omega)
       have wr := wrapN64 (n := r + tp') (by rw [Bv] at g2 t1B; omega)
       refine WC.rs fun K hK => ?_
       simp only [↓EJ, EX, FA, simprocAttr, eg, wg]
       refine hK _ ?_; try clear hK K
       refine WC.trim [0, 1, 4, 5, 6, 7, 8, 9, 10, 11, 12, 13, 14, 15, 16, 17, 18, 19, 20, 21, 22, 23, 24, 63, 108, 116, 117, 118, 119, 120, 174, 177, 178, 179, 180, 223, 224, 225] ?_
       simp only [ET, simprocAttr]
       refine WC.rs fun K hK => ?_
       simp only [↓EJ, EX, FA, simprocAttr, er, wr]
       refine hK _ ?_; try clear hK K
       refine WC.trim [0, 1, 4, 5, 6, 7, 8, 9, 10, 11, 12, 13, 14, 15, 16, 17, 18, 19, 20, 21, 22, 23, 24, 63, 108, 116, 117, 118, 119, 120, 174, 177, 178, 179, 180, 223, 224, 225] ?_
       simp only [ET, simprocAttr]
       refine WC.rs fun K hK => ?_
       simp only [↓EJ, EX, FA, simprocAttr, shr64_32]
       refine hK _ ?_; try clear hK K
       refine WC.trim [0, 1, 4, 5, 6, 7, 8, 9, 10, 11, 12, 13, 14, 15, 16, 17, 18, 19, 20, 21, 22, 23, 24, 63, 108, 116, 117, 118, 119, 120, 174, 177, 178, 179, 180, 223, 224, 225] ?_
       simp only [ET, simprocAttr]
       refine WC.cond (c := .tmp 116) rfl (fun h => ?_) (fun h => ?_)
       ·have hB : B ≤ r + tp' := by simp at h; rw [Bv]; omega
        refine WC.exit ?_
        simp only [EQ, reduceIte, Nat.reduceEqDiff]
        obtain ⟨y1, y2, y3⟩ := E.done L2 (.inr ⟨hB, by omega⟩)
        refine ⟨g - 1, [0, 1, 2], ⟨y1, y2, y3⟩, ?_⟩
        refine ⟨by simp, by simp only [EV, EB, EL, ER, ET, and_self, true_and, and_true, Nat.reduceEqDiff, reduceCtorEq, reduceIte, lb_closedL _ _], by simp only [EV, EB, EL, ER, ET, and_self, true_and, and_true, Nat.reduceEqDiff, reduceCtorEq, reduceIte, lb_closedL _ _], by simp only [EV, EB, EL, ER, ET, and_self, true_and, and_true, Nat.reduceEqDiff, reduceCtorEq, reduceIte, lb_closedL _ _, pick], rfl⟩
       ·have hB : r + tp' < B := by simp at h; rw [Bv]; omega
        refine WC.skip ?_
        try simp only [EQ, reduceIte, Nat.reduceEqDiff]
        refine ⟨(g - 1, r + tp'), [0, 1, 2], ⟨L2, hB⟩, by dsimp only; omega, ?_⟩
        refine ⟨by simp, by simp only [EV, EB, EL, ER, ET, and_self, true_and, and_true, Nat.reduceEqDiff, reduceCtorEq, reduceIte, lb_closedL _ _], by simp only [EV, EB, EL, ER, ET, and_self, true_and, and_true, Nat.reduceEqDiff, reduceCtorEq, reduceIte, lb_closedL _ _], by simp only [EV, EB, EL, ER, ET, and_self, true_and, and_true, Nat.reduceEqDiff, reduceCtorEq, reduceIte, lb_closedL _ _, pick], rfl⟩
      ·have hc : ¬ (B ≤ g ∨ r * B + uu < g * sc) := by simpa using h
       refine WC.exit ?_
       simp only [EQ, reduceIte, Nat.reduceEqDiff]
       obtain ⟨y1, y2, y3⟩ := E.done g1 (.inl ⟨by omega, by omega⟩)
       refine ⟨g, [0, 1, 2], ⟨y1, y2, y3⟩, ?_⟩
       refine ⟨by simp, by simp only [EV, EB, EL, ER, ET, and_self, true_and, and_true, Nat.reduceEqDiff, reduceCtorEq, reduceIte, lb_closedL _ _], by simp only [EV, EB, EL, ER, ET, and_self, true_and, and_true, Nat.reduceEqDiff, reduceCtorEq, reduceIte, lb_closedL _ _], by simp only [EV, EB, EL, ER, ET, and_self, true_and, and_true, Nat.reduceEqDiff, reduceCtorEq, reduceIte, lb_closedL _ _, pick], rfl⟩
    ·rintro g ⟨g1, g2, g3⟩
     refine WC.rs fun K hK => ?_
     simp only [↓EJ, EX, FA, simprocAttr]
     refine hK _ ?_; try clear hK K
     refine WC.trim [0, 1, 4, 5, 6, 7, 8, 9, 10, 11, 12, 13, 14, 15, 16, 17, 18, 19, 20, 21, 22, 23, 24, 63, 108, 116, 117, 118, 119, 120, 174, 177, 178, 179, 180, 223, 224, 225] ?_
     simp only [ET, simprocAttr]
     refine WC.sx (X := List Nat × Nat × Nat) (fun z => z.1.length = la + 1 ∧ lim z.1 ∧ z.1.take j = w.take j ∧ z.1.drop (j + n) = w.drop (j + n) ∧ seg z.1 j n + g * nval v = seg w j n + (z.2.1 + z.2.2) * B ^ n ∧ z.2.1 < B ∧ z.2.2 ≤ 1)
      (fun z => ⟨[(17, .int .u64 z.2.1), (16, .int .u64 z.2.2), (14, .int .u64 g), (12, .int .i64 j), (11, .int .u64 sc), (10, .int .u64 tp'), (9, .int .i64 n), (8, .slc (v.map lb)), (7, .ref (.l 0) 0 (la + 1)), (6, .int .u64 k), (5, .nils), (4, .ref (.l 2) 0 m)], [], [.row (z.1.map lb) 1 117, .dead, .row (q.map lb) 1 117], []⟩) ?_ ?_
     ·refine WC.rs fun K hK => ?_
      simp only [↓EJ, EX, FA, simprocAttr, List.length_map]
      refine hK _ ?_; try clear hK K
      refine WC.trim [0, 1, 4, 5, 6, 7, 8, 9, 10, 11, 12, 13, 14, 15, 16, 17, 18, 19, 20, 21, 22, 23, 24, 63, 108, 116, 117, 118, 119, 120, 174, 177, 178, 179, 180, 223, 224, 225] ?_
      simp only [ET, simprocAttr]
      refine WC.b1 ?_
      refine WC.loop (X := Nat × List Nat × Nat × Nat) (fun z => ⟨[(119, .int .i64 z.1), (118, .int .i64 n), (117, .slc (v.map lb)), (17, .int .u64 z.2.2.1), (16, .int .u64 z.2.2.2), (14, .int .u64 g), (12, .int .i64 j), (11, .int .u64 sc), (10, .int .u64 tp'), (9, .int .i64 n), (8, .slc (v.map lb)), (7, .ref (.l 0) 0 (la + 1)), (6, .int .u64 k), (5, .nils), (4, .ref (.l 2) 0 m)], [], [.row (z.2.1.map lb) 1 117, .dead, .row (q.map lb) 1 117], []⟩)
       (fun z => z.1 ≤ n ∧ z.2.1.length = la + 1 ∧ lim z.2.1 ∧ z.2.1.take j = w.take j ∧ z.2.1.drop (j + z.1) = w.drop (j + z.1) ∧ seg z.2.1 j z.1 + g * nval (v.take z.1) = seg w j z.1 + (z.2.2.1 + z.2.2.2) * B ^ z.1 ∧ z.2.2.1 < B ∧ z.2.2.2 ≤ 1) (fun z => n - z.1) (0, w, 0, 0) [0, 1, 2]
       ⟨Nat.zero_le _, h2', h1.lu, rfl, rfl, by simp [seg_zero, nval], B_pos, Nat.zero_le _⟩ ?_ ?_
      ·refine ⟨by simp, by simp only [EV, EB, EL, ER, ET, and_self, true_and, and_true, Nat.reduceEqDiff, reduceCtorEq, reduceIte, lb_closedL _ _, nl, Int.cast_ofNat_Int], by simp only [EV, EB, EL, ER, ET, and_self, true_and, and_true, Nat.reduceEqDiff, reduceCtorEq, reduceIte, lb_closedL _ _, nl, Int.cast_ofNat_Int], by simp only [EV, EB, EL, ER, ET, and_self, true_and, and_true, Nat.reduceEqDiff, reduceCtorEq, reduceIte, lb_closedL _ _, nl, Int.cast_ofNat_Int, pick], rfl⟩
      ·rintro ⟨i, w', c, bo⟩ ⟨s1, s2, s3, s4, s5, s6, s7, s8⟩
       dsimp only at s1 s2 s3 s4 s5 s6 s7 s8 ⊢
       refine WC.rs fun K hK => ?_
       simp only [↓EJ, EX, FA, simprocAttr]
       refine hK _ ?_; try clear hK K
       refine WC.trim [0, 1, 4, 5, 6, 7, 8, 9, 10, 11, 12, 13, 14, 15, 16, 17, 18, 19, 20, 21, 22, 23, 24, 63, 108, 116, 117, 118, 119, 120, 174, 177, 178, 179, 180, 223, 224, 225] ?_
       simp only [ET, simprocAttr]
       refine WC.cs (c := .tmp 120) rfl fun K5 hK5 => ⟨fun h => ?_, fun h => ?_⟩
       ·have hlt : i < n := by simpa using h
        have hg := lb_gi (l := v) (i := i) (by omega)
        have hdB := lim_get hv i
        have hts := val_take_succ' v i
        refine WC.skip ?_
        simp only [EQ]
        refine hK5 _ ?_; try clear hK5 K5
        refine WC.bs fun K6 hK6 => ?_
        refine WC.rs fun K hK => ?_
        simp only [↓EJ, EX, FA, simprocAttr, List.length_map, nl, hg, lb]
        repeat refine And.intro (by omega) ?_
        refine hK _ ?_; try clear hK K
        refine WC.trim [0, 1, 4, 5, 6, 7, 8, 9, 10, 11, 12, 13, 14, 15, 16, 17, 18, 19, 20, 21, 22, 23, 24, 63, 108, 116, 117, 118, 119, 120, 174, 177, 178, 179, 180, 223, 224, 225] ?_
        simp only [ET, simprocAttr]
        generalize v.getD i 0 = d at *
        have x1 : (w'.map lb)[j + i]? = some (lb (w'.getD (j + i) 0)) := lb_get (by omega)
        have hui := lim_get s3 (j + i)
        have huw := getD_of_drop s5
        have zi : ((j : Int) + (i : Int)).toNat = j + i := by omega
        have hwi := w64 (x := (j : Int) + (i : Int)) (by omega) (by omega)
        have hss := seg_succ w j i
        rw [← huw] at hss
        generalize hui' : w'.getD (j + i) 0 = ui at *
        have wui := wrapN64 (Nat.lt_trans hui (by decide))
        have wd := wrapN64 (Nat.lt_trans hdB (by decide))
        obtain ⟨m1, m2, _, _⟩ := sub_num hui g3 hdB s7 s8
        have wgd : IntKind.wrap .u64 ((g : Int) * (d : Int)) = ((g * d : Nat) : Int) := by
         rw [← Int.natCast_mul]; exact wrapN64 (by rw [Bv] at m1; omega)
        have wcg : IntKind.wrap .u64 ((c : Int) + ((g * d : Nat) : Int)) = ((c + g * d : Nat) : Int) := by
         rw [← Int.natCast_add]; exact wrapN64 (by rw [Bv] at m1; omega)
        refine WC.rs fun K hK => ?_
        simp only [↓EJ, EX, FA, simprocAttr, wd, wgd, wcg]
        refine hK _ ?_; try clear hK K
        refine WC.trim [0, 1, 4, 5, 6, 7, 8, 9, 10, 11, 12, 13, 14, 15, 16, 17, 18, 19, 20, 21, 22, 23, 24, 63, 108, 116, 117, 118, 119, 120, 174, 177, 178, 179, 180, 223, 224, 225] ?_
        simp only [ET, simprocAttr]
        generalize hp : c + g * d = p at *
        have hpm := Nat.mod_lt p B_pos
        have hand := and32 (c := p) (by rw [Bv] at m1; omega)
        obtain ⟨x', bo', l1, l2, l3, l4, l5⟩ := limb_sub ui (p % B) bo hui hpm s8
        refine WC.rs fun K hK => ?_
        simp only [↓EJ, EX, FA, simprocAttr, hwi, zi, x1, lb, wui, hand]
        repeat refine And.intro (by omega) ?_
        refine hK _ ?_; try clear hK K
        refine WC.trim [0, 1, 4, 5, 6, 7, 8, 9, 10, 11, 12, 13, 14, 15, 16, 17, 18, 19, 20, 21, 22, 23, 24, 63, 108, 116, 117, 118, 119, 120, 174, 177, 178, 179, 180, 223, 224, 225] ?_
        simp only [ET, simprocAttr]
        refine WC.rs fun K hK => ?_
        simp only [↓EJ, EX, FA, simprocAttr, List.length_map, hwi, zi, x1, lb, l4]
        repeat refine And.intro (by omega) ?_
        refine hK _ ?_; try clear hK K
        refine WC.trim [0, 1, 4, 5, 6, 7, 8, 9, 10, 11, 12, 13, 14, 15, 16, 17, 18, 19, 20, 21, 22, 23, 24, 63, 108, 116, 117, 118, 119, 120, 174, 177, 178, 179, 180, 223, 224, 225] ?_
        simp only [ET, simprocAttr]
        rw [lb_set']
        refine WC.rs fun K hK => ?_
        simp only [↓EJ, EX, FA, simprocAttr, shr64_63, l5]
        refine hK _ ?_; try clear hK K
        refine WC.trim [0, 1, 4, 5, 6, 7, 8, 9, 10, 11, 12, 13, 14, 15, 16, 17, 18, 19, 20, 21, 22, 23, 24, 63, 108, 116, 117, 118, 119, 120, 174, 177, 178, 179, 180, 223, 224, 225] ?_
        simp only [ET, simprocAttr]
        have e32 : (p : Int) / 4294967296 = ((p / B : Nat) : Int) := by rw [Bv]; omega
        have wp := wrapN64 (Nat.lt_trans m2 (by decide))
        refine WC.r1 ?_
        simp only [↓EJ, EX, FA, simprocAttr, shr64_32, e32, wp]
        try simp only [EQ, reduceIte, Nat.reduceEqDiff]
        refine hK6 _ ?_; try clear hK6 K6
        refine WC.r1 ?_
        simp (maxSteps := 1000000) (disch := omega) only [↓EJ, EX, FA, simprocAttr, w64, wu64]
        try simp only [EQ, reduceIte, Nat.reduceEqDiff]
        refine ⟨(i + 1, w'.set (j + i) x', p / B, bo'), [0, 1, 2], ⟨by dsimp only; omega, by dsimp only; simp [s2], lim_set s3 _ l1, ?_, ?_, ?_, m2, l2⟩, by dsimp only; omega, ?_⟩
        ·dsimp only; rw [take_set_le (by omega), s4]
        ·dsimp only; rw [drop_set_lt (by omega), ← Nat.add_assoc, ← List.drop_drop, s5, List.drop_drop]
        ·dsimp only
         rw [seg_set (by omega), hts, hss, Nat.pow_succ]
         refine sub_arith s6 ?_
         have hmd := Nat.mod_add_div p B
         rw [Nat.mul_add]
         omega
        ·refine ⟨by simp, by simp only [EV, EB, EL, ER, ET, and_self, true_and, and_true, Nat.reduceEqDiff, reduceCtorEq, reduceIte, Int.natCast_add, lb_closedL _ _], by simp only [EV, EB, EL, ER, ET, and_self, true_and, and_true, Nat.reduceEqDiff, reduceCtorEq, reduceIte, Int.natCast_add, lb_closedL _ _], by simp only [EV, EB, EL, ER, ET, and_self, true_and, and_true, Nat.reduceEqDiff, reduceCtorEq, reduceIte, Int.natCast_add, lb_closedL _ _, pick], rfl⟩
       ·have hge : i = n := by simp at h; omega
        subst hge
        refine WC.exit ?_
        simp only [EQ, reduceIte, Nat.reduceEqDiff]
        refine ⟨(w', c, bo), [0, 1, 2], ⟨s2, s3, s4, s5, ?_, s7, s8⟩, ?_⟩
        ·rw [val_take_all (by omega)] at s6; exact s6
        ·refine ⟨by simp, by simp only [EV, EB, EL, ER, ET, and_self, true_and, and_true, Nat.reduceEqDiff, reduceCtorEq, reduceIte, lb_closedL _ _], by simp only [EV, EB, EL, ER, ET, and_self, true_and, and_true, Nat.reduceEqDiff, reduceCtorEq, reduceIte, lb_closedL _ _], by simp only [EV, EB, EL, ER, ET, and_self, true_and, and_true, Nat.reduceEqDiff, reduceCtorEq, reduceIte, lb_closedL _ _, pick], rfl⟩
     ·rintro ⟨w', c, bo⟩ ⟨s2, s3, s4, s5, s6, s7, s8⟩
      dsimp only at s2 s3 s4 s5 s6 s7 s8 ⊢
      have x1 : (w'.map lb)[j + n]? = some (lb (w'.getD (j + n) 0)) := lb_get (by omega)
      have hui := lim_get s3 (j + n)
      have huw := getD_of_drop s5
      have hss := seg_succ w j n
      rw [← huw] at hss
      generalize hui' : w'.getD (j + n) 0 = ui at *
      have wui := wrapN64 (Nat.lt_trans hui (by decide))
      obtain ⟨x', bo', l1, l2, l3, l4, l5⟩ := limb_sub ui c bo hui s7 s8
      refine WC.rs fun K hK => ?_
      simp only [↓EJ, EX, FA, simprocAttr, hwr, z1, x1, lb, wui]
      repeat refine And.intro (by omega) ?_
      refine hK _ ?_; try clear hK K
      refine WC.trim [0, 1, 4, 5, 6, 7, 8, 9, 10, 11, 12, 13, 14, 15, 16, 17, 18, 19, 20, 21, 22, 23, 24, 63, 108, 116, 117, 118, 119, 120, 174, 177, 178, 179, 180, 223, 224, 225] ?_
      simp only [ET, simprocAttr]
      refine WC.rs fun K hK => ?_
      simp only [↓EJ, EX, FA, simprocAttr, List.length_map, hwr, z1, x1, lb, l4]
      repeat refine And.intro (by omega) ?_
      refine hK _ ?_; try clear hK K
      refine WC.trim [0, 1, 4, 5, 6, 7, 8, 9, 10, 11, 12, 13, 14, 15, 16, 17, 18, 19, 20, 21, 22, 23, 24, 63, 108, 116, 117, 118, 119, 120, 174, 177, 178, 179, 180, 223, 224, 225] ?_
      simp only [ET, simprocAttr]
      rw [lb_set']
      have hseg := sub_arith (d := 0) (ui := ui) (x := x') (c' := 0) (bo' := bo') s6 (by rw [Nat.mul_zero, Nat.zero_add]; omega)
      rw [← seg_set (by omega), Nat.mul_zero, Nat.add_zero, Nat.zero_add, ← hss, hU, ← Nat.pow_succ] at hseg
      have k1' : (w'.set (j + n) x').length = la + 1 := by simp [s2]
      have k2' : lim (w'.set (j + n) x') := lim_set s3 _ l1
      have k3' : (w'.set (j + n) x').take j = w.take j := by rw [take_set_le (by omega), s4]
      have k4' : (w'.set (j + n) x').drop (j + n + 1) = w.drop (j + n + 1) := by rw [drop_set_lt (by omega), ← List.drop_drop, s5, List.drop_drop]
      generalize w'.set (j + n) x' = y2 at *
      obtain ⟨n0, n1⟩ := sub_end hV0 g1 g2 (seg_lt k2' j (n + 1)) hVB hseg
      refine WC.sx (X := List Nat) (fun z => z.length = la + 1 ∧ lim z ∧ z.take j = w.take j ∧ z.drop (j + n + 1) = w.drop (j + n + 1) ∧ seg z j (n + 1) = U % nval v)
       (fun z => ⟨[(14, .int .u64 (U / nval v : Nat)), (12, .int .i64 j), (11, .int .u64 sc), (10, .int .u64 tp'), (9, .int .i64 n), (8, .slc (v.map lb)), (7, .ref (.l 0) 0 (la + 1)), (6, .int .u64 k), (5, .nils), (4, .ref (.l 2) 0 m)], [], [.row (z.map lb) 1 117, .dead, .row (q.map lb) 1 117], []⟩) ?_ ?_
      ·refine WC.rs fun K hK => ?_
       simp only [↓EJ, EX, FA, simprocAttr, shr64_63, l5]
       refine hK _ ?_; try clear hK K
       refine WC.trim [0, 1, 4, 5, 6, 7, 8, 9, 10, 11, 12, 13, 14, 15, 16, 17, 18, 19, 20, 21, 22, 23, 24, 63, 108, 116, 117, 118, 119, 120, 174, 177, 178, 179, 180, 223, 224, 225] ?_
       simp only [ET, simprocAttr]
       refine WC.cond (c := .tmp 174) rfl (fun h => ?_) (fun h => ?_)
       ·obtain ⟨n2, n3⟩ := n1 (by simp at h; omega)
        have eg : (g : Int) - 1 = ((U / nval v : Nat) : Int) := by omega
        have wg := wrapN64 (n := U / nval v) (by rw [Bv] at g3; omega)
        refine WC.rs fun K hK => ?_
        simp only [↓EJ, EX, FA, simprocAttr, eg, wg]
        refine hK _ ?_; try clear hK K
        refine WC.trim [0, 1, 4, 5, 6, 7, 8, 9, 10, 11, 12, 13, 14, 15, 16, 17, 18, 19, 20, 21, 22, 23, 24, 63, 108, 116, 117, 118, 119, 120, 174, 177, 178, 179, 180, 223, 224, 225] ?_
        simp only [ET, simprocAttr]
        refine WC.rs fun K hK => ?_
        simp only [↓EJ, EX, FA, simprocAttr]
        refine hK _ ?_; try clear hK K
        refine WC.trim [0, 1, 4, 5, 6, 7, 8, 9, 10, 11, 12, 13, 14, 15, 16, 17, 18, 19, 20, 21, 22, 23, 24, 63, 108, 116, 117, 118, 119, 120, 174, 177, 178, 179, 180, 223, 224, 225] ?_
        simp only [ET, simprocAttr]
        refine WC.sx (X := List Nat × Nat) (fun z => z.1.length = la + 1 ∧ lim z.1 ∧ z.1.take j = w.take j ∧ z.1.drop (j + n) = y2.drop (j + n) ∧ seg z.1 j n + z.2 * B ^ n = seg y2 j n + nval v ∧ z.2 ≤ 1)
         (fun z => ⟨[(17, .int .u64 z.2), (14, .int .u64 (U / nval v : Nat)), (12, .int .i64 j), (11, .int .u64 sc), (10, .int .u64 tp'), (9, .int .i64 n), (8, .slc (v.map lb)), (7, .ref (.l 0) 0 (la + 1)), (6, .int .u64 k), (5, .nils), (4, .ref (.l 2) 0 m)], [], [.row (z.1.map lb) 1 117, .dead, .row (q.map lb) 1 117], []⟩) ?_ ?_
        ·refine WC.rs fun K hK => ?_
         simp only [↓EJ, EX, FA, simprocAttr, List.length_map]
         refine hK _ ?_; try clear hK K
         refine WC.trim [0, 1, 4, 5, 6, 7, 8, 9, 10, 11, 12, 13, 14, 15, 16, 17, 18, 19, 20, 21, 22, 23, 24, 63, 108, 116, 117, 118, 119, 120, 174, 177, 178, 179, 180, 223, 224, 225] ?_
         simp only [ET, simprocAttr]
         refine WC.b1 ?_
         refine WC.loop (X := Nat × List Nat × Nat) (fun z => ⟨[(179, .int .i64 z.1), (178, .int .i64 n), (177, .slc (v.map lb)), (17, .int .u64 z.2.2), (14, .int .u64 (U / nval v : Nat)), (12, .int .i64 j), (11, .int .u64 sc), (10, .int .u64 tp'), (9, .int .i64 n), (8, .slc (v.map lb)), (7, .ref (.l 0) 0 (la + 1)), (6, .int .u64 k), (5, .nils), (4, .ref (.l 2) 0 m)], [], [.row (z.2.1.map lb) 1 117, .dead, .row (q.map lb) 1 117], []⟩)
          (fun z => z.1 ≤ n ∧ z.2.1.length = la + 1 ∧ lim z.2.1 ∧ z.2.1.take j = w.take j ∧ z.2.1.drop (j + z.1) = y2.drop (j + z.1) ∧ seg z.2.1 j z.1 + z.2.2 * B ^ z.1 = seg y2 j z.1 + nval (v.take z.1) ∧ z.2.2 ≤ 1) (fun z => n - z.1) (0, y2, 0) [0, 1, 2]
          ⟨Nat.zero_le _, k1', k2', k3', rfl, by simp [seg_zero, nval], Nat.zero_le _⟩ ?_ ?_
         ·refine ⟨by simp, by simp only [EV, EB, EL, ER, ET, and_self, true_and, and_true, Nat.reduceEqDiff, reduceCtorEq, reduceIte, lb_closedL _ _, nl, Int.cast_ofNat_Int], by simp only [EV, EB, EL, ER, ET, and_self, true_and, and_true, Nat.reduceEqDiff, reduceCtorEq, reduceIte, lb_closedL _ _, nl, Int.cast_ofNat_Int], by simp only [EV, EB, EL, ER, ET, and_self, true_and, and_true, Nat.reduceEqDiff, reduceCtorEq, reduceIte, lb_closedL _ _, nl, Int.cast_ofNat_Int, pick], rfl⟩
         ·rintro ⟨i, w3, cc⟩ ⟨p1, p2, p3, p4, p5, p6, p7⟩
          dsimp only at p1 p2 p3 p4 p5 p6 p7 ⊢
          refine WC.rs fun K hK => ?_
          simp only [↓EJ, EX, FA, simprocAttr]
          refine hK _ ?_; try clear hK K
          refine WC.trim [0, 1, 4, 5, 6, 7, 8, 9, 10, 11, 12, 13, 14, 15, 16, 17, 18, 19, 20, 21, 22, 23, 24, 63, 108, 116, 117, 118, 119, 120, 174, 177, 178, 179, 180, 223, 224, 225] ?_
          simp only [ET, simprocAttr]
          refine WC.cs (c := .tmp 180) rfl fun K7 hK7 => ⟨fun h => ?_, fun h => ?_⟩
          ·have hlt : i < n := by simpa using h
           have hg := lb_gi (l := v) (i := i) (by omega)
           have hdB := lim_get hv i
           have hts := val_take_succ' v i
           refine WC.skip ?_
           simp only [EQ]
           refine hK7 _ ?_; try clear hK7 K7
           refine WC.bs fun K8 hK8 => ?_
           refine WC.rs fun K hK => ?_
           simp only [↓EJ, EX, FA, simprocAttr, List.length_map, nl, hg, lb]
           repeat refine And.intro (by omega) ?_
           refine hK _ ?_; try clear hK K
           refine WC.trim [0, 1, 4, 5, 6, 7, 8, 9, 10, 11, 12, 13, 14, 15, 16, 17, 18, 19, 20, 21, 22, 23, 24, 63, 108, 116, 117, 118, 119, 120, 174, 177, 178, 179, 180, 223, 224, 225] ?_
           simp only [ET, simprocAttr]
           generalize v.getD i 0 = d at *
           have x2 : (w3.map lb)[j + i]? = some (lb (w3.getD (j + i) 0)) := lb_get (by omega)
           have hwi3 := lim_get p3 (j + i)
           have huw3 := getD_of_drop p5
           have zi : ((j : Int) + (i : Int)).toNat = j + i := by omega
           have hwi := w64 (x := (j : Int) + (i : Int)) (by omega) (by omega)
           have hs3 := seg_succ y2 j i
           rw [← huw3] at hs3
           generalize hwi3' : w3.getD (j + i) 0 = wi at *
           have wui' := wrapN64 (Nat.lt_trans hwi3 (by decide))
           have wd := wrapN64 (Nat.lt_trans hdB (by decide))
           have wa : IntKind.wrap .u64 ((wi : Int) + (d : Int)) = ((wi + d : Nat) : Int) := by
            rw [← Int.natCast_add]; exact wrapN64 (by rw [Bv] at *; omega)
           have wb : IntKind.wrap .u64 ((cc : Int) + ((wi + d : Nat) : Int)) = ((cc + (wi + d) : Nat) : Int) := by
            rw [← Int.natCast_add]; exact wrapN64 (by rw [Bv] at *; omega)
           refine WC.rs fun K hK => ?_
           simp only [↓EJ, EX, FA, simprocAttr, hwi, zi, x2, lb, wui', wd, wa, wb]
           repeat refine And.intro (by omega) ?_
           refine hK _ ?_; try clear hK K
           refine WC.trim [0, 1, 4, 5, 6, 7, 8, 9, 10, 11, 12, 13, 14, 15, 16, 17, 18, 19, 20, 21, 22, 23, 24, 63, 108, 116, 117, 118, 119, 120, 174, 177, 178, 179, 180, 223, 224, 225] ?_
           simp only [ET, simprocAttr]
           generalize hp : cc + (wi + d) = p at *
           have hpB : p < 2 * B := by omega
           have e31 : (p : Int) % 4294967296 = ((p % B : Nat) : Int) := by rw [Bv]; omega
           have e32 : (p : Int) / 4294967296 = ((p / B : Nat) : Int) := by rw [Bv]; omega
           have wp := wrapN64 (n := p / B) (by rw [Bv] at hpB ⊢; omega)
           refine WC.rs fun K hK => ?_
           simp only [↓EJ, EX, FA, simprocAttr, List.length_map, hwi, zi, x2, lb, wu32m, e31]
           repeat refine And.intro (by omega) ?_
           refine hK _ ?_; try clear hK K
           refine WC.trim [0, 1, 4, 5, 6, 7, 8, 9, 10, 11, 12, 13, 14, 15, 16, 17, 18, 19, 20, 21, 22, 23, 24, 63, 108, 116, 117, 118, 119, 120, 174, 177, 178, 179, 180, 223, 224, 225] ?_
           simp only [ET, simprocAttr]
           rw [lb_set']
           refine WC.r1 ?_
           simp only [↓EJ, EX, FA, simprocAttr, shr64_32, e32, wp]
           try simp only [EQ, reduceIte, Nat.reduceEqDiff]
           refine hK8 _ ?_; try clear hK8 K8
           refine WC.r1 ?_
           simp (maxSteps := 1000000) (disch := omega) only [↓EJ, EX, FA, simprocAttr, w64, wu64]
           try simp only [EQ, reduceIte, Nat.reduceEqDiff]
           refine ⟨(i + 1, w3.set (j + i) (p % B), p / B), [0, 1, 2], ⟨by dsimp only; omega, by dsimp only; simp [p2], lim_set p3 _ (Nat.mod_lt _ B_pos), ?_, ?_, ?_, ?_⟩, by dsimp only; omega, ?_⟩
           ·dsimp only; rw [take_set_le (by omega), p4]
           ·dsimp only; rw [drop_set_lt (by omega), ← Nat.add_assoc, ← List.drop_drop, p5, List.drop_drop]
           ·dsimp only
            rw [seg_set (by omega), hts, hs3, Nat.pow_succ]
            refine back_arith p6 ?_
            have hmd := Nat.mod_add_div p B
            omega
           ·dsimp only; rw [Bv] at hpB ⊢; omega
           ·refine ⟨by simp, by simp only [EV, EB, EL, ER, ET, and_self, true_and, and_true, Nat.reduceEqDiff, reduceCtorEq, reduceIte, Int.natCast_add, lb_closedL _ _], by simp only [EV, EB, EL, ER, ET, and_self, true_and, and_true, Nat.reduceEqDiff, reduceCtorEq, reduceIte, Int.natCast_add, lb_closedL _ _], by simp only [EV, EB, EL, ER, ET, and_self, true_and, and_true, Nat.reduceEqDiff, reduceCtorEq, reduceIte, Int.natCast_add, lb_closedL _ _, pick], rfl⟩
          ·have hge : i = n := by simp at h; omega
           subst hge
           refine WC.exit ?_
           simp only [EQ, reduceIte, Nat.reduceEqDiff]
           refine ⟨(w3, cc), [0, 1, 2], ⟨p2, p3, p4, p5, ?_, p7⟩, ?_⟩
           ·rw [val_take_all (by omega)] at p6; exact p6
           ·refine ⟨by simp, by simp only [EV, EB, EL, ER, ET, and_self, true_and, and_true, Nat.reduceEqDiff, reduceCtorEq, reduceIte, lb_closedL _ _], by simp only [EV, EB, EL, ER, ET, and_self, true_and, and_true, Nat.reduceEqDiff, reduceCtorEq, reduceIte, lb_closedL _ _], by simp only [EV, EB, EL, ER, ET, and_self, true_and, and_true, Nat.reduceEqDiff, reduceCtorEq, reduceIte, lb_closedL _ _, pick], rfl⟩
        ·rintro ⟨w3, cc⟩ ⟨p2, p3, p4, p5, p6, p7⟩
         dsimp only at p2 p3 p4 p5 p6 p7 ⊢
         have x2 : (w3.map lb)[j + n]? = some (lb (w3.getD (j + n) 0)) := lb_get (by omega)
         have huw3 := getD_of_drop p5
         have ht3 := lim_get p3 (j + n)
         have hs3 := seg_succ y2 j n
         rw [← huw3] at hs3
         generalize hwi3' : w3.getD (j + n) 0 = wi at *
         have hkey : seg w3 j n + B ^ n * (wi + cc) = seg y2 j (n + 1) + nval v := by
          rw [hs3, Nat.mul_add, Nat.mul_comm _ cc]; omega
         obtain ⟨v1, v2⟩ := back_end (seg_lt p3 j n) ht3 p7 n3 hkey
         have wcc : IntKind.wrap .u32 (cc : Int) = (cc : Int) := wrapN32 (Nat.lt_of_le_of_lt p7 (by decide))
         have wsum : IntKind.wrap .u32 ((wi : Int) + (cc : Int)) = ((0 : Nat) : Int) := by
          rw [wu32m, ← v1, Bv]; omega
         refine WC.r1 ?_
         simp only [↓EJ, EX, FA, simprocAttr, List.length_map, hwr, z1, x2, lb, wcc, wsum]
         repeat refine And.intro (by omega) ?_
         try simp only [EQ, reduceIte, Nat.reduceEqDiff]
         have e0 : (w3.map lb).set (j + n) (.int .u32 0) = (w3.set (j + n) 0).map lb := lb_set' w3 (j + n) 0
         refine ⟨w3.set (j + n) 0, [0, 1, 2], ⟨by simp [p2], lim_set p3 _ B_pos, by rw [take_set_le (by omega), p4], ?_, ?_⟩, ?_⟩
         ·rw [drop_set_lt (by omega), ← List.drop_drop, p5, List.drop_drop, k4']
         ·rw [seg_set (by omega), Nat.mul_zero, Nat.add_zero]; exact v2
         ·refine ⟨by simp, by simp only [EV, EB, EL, ER, ET, and_self, true_and, and_true, Nat.reduceEqDiff, reduceCtorEq, reduceIte, lb_closedL _ _, e0], by simp only [EV, EB, EL, ER, ET, and_self, true_and, and_true, Nat.reduceEqDiff, reduceCtorEq, reduceIte, lb_closedL _ _, e0], by simp only [EV, EB, EL, ER, ET, and_self, true_and, and_true, Nat.reduceEqDiff, reduceCtorEq, reduceIte, lb_closedL _ _, e0, pick], rfl⟩
       ·obtain ⟨n2, n3⟩ := n0 (by simp at h; omega)
        refine WC.skip ?_
        try simp only [EQ, reduceIte, Nat.reduceEqDiff]
        refine ⟨y2, [0, 1, 2], ⟨k1', k2', k3', k4', n3⟩, ?_⟩
        rw [← n2]
        refine ⟨by simp, by simp only [EV, EB, EL, ER, ET, and_self, true_and, and_true, Nat.reduceEqDiff, reduceCtorEq, reduceIte, lb_closedL _ _], by simp only [EV, EB, EL, ER, ET, and_self, true_and, and_true, Nat.reduceEqDiff, reduceCtorEq, reduceIte, lb_closedL _ _], by simp only [EV, EB, EL, ER, ET, and_self, true_and, and_true, Nat.reduceEqDiff, reduceCtorEq, reduceIte, lb_closedL _ _, pick], rfl⟩
      ·rintro z ⟨r1, r2, r3, r4, r5⟩
       have hqB := E.q_lt
       have wq := wrapN32 hqB
       have hst := h1.step hV0 hVB hj (by omega) r2 r3 r4 (by omega) (by rw [show nval ((z.drop j).take (n + 1)) = seg z j (n + 1) from rfl, r5, ← hU]; rfl)
       rw [show nval ((w.drop j).take (n + 1)) = U from hU] at hst
       have xq : (q.map lb)[j]? = some (lb (q.getD j 0)) := lb_get (by omega)
       refine WC.r1 ?_
       simp only [↓EJ, EX, FA, simprocAttr, List.length_map, wq, xq, lb]
       repeat refine And.intro (by omega) ?_
       try simp only [EQ, reduceIte, Nat.reduceEqDiff]
       refine hK2 _ ?_; try clear hK2 K2
       rw [lb_set']
       refine WC.r1 ?_
       simp (maxSteps := 1000000) (disch := omega) only [↓EJ, EX, FA, simprocAttr, w64, wu64]
       try simp only [EQ, reduceIte, Nat.reduceEqDiff]
       refine ⟨(j, z, q.set j (U / nval v)), [0, 1, 2], ⟨hst, r1, by dsimp only; simp [h3], lim_set h4 _ hqB, by dsimp only; omega⟩, by dsimp only; omega, ?_⟩
       refine ⟨by simp, by simp only [EV, EB, EL, ER, ET, and_self, true_and, and_true, Nat.reduceEqDiff, reduceCtorEq, reduceIte, lb_closedL _ _], by simp only [EV, EB, EL, ER, ET, and_self, true_and, and_true, Nat.reduceEqDiff, reduceCtorEq, reduceIte, lb_closedL _ _], by simp only [EV, EB, EL, ER, ET, and_self, true_and, and_true, Nat.reduceEqDiff, reduceCtorEq, reduceIte, lb_closedL _ _, pick], rfl⟩
   ·have hj0 : j1 = 0 := by simp at h; omega
    subst hj0
    refine WC.exit ?_
    simp only [EQ, reduceIte, Nat.reduceEqDiff]
    refine ⟨(w, q), [0, 1, 2], ⟨h1, h2', h3, h4⟩, ?_⟩
    refine ⟨by simp, by simp only [EV, EB, EL, ER, ET, and_self, true_and, and_true, Nat.reduceEqDiff, reduceCtorEq, reduceIte, lb_closedL _ _], by simp only [EV, EB, EL, ER, ET, and_self, true_and, and_true, Nat.reduceEqDiff, reduceCtorEq, reduceIte, lb_closedL _ _], by simp only [EV, EB, EL, ER, ET, and_self, true_and, and_true, Nat.reduceEqDiff, reduceCtorEq, reduceIte, lb_closedL _ _, pick], rfl⟩
 ·rintro ⟨w, q⟩ ⟨h1, h2', h3, h4⟩
  dsimp only at h1 h2' h3 h4 ⊢
  obtain ⟨dq, dr⟩ := h1.done
  rw [d1] at dq
  rw [d2] at dr
  have zn : ((n : Nat) : Int).toNat = n := Int.toNat_natCast n
  refine WC.rs fun K hK => ?_
  simp only [↓EJ, EX, FA, simprocAttr, zn]
  repeat refine And.intro (by omega) ?_
  refine hK _ ?_; try clear hK K
  refine WC.trim [0, 1, 4, 5, 6, 7, 8, 9, 10, 11, 12, 13, 14, 15, 16, 17, 18, 19, 20, 21, 22, 23, 24, 63, 108, 116, 117, 118, 119, 120, 174, 177, 178, 179, 180, 223, 224, 225] ?_
  simp only [ET, simprocAttr]
  rw [rep_lb]
  refine WC.sx (X := List Nat) (fun z => z.length = n ∧ lim z ∧ nval z = x % y) (fun z => ⟨[(5, .ref (.l 3) 0 n), (4, .ref (.l 2) 0 m)], [], [.row (w.map lb) 1 117, .dead, .row (q.map lb) 1 117, .row (z.map lb) 1 117], []⟩) ?_ ?_
  ·refine WC.rs fun K hK => ?_
   simp only [↓EJ, EX, FA, simprocAttr]
   refine hK _ ?_; try clear hK K
   refine WC.trim [0, 1, 4, 5, 6, 7, 8, 9, 10, 11, 12, 13, 14, 15, 16, 17, 18, 19, 20, 21, 22, 23, 24, 63, 108, 116, 117, 118, 119, 120, 174, 177, 178, 179, 180, 223, 224, 225] ?_
   simp only [ET, simprocAttr]
   refine WC.b1 ?_
   refine WC.loop (X := Nat × List Nat) (fun z => ⟨[(224, .int .i64 z.1), (223, .int .i64 n), (7, .ref (.l 0) 0 (la + 1)), (6, .int .u64 k), (5, .ref (.l 3) 0 n), (4, .ref (.l 2) 0 m)], [], [.row (w.map lb) 1 117, .dead, .row (q.map lb) 1 117, .row (z.2.map lb) 1 117], []⟩)
    (fun z => z.1 ≤ n ∧ z.2.length = n ∧ lim z.2 ∧ 2 ^ k * nval (z.2.take z.1) + w.getD 0 0 % 2 ^ k = nval (w.take z.1) + B ^ z.1 * (w.getD z.1 0 % 2 ^ k)) (fun z => n - z.1) (0, List.replicate n 0) [0, 1, 2, 3]
    ⟨Nat.zero_le _, by simp, lim_rep _, by simp [nval]⟩ ?_ ?_
   ·refine ⟨by simp, by simp only [EV, EB, EL, ER, ET, and_self, true_and, and_true, Nat.reduceEqDiff, reduceCtorEq, reduceIte, lb_closedL _ _, Int.cast_ofNat_Int], by simp only [EV, EB, EL, ER, ET, and_self, true_and, and_true, Nat.reduceEqDiff, reduceCtorEq, reduceIte, lb_closedL _ _, Int.cast_ofNat_Int], by simp only [EV, EB, EL, ER, ET, and_self, true_and, and_true, Nat.reduceEqDiff, reduceCtorEq, reduceIte, lb_closedL _ _, Int.cast_ofNat_Int, pick], rfl⟩
   ·rintro ⟨i, z⟩ ⟨p1, p2, p3, p4⟩
    dsimp only at p1 p2 p3 p4 ⊢
    refine WC.rs fun K hK => ?_
    simp only [↓EJ, EX, FA, simprocAttr]
    refine hK _ ?_; try clear hK K
    refine WC.trim [0, 1, 4, 5, 6, 7, 8, 9, 10, 11, 12, 13, 14, 15, 16, 17, 18, 19, 20, 21, 22, 23, 24, 63, 108, 116, 117, 118, 119, 120, 174, 177, 178, 179, 180, 223, 224, 225] ?_
    simp only [ET, simprocAttr]
    refine WC.cs (c := .tmp 225) rfl fun K9 hK9 => ⟨fun h => ?_, fun h => ?_⟩
    ·have hlt : i < n := by simpa using h
     have x1 : (w.map lb)[i]? = some (lb (w.getD i 0)) := lb_get (by omega)
     have x2 : (w.map lb)[i + 1]? = some (lb (w.getD (i + 1) 0)) := lb_get (by omega)
     have y1 := lim_get h1.lu i
     have y2 := lim_get h1.lu (i + 1)
     have zi : ((i : Int) + 1).toNat = i + 1 := by omega
     have wi := w64 (x := (i : Int) + 1) (by omega) (by omega)
     have c1 := wrapN64 (Nat.lt_trans y1 (by decide))
     have c2 := wrapN64 (Nat.lt_trans y2 (by decide))
     have cs : IntKind.wrap .u64 ((w.getD (i + 1) 0 : Int) * 4294967296) = (w.getD (i + 1) 0 : Int) * 4294967296 := wu64 (by omega) (by rw [Bv] at y2; omega)
     have hjn := join32 y2 y1
     have hsh := shr_step (r := z.set i ((w.getD (i + 1) 0 * B + w.getD i 0) / 2 ^ k % B)) (i := i) k1 h1.lu (by rw [take_set_le (Nat.le_refl _)]; exact p4) (Num.getD_set_eq (by omega) _)
     have hfB : w.getD (i + 1) 0 * B + w.getD i 0 < 18446744073709551616 := by rw [Bv] at *; omega
     generalize w.getD (i + 1) 0 * B + w.getD i 0 = f at *
     have hfd := Nat.lt_of_le_of_lt (Nat.div_le_self f (2 ^ k)) hfB
     have cf := wrapN64 hfd
     have e31 : ((f / 2 ^ k : Nat) : Int) % 4294967296 = ((f / 2 ^ k % B : Nat) : Int) := by rw [Bv]; omega
     refine WC.skip ?_
     simp only [EQ]
     refine hK9 _ ?_; try clear hK9 K9
     refine WC.bs fun K10 hK10 => ?_
     refine WC.rs fun K hK => ?_
     simp only [↓EJ, EX, FA, simprocAttr]
     refine hK _ ?_; try clear hK K
     refine WC.trim [0, 1, 4, 5, 6, 7, 8, 9, 10, 11, 12, 13, 14, 15, 16, 17, 18, 19, 20, 21, 22, 23, 24, 63, 108, 116, 117, 118, 119, 120, 174, 177, 178, 179, 180, 223, 224, 225] ?_
     simp only [ET, simprocAttr]
     have xz : (z.map lb)[i]? = some (lb (z.getD i 0)) := lb_get (by omega)
     refine WC.d1 [⟨0, 0, false, []⟩, ⟨1, 0, false, []⟩, ⟨2, 0, false, []⟩, ⟨3, 0, false, []⟩, ⟨4, 0, false, []⟩, ⟨5, 0, false, []⟩, ⟨6, 0, false, []⟩, ⟨7, 0, false, []⟩, ⟨8, 0, false, []⟩, ⟨9, 0, false, []⟩, ⟨10, 0, false, []⟩, ⟨11, 0, false, []⟩, ⟨12, 0, false, []⟩, ⟨13, 0, false, []⟩, ⟨14, 0, false, []⟩, ⟨15, 0, false, []⟩, ⟨16, 0, false, []⟩, ⟨17, 0, false, []⟩, ⟨18, 0, false, []⟩, ⟨19, 1, false, []⟩] [0, 0, 0, 0, 8, 28, 60, 124, 252, 0, 0, 1536, 3584, 7680, 16380, 0, 65532, 131068, 262143, 524287] mo (by kernel_rfl) (by simp only [EPl, List.getElem?_cons_zero, List.getElem?_cons_succ]; rfl) ?_
     simp only [↓EJ, EX, FA, simprocAttr, wi, zi, x1, x2, xz, lb, c1, c2, cs, hjn, shl64_32, shrN k1, cf, wu32m, e31, List.length_map, Int.toNat_natCast]
     repeat refine And.intro (by omega) ?_
     try simp only [EQ, reduceIte, Nat.reduceEqDiff]
     refine hK10 _ ?_; try clear hK10 K10
     refine WC.r1 ?_
     simp (maxSteps := 1000000) (disch := omega) only [↓EJ, EX, FA, simprocAttr, w64, wu64]
     try simp only [EQ, reduceIte, Nat.reduceEqDiff]
     refine ⟨(i + 1, z.set i (f / 2 ^ k % B)), [0, 1, 2, 3], ⟨by dsimp only; omega, by dsimp only; simp [p2], lim_set p3 _ (Nat.mod_lt _ B_pos), hsh⟩, by dsimp only; omega, ?_⟩
     refine ⟨by simp, by simp only [EV, EB, EL, ER, ET, and_self, true_and, and_true, Nat.reduceEqDiff, reduceCtorEq, reduceIte, Int.natCast_add, lb_closedL _ _, lb_set'], by simp only [EV, EB, EL, ER, ET, and_self, true_and, and_true, Nat.reduceEqDiff, reduceCtorEq, reduceIte, Int.natCast_add, lb_closedL _ _, lb_set'], by simp only [EV, EB, EL, ER, ET, and_self, true_and, and_true, Nat.reduceEqDiff, reduceCtorEq, reduceIte, Int.natCast_add, lb_closedL _ _, lb_set', pick], rfl⟩
    ·have hge : i = n := by simp at h; omega
     subst hge
     refine WC.exit ?_
     simp only [EQ, reduceIte, Nat.reduceEqDiff]
     refine ⟨z, [0, 1, 2, 3], ⟨p2, p3, ?_⟩, ?_⟩
     ·refine rest_end k1 h1.lu (by omega) ?_ dr p2 p4
      rw [dr, ← d2]; exact Nat.lt_of_lt_of_le (Nat.mod_lt _ hV0) (Nat.le_of_lt hVB)
     ·refine ⟨by simp, by simp only [EV, EB, EL, ER, ET, and_self, true_and, and_true, Nat.reduceEqDiff, reduceCtorEq, reduceIte, lb_closedL _ _], by simp only [EV, EB, EL, ER, ET, and_self, true_and, and_true, Nat.reduceEqDiff, reduceCtorEq, reduceIte, lb_closedL _ _], by simp only [EV, EB, EL, ER, ET, and_self, true_and, and_true, Nat.reduceEqDiff, reduceCtorEq, reduceIte, lb_closedL _ _, pick], rfl⟩
  ·rintro z ⟨p1, p2, p3⟩
   have htq := trimOwn_sem' q h4 (by omega)
   have htz := trimOwn_sem' z p2 (by omega)
   rw [h3, dq] at htq
   rw [p1, p3] at htz
   refine WC.rs fun K hK => ?_
   simp only [↓EJ, EX, FA, simprocAttr]
   refine CallX.mk (CallW.ref1 (r := .l 2) (args' := [.ref (.o 0) 0 m]) htq rfl (fun f => by simp only [renB, lb_closedL _ f]) (by simp [renL, ren, fCall]) ?_)
   rintro _ ⟨kq, kq1, kq2, rfl⟩
   simp only [↓EJ, EX, FA, simprocAttr, ren, gCall, List.length_cons, List.length_nil, List.getD_cons_zero]
   refine CallX.mk (CallW.ref1 (r := .l 3) (args' := [.ref (.o 0) 0 n]) htz rfl (fun f => by simp only [renB, lb_closedL _ f]) (by simp [renL, ren, fCall]) ?_)
   rintro _ ⟨kz, kz1, kz2, rfl⟩
   simp only [↓EJ, EX, FA, simprocAttr, ren, gCall, List.length_cons, List.length_nil, List.getD_cons_zero]
   refine hK _ ?_; try clear hK K
   refine WC.trim [0, 1, 4, 5, 6, 7, 8, 9, 10, 11, 12, 13, 14, 15, 16, 17, 18, 19, 20, 21, 22, 23, 24, 63, 108, 116, 117, 118, 119, 120, 174, 177, 178, 179, 180, 223, 224, 225] ?_
   simp only [ET, simprocAttr]
   refine WC.frz 4 2 rfl rfl (by simp; omega) ?_
   refine WC.frz 5 3 rfl rfl (by simp; omega) ?_
   have eq1 : ((q.map lb).drop 0).take kq = (toL (x / y)).map lb := by rw [List.drop_zero, ← List.map_take, kq2]
   have eq2 : ((z.map lb).drop 0).take kz = (toL (x % y)).map lb := by rw [List.drop_zero, ← List.map_take, kz2]
   rw [eq1, eq2]
   refine WC.ret ?_
   simp only [↓EJ, EX, FA, simprocAttr, EQ, FnQ, Tryd.results86, wResL, tup, List.reverse_cons, List.reverse_nil, true_and]
   exact endsPure (by simp only [CL, lbs_closed, and_self]) rfl
end Go.LexSem
set_option maxHeartbeats 4000000
set_option maxRecDepth 8000
namespace Go.LexSem
open Go Go.V Go.Proofs Go.Num

/-- The limbs of a number. -/
def nv (n : Nat) : PVal := lbs (toL n)
theorem nv_closed (n : Nat) : Closed (nv n) = True := lbs_closed _
theorem nv_ren (f : Ref → Ref) (n : Nat) : ren f (nv n) = nv n := of_eq_true (nv_closed n) f
theorem nv0 : nv 0 = .slc [] := by rw [nv, toL_zero]; rfl
theorem nv_def (n : Nat) : nv n = .slc ((toL n).map lb) := rfl
/-- Numbers that are not too great for the walk. -/
def okN (n : Nat) : Prop := (toL n).length ≤ 10000
theorem okN_le {m n : Nat} (h : m ≤ n) (hn : okN n) : okN m := Nat.le_trans (len_mono h) hn
theorem trimN (n : Nat) (h : okN n) : FSem C 60 [nv n] [] fun r st => r = .ret (nv n) ∧ st = [] := by
 have := trim_sem (toL n) (lim_toL n) (Nat.le_trans h (by decide))
 rwa [val_toL] at this
theorem cmpN (a b : Nat) (ha : okN a) (hb : okN b) : FSem C 79 [nv a, nv b] [] fun r st => r = .ret (.int .i64 (cmpI a b)) ∧ st = [] := by
 have := natCmp_sem (toL a) (toL b) (lim_toL a) (lim_toL b) (Nat.le_trans ha (by decide)) (Nat.le_trans hb (by decide))
 rwa [val_toL, val_toL] at this
theorem cloneN (n : Nat) (h : okN n) : FSem C 83 [nv n] [] fun r st => r = .ret (nv n) ∧ st = [] := clone_sem _ (Nat.le_trans h (by decide))
theorem natTrimN (n : Nat) (h : okN n) : FSem C 80 [nv n] [] fun r st => r = .ret (nv n) ∧ st = [] := by
 have := natTrim_sem (toL n) (lim_toL n) (Nat.le_trans h (by decide))
 rwa [val_toL] at this

theorem cmpI_neg {a b : Nat} : cmpI a b < 0 ↔ a < b := by
 unfold cmpI
 split
 ·simp_all
 ·split <;> simp_all
theorem cmpI_zero {a b : Nat} : cmpI a b = 0 ↔ a = b := by
 unfold cmpI
 split
 ·simp; omega
 ·split <;> simp_all
theorem divMod_sem (x y : Nat) (hx : okN x) (hy : okN y) (hy0 : y ≠ 0) : FSem C 82 [nv x, nv y] [] fun r st => r = .ret (.tuple [nv (x / y), nv (x % y), .int .i64 0]) ∧ st = [] := by
 have hyl : (toL y).length ≠ 0 := fun h => hy0 (toL_eq_nil.1 (List.length_eq_zero_iff.1 h))
 refine FSem.enter' (C := C) (n := 48) Tryd.func82 rfl rfl ok_82 (by simp) ?_
 simp only [argEnv]
 refine WC.rs fun K hK => ?_
 simp only [↓EJ, EX, FA, simprocAttr]
 refine hK _ ?_; try clear hK K
 refine WC.trim [0, 1, 4, 5, 6, 7, 8, 13, 17, 24] ?_
 simp only [ET, simprocAttr]
 refine WC.rs fun K hK => ?_
 simp only [↓EJ, EX, FA, simprocAttr]
 refine CallX.mk (CallW.pure (trimN x hx) (by simp only [CL, nv_closed, lbs_closed, lb_closed, lb_closedL, and_self]) (by simp only [CL, nv_closed, lbs_closed, lb_closed, lb_closedL, and_self]) ?_)
 simp only [↓EJ, EX, FA, simprocAttr]
 refine CallX.mk (CallW.pure (trimN y hy) (by simp only [CL, nv_closed, lbs_closed, lb_closed, lb_closedL, and_self]) (by simp only [CL, nv_closed, lbs_closed, lb_closed, lb_closedL, and_self]) ?_)
 simp only [↓EJ, EX, FA, simprocAttr]
 refine hK _ ?_; try clear hK K
 refine WC.trim [0, 1, 4, 5, 6, 7, 8, 13, 17, 24] ?_
 simp only [ET, simprocAttr]
 refine WC.bs fun K1 hK1 => ?_
 refine WC.rs fun K hK => ?_
 simp only [↓EJ, EX, FA, simprocAttr, nv_def, List.length_map]
 refine hK _ ?_; try clear hK K
 refine WC.trim [0, 1, 4, 5, 6, 7, 8, 13, 17, 24] ?_
 simp only [ET, simprocAttr]
 refine WC.cond (c := .tmp 13) rfl (fun h => ?_) (fun h => ?_)
 ·simp at h; exact absurd (List.length_eq_zero_iff.2 h) hyl
 ·refine WC.rs fun K hK => ?_
  simp only [↓EJ, EX, FA, simprocAttr]
  refine CallX.mk (CallW.pure (cmpN x y hx hy) (by simp only [CL, nv_closed, lbs_closed, lb_closed, lb_closedL, and_self]) (by simp only [CL, nv_closed, lbs_closed, lb_closed, lb_closedL, and_self]) ?_)
  simp only [↓EJ, EX, FA, simprocAttr]
  refine hK _ ?_; try clear hK K
  refine WC.trim [0, 1, 4, 5, 6, 7, 8, 13, 17, 24] ?_
  simp only [ET, simprocAttr]
  refine WC.cond (c := .tmp 17) rfl (fun h => ?_) (fun h => ?_)
  ·have hlt : x < y := cmpI_neg.1 (by simpa using h)
   refine WC.rs fun K hK => ?_
   simp only [↓EJ, EX, FA, simprocAttr]
   refine CallX.mk (CallW.pure (cloneN x hx) (by simp only [CL, nv_closed, lbs_closed, lb_closed, lb_closedL, and_self]) (by simp only [CL, nv_closed, lbs_closed, lb_closed, lb_closedL, and_self]) ?_)
   simp only [↓EJ, EX, FA, simprocAttr]
   refine hK _ ?_; try clear hK K
   refine WC.trim [0, 1, 4, 5, 6, 7, 8, 13, 17, 24] ?_
   simp only [ET, simprocAttr]
   refine WC.nil0 4 rfl ?_
   refine WC.ret ?_
   simp only [↓EJ, EX, FA, simprocAttr, EQ, FnQ, Tryd.results82, wResL, tup, List.reverse_cons, List.reverse_nil, true_and]
   exact endsPure (by simp only [CL, nv_closed, lbs_closed, lb_closed, lb_closedL, and_self]) (by rw [Nat.div_eq_of_lt hlt, Nat.mod_eq_of_lt hlt, nv0])
  ·have hle : y ≤ x := by
    rcases Nat.lt_or_ge x y with h' | h'
    ·exact absurd (cmpI_neg.2 h') (by simpa using h)
    ·exact h'
   refine WC.rs fun K hK => ?_
   simp only [↓EJ, EX, FA, simprocAttr, List.length_map]
   refine hK _ ?_; try clear hK K
   refine WC.trim [0, 1, 4, 5, 6, 7, 8, 13, 17, 24] ?_
   simp only [ET, simprocAttr]
   refine WC.cond (c := .tmp 24) rfl (fun h => ?_) (fun h => ?_)
   ·have h1 : (toL y).length = 1 := by simp at h; omega
    have hyB : y < B := by
     have := nval_lt (lim_toL y)
     rwa [val_toL, h1, Nat.pow_one] at this
    have hyt : toL y = [y] := toL_lt hy0 hyB
    have hm := Nat.mod_lt x (Nat.pos_of_ne_zero hy0)
    have hs := short_sem (toL x) y (lim_toL x) (Nat.le_trans hx (by decide)) (Nat.pos_of_ne_zero hy0) hyB
    rw [val_toL] at hs
    have wm := wrapN64 (Nat.lt_trans hm (Nat.lt_trans hyB (by decide)))
    refine WC.rs fun K hK => ?_
    simp only [↓EJ, EX, FA, simprocAttr, hyt, List.map_cons, List.map_nil, gi, List.getD_cons_zero, lb_cells]
    repeat refine And.intro (by omega) ?_
    refine CallX.mk (CallW.pure hs (by simp only [CL, nv_closed, lbs_closed, lb_closed, lb_closedL, and_self]) (by simp only [CL, nv_closed, lbs_closed, lb_closed, lb_closedL, and_self]) ?_)
    simp only [↓EJ, EX, FA, simprocAttr]
    refine hK _ ?_; try clear hK K
    refine WC.trim [0, 1, 4, 5, 6, 7, 8, 13, 17, 24] ?_
    simp only [ET, simprocAttr]
    refine WC.rs fun K hK => ?_
    simp only [↓EJ, EX, FA, simprocAttr, lb, wm]
    refine CallX.mk (CallW.pure (fromUint_sem (x % y) (Nat.lt_trans hm (Nat.lt_trans hyB (by decide)))) (by simp only [CL, nv_closed, lbs_closed, lb_closed, lb_closedL, and_self]) (by simp only [CL, nv_closed, lbs_closed, lb_closed, lb_closedL, and_self]) ?_)
    simp only [↓EJ, EX, FA, simprocAttr]
    refine hK _ ?_; try clear hK K
    refine WC.trim [0, 1, 4, 5, 6, 7, 8, 13, 17, 24] ?_
    simp only [ET, simprocAttr]
    refine WC.ret ?_
    simp only [↓EJ, EX, FA, simprocAttr, EQ, FnQ, Tryd.results82, wResL, tup, List.reverse_cons, List.reverse_nil, true_and]
    exact endsPure (by simp only [CL, nv_closed, lbs_closed, lb_closed, lb_closedL, and_self]) rfl
   ·have h2 : 2 ≤ (toL y).length := by simp at h; omega
    refine WC.skip ?_
    try simp only [EQ, reduceIte, Nat.reduceEqDiff]
    refine hK1 _ ?_; try clear hK1 K1
    refine WC.rs fun K hK => ?_
    simp only [↓EJ, EX, FA, simprocAttr]
    refine CallX.mk (CallW.pure (long_sem x y hle h2 hx) (by simp only [CL, nv_closed, lbs_closed, lb_closed, lb_closedL, and_self]) (by simp only [CL, nv_closed, lbs_closed, lb_closed, lb_closedL, and_self]) ?_)
    simp only [↓EJ, EX, FA, simprocAttr]
    refine hK _ ?_; try clear hK K
    refine WC.trim [0, 1, 4, 5, 6, 7, 8, 13, 17, 24] ?_
    simp only [ET, simprocAttr]
    refine WC.rs fun K hK => ?_
    simp only [↓EJ, EX, FA, simprocAttr]
    refine hK _ ?_; try clear hK K
    refine WC.trim [0, 1, 4, 5, 6, 7, 8, 13, 17, 24] ?_
    simp only [ET, simprocAttr]
    refine WC.ret ?_
    simp only [↓EJ, EX, FA, simprocAttr, EQ, FnQ, Tryd.results82, wResL, tup, List.reverse_cons, List.reverse_nil, true_and]
    exact endsPure (by simp only [CL, nv_closed, lbs_closed, lb_closed, lb_closedL, and_self]) rfl
theorem gcd_sem (x y : Nat) (hx : okN x) (hy : okN y) : FSem C 81 [nv x, nv y] [] fun r st => r = .ret (nv (x.gcd y)) ∧ st = [] := by
 refine FSem.enter' (C := C) (n := 47) Tryd.func81 rfl rfl ok_81 (by simp) ?_
 simp only [argEnv]
 refine WC.rs fun K hK => ?_
 simp only [↓EJ, EX, FA, simprocAttr]
 refine hK _ ?_; try clear hK K
 refine WC.trim [0, 1, 4, 6, 8, 9, 21, 24, 40] ?_
 simp only [ET, simprocAttr]
 refine WC.rs fun K hK => ?_
 simp only [↓EJ, EX, FA, simprocAttr]
 refine CallX.mk (CallW.pure (natTrimN x hx) (by simp only [CL, nv_closed, lbs_closed, lb_closed, lb_closedL, and_self]) (by simp only [CL, nv_closed, lbs_closed, lb_closed, lb_closedL, and_self]) ?_)
 simp only [↓EJ, EX, FA, simprocAttr]
 refine CallX.mk (CallW.pure (natTrimN y hy) (by simp only [CL, nv_closed, lbs_closed, lb_closed, lb_closedL, and_self]) (by simp only [CL, nv_closed, lbs_closed, lb_closed, lb_closedL, and_self]) ?_)
 simp only [↓EJ, EX, FA, simprocAttr]
 refine hK _ ?_; try clear hK K
 refine WC.trim [0, 1, 4, 6, 8, 9, 21, 24, 40] ?_
 simp only [ET, simprocAttr]
 refine WC.sx (X := Nat × Nat) (fun z => z.1.gcd z.2 = x.gcd y ∧ (toL z.1).length ≤ 2 ∧ (toL z.2).length ≤ 2) (fun z => ⟨[(1, nv z.2), (0, nv z.1)], [], [], []⟩) ?_ ?_
 ·refine WC.b1 ?_
  refine WC.loop (X := Nat × Nat) (fun z => ⟨[(4, .nils), (1, nv z.2), (0, nv z.1)], [], [], []⟩) (fun z => z.1.gcd z.2 = x.gcd y ∧ okN z.1 ∧ okN z.2) (fun z => z.2) (x, y) [] ⟨rfl, hx, hy⟩ ?_ ?_
  ·refine ⟨by simp, by simp only [EV, EB, EL, ER, ET, and_self, true_and, and_true, Nat.reduceEqDiff, reduceCtorEq, reduceIte, nv_ren], by simp only [EV, EB, EL, ER, ET, and_self, true_and, and_true, Nat.reduceEqDiff, reduceCtorEq, reduceIte, nv_ren], by simp only [EV, EB, EL, ER, ET, and_self, true_and, and_true, Nat.reduceEqDiff, reduceCtorEq, reduceIte, nv_ren, pick], rfl⟩
  ·rintro ⟨a, b⟩ ⟨h1, h2, h3⟩
   dsimp only at h1 h2 h3 ⊢
   refine WC.sK fun K2 hK2 => ?_
   refine WC.rj ⟨[(21, .bool (decide (2 < (toL a).length ∨ 2 < (toL b).length))), (4, .nils), (1, nv b), (0, nv a)], [], [], []⟩ ?_ ?_
   ·by_cases ca : 2 < (toL a).length
    ·have cai : ((2 : Int) < ((toL a).length : Int)) = True := eq_true (by omega)
     simp only [↓EJ, EX, FA, simprocAttr, nv_def, List.length_map, cai, Bool.not_true]
     refine ⟨[], ?_⟩
     refine ⟨by simp, ?_, by simp only [↓EJ, EX, FA, simprocAttr, ER, lb_closedL _ _], by simp only [↓EJ, EX, FA, simprocAttr, ER, pick, lb_closedL _ _], rfl⟩
     simp only [↓EJ, EX, FA, simprocAttr, ER, and_self, lb_closedL _ _]
     simp [ca]
    ·have cai : ((2 : Int) < ((toL a).length : Int)) = False := eq_false (by omega)
     simp only [↓EJ, EX, FA, simprocAttr, nv_def, List.length_map, cai, Bool.not_false]
     refine ⟨[], ?_⟩
     refine ⟨by simp, ?_, by simp only [↓EJ, EX, FA, simprocAttr, ER, lb_closedL _ _], by simp only [↓EJ, EX, FA, simprocAttr, ER, pick, lb_closedL _ _], rfl⟩
     simp only [↓EJ, EX, FA, simprocAttr, ER, and_self, lb_closedL _ _]
     simp [ca]
     omega
   refine WC.cond (c := .tmp 21) rfl (fun h => ?_) (fun h => ?_)
   ·have hc : 2 < (toL a).length ∨ 2 < (toL b).length := by simpa using h
    refine WC.skip ?_
    try simp only [EQ, reduceIte, Nat.reduceEqDiff]
    refine hK2 _ ?_; try clear hK2 K2
    refine WC.b1 ?_
    refine WC.sK fun K3 hK3 => ?_
    refine WC.rs fun K hK => ?_
    simp only [↓EJ, EX, FA, simprocAttr, nv_def, List.length_map]
    refine hK _ ?_; try clear hK K
    refine WC.trim [0, 1, 4, 6, 8, 9, 21, 24, 40] ?_
    simp only [ET, simprocAttr]
    refine WC.cond (c := .tmp 24) rfl (fun h => ?_) (fun h => ?_)
    ·have hb0 : b = 0 := toL_eq_nil.1 (List.length_eq_zero_iff.1 (by simpa using h))
     subst hb0
     refine WC.rs fun K hK => ?_
     simp only [↓EJ, EX, FA, simprocAttr]
     refine hK _ ?_; try clear hK K
     refine WC.trim [0, 1, 4, 6, 8, 9, 21, 24, 40] ?_
     simp only [ET, simprocAttr]
     refine WC.ret ?_
     simp only [↓EJ, EX, FA, simprocAttr, EQ, FnQ, Tryd.results81, wResL, tup, List.reverse_cons, List.reverse_nil, true_and]
     refine endsPure (by simp only [CL, nv_closed, lbs_closed, lb_closed, lb_closedL, and_self]) ?_
     rw [← h1, Nat.gcd_zero_right]; rfl
    ·have hb0 : b ≠ 0 := fun e => by subst e; rw [toL_zero] at h; simp at h
     refine WC.skip ?_
     try simp only [EQ, reduceIte, Nat.reduceEqDiff]
     refine hK3 _ ?_; try clear hK3 K3
     refine WC.rs fun K hK => ?_
     simp only [↓EJ, EX, FA, simprocAttr]
     refine CallX.mk (CallW.pure (divMod_sem a b h2 h3 hb0) (by simp only [CL, nv_closed, lbs_closed, lb_closed, lb_closedL, and_self]) (by simp only [CL, nv_closed, lbs_closed, lb_closed, lb_closedL, and_self]) ?_)
     simp only [↓EJ, EX, FA, simprocAttr]
     refine hK _ ?_; try clear hK K
     refine WC.trim [0, 1, 4, 6, 8, 9, 21, 24, 40] ?_
     simp only [ET, simprocAttr]
     refine WC.r1 ?_
     simp only [↓EJ, EX, FA, simprocAttr]
     try simp only [EQ, reduceIte, Nat.reduceEqDiff]
     refine ⟨(b, a % b), [], ⟨by rw [← h1, Nat.gcd_comm a b, Nat.gcd_rec b a, Nat.gcd_comm], h3, okN_le (Nat.mod_le _ _) h2⟩, Nat.mod_lt _ (Nat.pos_of_ne_zero hb0), ?_⟩
     refine ⟨by simp, by simp only [EV, EB, EL, ER, ET, and_self, true_and, and_true, Nat.reduceEqDiff, reduceCtorEq, reduceIte, nv_def, lb_closedL _ _], by simp only [EV, EB, EL, ER, ET, and_self, true_and, and_true, Nat.reduceEqDiff, reduceCtorEq, reduceIte, nv_def, lb_closedL _ _], by simp only [EV, EB, EL, ER, ET, and_self, true_and, and_true, Nat.reduceEqDiff, reduceCtorEq, reduceIte, nv_def, lb_closedL _ _, pick], rfl⟩
   ·have hc : ¬ (2 < (toL a).length ∨ 2 < (toL b).length) := by simpa using h
    refine WC.exit ?_
    simp only [EQ, reduceIte, Nat.reduceEqDiff]
    refine ⟨(a, b), [], ⟨h1, by dsimp only; omega, by dsimp only; omega⟩, ?_⟩
    refine ⟨by simp, by simp only [EV, EB, EL, ER, ET, and_self, true_and, and_true, Nat.reduceEqDiff, reduceCtorEq, reduceIte, nv_ren], by simp only [EV, EB, EL, ER, ET, and_self, true_and, and_true, Nat.reduceEqDiff, reduceCtorEq, reduceIte, nv_ren], by simp only [EV, EB, EL, ER, ET, and_self, true_and, and_true, Nat.reduceEqDiff, reduceCtorEq, reduceIte, nv_ren, pick], rfl⟩
 ·rintro ⟨a, b⟩ ⟨h1, h2, h3⟩
  dsimp only at h1 h2 h3 ⊢
  have ha := toUint_sem (toL a) (lim_toL a) h2
  have hb := toUint_sem (toL b) (lim_toL b) h3
  have ea := nval_lt (lim_toL a)
  have eb := nval_lt (lim_toL b)
  have p2 : ∀ n : Nat, n ≤ 2 → B ^ n ≤ 18446744073709551616 := fun n hn => Nat.le_trans (Nat.pow_le_pow_right B_pos hn) (by decide)
  have la := p2 _ h2
  have lb := p2 _ h3
  rw [val_toL] at ha hb ea eb
  refine WC.rs fun K hK => ?_
  simp only [↓EJ, EX, FA, simprocAttr]
  refine CallX.mk (CallW.pure ha (by simp only [CL, nv_closed, lbs_closed, lb_closed, lb_closedL, and_self]) (by simp only [CL, nv_closed, lbs_closed, lb_closed, lb_closedL, and_self]) ?_)
  simp only [↓EJ, EX, FA, simprocAttr]
  refine CallX.mk (CallW.pure hb (by simp only [CL, nv_closed, lbs_closed, lb_closed, lb_closedL, and_self]) (by simp only [CL, nv_closed, lbs_closed, lb_closed, lb_closedL, and_self]) ?_)
  simp only [↓EJ, EX, FA, simprocAttr]
  refine hK _ ?_; try clear hK K
  refine WC.trim [0, 1, 4, 6, 8, 9, 21, 24, 40] ?_
  simp only [ET, simprocAttr]
  refine WC.sx (X := Nat) (fun z => z = x.gcd y ∧ z < 18446744073709551616) (fun z => ⟨[(8, .int .u64 z)], [], [], []⟩) ?_ ?_
  ·refine WC.b1 ?_
   refine WC.loop (X := Nat × Nat) (fun z => ⟨[(9, .int .u64 z.2), (8, .int .u64 z.1)], [], [], []⟩) (fun z => z.1.gcd z.2 = x.gcd y ∧ z.1 < 18446744073709551616 ∧ z.2 < 18446744073709551616) (fun z => z.2) (a, b) [] ⟨h1, by omega, by omega⟩ ?_ ?_
   ·refine ⟨by simp, by simp only [EV, EB, EL, ER, ET, and_self, true_and, and_true, Nat.reduceEqDiff, reduceCtorEq, reduceIte], by simp only [EV, EB, EL, ER, ET, and_self, true_and, and_true, Nat.reduceEqDiff, reduceCtorEq, reduceIte], by simp only [EV, EB, EL, ER, ET, and_self, true_and, and_true, Nat.reduceEqDiff, reduceCtorEq, reduceIte, pick], rfl⟩
   ·rintro ⟨a, b⟩ ⟨h1, h2, h3⟩
    dsimp only at h1 h2 h3 ⊢
    refine WC.sK fun K5 hK5 => ?_
    refine WC.rs fun K hK => ?_
    simp only [↓EJ, EX, FA, simprocAttr]
    refine hK _ ?_; try clear hK K
    refine WC.trim [0, 1, 4, 6, 8, 9, 21, 24, 40] ?_
    simp only [ET, simprocAttr]
    refine WC.cond (c := .tmp 40) rfl (fun h => ?_) (fun h => ?_)
    ·have hb0 : b ≠ 0 := fun e => by subst e; simp at h
     have hbi : ((b : Int) = 0) = False := eq_false (by omega)
     refine WC.skip ?_
     try simp only [EQ, reduceIte, Nat.reduceEqDiff]
     refine hK5 _ ?_; try clear hK5 K5
     refine WC.b1 ?_
     have wm := wrapN64 (Nat.lt_trans (Nat.mod_lt a (Nat.pos_of_ne_zero hb0)) h3)
     refine WC.d1 [⟨0, 0, false, []⟩, ⟨1, 0, false, []⟩, ⟨2, 0, false, []⟩, ⟨3, 0, false, []⟩, ⟨4, 0, false, []⟩, ⟨5, 0, false, []⟩] [0, 0, 0, 6, 3, 31] mo (by kernel_rfl) (by simp only [EPl, List.getElem?_cons_zero, List.getElem?_cons_succ]; rfl) ?_
     simp only [↓EJ, EX, FA, simprocAttr, hbi, tmodN]
     repeat refine And.intro (by omega) ?_
     try simp only [EQ, reduceIte, Nat.reduceEqDiff]
     refine ⟨(b, a % b), [], ⟨by rw [← h1, Nat.gcd_comm a b, Nat.gcd_rec b a, Nat.gcd_comm], h3, Nat.lt_trans (Nat.mod_lt a (Nat.pos_of_ne_zero hb0)) h3⟩, Nat.mod_lt _ (Nat.pos_of_ne_zero hb0), ?_⟩
     refine ⟨by simp, by simp only [EV, EB, EL, ER, ET, and_self, true_and, and_true, Nat.reduceEqDiff, reduceCtorEq, reduceIte], by simp only [EV, EB, EL, ER, ET, and_self, true_and, and_true, Nat.reduceEqDiff, reduceCtorEq, reduceIte], by simp only [EV, EB, EL, ER, ET, and_self, true_and, and_true, Nat.reduceEqDiff, reduceCtorEq, reduceIte, pick], rfl⟩
    ·have hb0 : b = 0 := by simp at h; omega
     subst hb0
     refine WC.exit ?_
     simp only [EQ, reduceIte, Nat.reduceEqDiff]
     refine ⟨a, [], ⟨by rw [← h1, Nat.gcd_zero_right], h2⟩, ?_⟩
     refine ⟨by simp, by simp only [EV, EB, EL, ER, ET, and_self, true_and, and_true, Nat.reduceEqDiff, reduceCtorEq, reduceIte], by simp only [EV, EB, EL, ER, ET, and_self, true_and, and_true, Nat.reduceEqDiff, reduceCtorEq, reduceIte], by simp only [EV, EB, EL, ER, ET, and_self, true_and, and_true, Nat.reduceEqDiff, reduceCtorEq, reduceIte, pick], rfl⟩
  ·rintro z ⟨rfl, hz⟩
   refine WC.rs fun K hK => ?_
   simp only [↓EJ, EX, FA, simprocAttr]
   refine CallX.mk (CallW.pure (fromUint_sem _ hz) (by simp only [CL, nv_closed, lbs_closed, lb_closed, lb_closedL, and_self]) (by simp only [CL, nv_closed, lbs_closed, lb_closed, lb_closedL, and_self]) ?_)
   simp only [↓EJ, EX, FA, simprocAttr]
   refine hK _ ?_; try clear hK K
   refine WC.trim [0, 1, 4, 6, 8, 9, 21, 24, 40] ?_
   simp only [ET, simprocAttr]
   refine WC.ret ?_
   simp only [↓EJ, EX, FA, simprocAttr, EQ, FnQ, Tryd.results81, wResL, tup, List.reverse_cons, List.reverse_nil, true_and]
   exact endsPure (by simp only [CL, nv_closed, lbs_closed, lb_closed, lb_closedL, and_self]) rfl
end Go.LexSem
set_option maxHeartbeats 4000000
set_option maxRecDepth 8000
namespace Go.LexSem
open Go Go.V Go.Proofs Go.Num

theorem isZero_sem (n : Nat) (h : okN n) : FSem C 73 [nv n] [] fun r st => r = .ret (.bool (decide (n = 0))) ∧ st = [] := by
 have hc : FSem C 79 [nv n, .nils] [] fun r st => r = .ret (.int .i64 (cmpI n 0)) ∧ st = [] :=
  (cmpN n 0 h (by simp [okN, toL_zero])).weak ⟨.inl rfl, .inr ⟨rfl, nv0⟩, trivial⟩
 refine FSem.enter' (C := C) (n := 6) Tryd.func73 rfl rfl ok_73 (by simp) ?_
 simp only [argEnv]
 refine WC.rs fun K hK => ?_
 simp only [↓EJ, EX, FA, simprocAttr]
 refine hK _ ?_; try clear hK K
 refine WC.trim [0, 2] ?_
 simp only [ET, simprocAttr]
 refine WC.rs fun K hK => ?_
 simp only [↓EJ, EX, FA, simprocAttr]
 refine CallX.mk (CallW.pure hc (by simp only [CL, nv_closed, lbs_closed, lb_closed, lb_closedL, and_self]) (by simp only [CL, nv_closed, lbs_closed, lb_closed, lb_closedL, and_self]) ?_)
 simp only [↓EJ, EX, FA, simprocAttr]
 refine hK _ ?_; try clear hK K
 refine WC.trim [0, 2] ?_
 simp only [ET, simprocAttr]
 refine WC.ret ?_
 simp only [↓EJ, EX, FA, simprocAttr, EQ, FnQ, Tryd.results73, wResL, tup, List.reverse_cons, List.reverse_nil, true_and]
 refine endsPure (by simp only [CL, nv_closed, lbs_closed, lb_closed, lb_closedL, and_self]) ?_
 simp [cmpI_zero]

/-- A number as the program keeps it: nil where it is zero. -/
def numV (n : Nat) : PVal := if n = 0 then .nils else nv n
theorem numV_closed (n : Nat) : Closed (numV n) = True := by
 unfold numV; split
 ·exact eq_true (fun _ => rfl)
 ·exact nv_closed n
/-- A fraction. -/
def fracV (neg : Bool) (n d : Nat) : PVal := .agg [.bool neg, numV n, nv d]
theorem fracV_closed (neg : Bool) (n d : Nat) : Closed (fracV neg n d) := by
 have h : Closed (fracV neg n d) = True := by simp only [fracV, CL, numV_closed, nv_closed, and_self]
 exact of_eq_true h
theorem fracV_solid (neg : Bool) (n d : Nat) : (fracV neg n d).solid = true := by
 unfold fracV numV nv lbs; split <;> rfl
theorem fracV_cells (neg : Bool) (n d : Nat) : (fracV neg n d).cells = [.bool neg, numV n, nv d] := by
 unfold fracV numV nv lbs; split <;> rfl
theorem reduce_sem (neg : Bool) (x y : Nat) (hx : okN x) (hy : okN y) (hy0 : y ≠ 0) : FSem C 74 [.bool neg, nv x, nv y] [] fun r st => r = .ret (fracV (neg && decide (x ≠ 0)) (x / x.gcd y) (y / x.gcd y)) ∧ st = [] := by
 refine FSem.enter' (C := C) (n := 50) Tryd.func74 rfl rfl ok_74 (by simp) ?_
 simp only [argEnv]
 refine WC.rs fun K hK => ?_
 simp only [↓EJ, EX, FA, simprocAttr]
 refine hK _ ?_; try clear hK K
 refine WC.trim [0, 1, 2, 6, 7, 14, 29] ?_
 simp only [ET, simprocAttr]
 refine WC.rs fun K hK => ?_
 simp only [↓EJ, EX, FA, simprocAttr]
 refine CallX.mk (CallW.pure (natTrimN x hx) (by simp only [CL, nv_closed, lbs_closed, lb_closed, lb_closedL, and_self]) (by simp only [CL, nv_closed, lbs_closed, lb_closed, lb_closedL, and_self]) ?_)
 simp only [↓EJ, EX, FA, simprocAttr]
 refine CallX.mk (CallW.pure (natTrimN y hy) (by simp only [CL, nv_closed, lbs_closed, lb_closed, lb_closedL, and_self]) (by simp only [CL, nv_closed, lbs_closed, lb_closed, lb_closedL, and_self]) ?_)
 simp only [↓EJ, EX, FA, simprocAttr]
 refine hK _ ?_; try clear hK K
 refine WC.trim [0, 1, 2, 6, 7, 14, 29] ?_
 simp only [ET, simprocAttr]
 refine WC.sK fun K1 hK1 => ?_
 refine WC.rs fun K hK => ?_
 simp only [↓EJ, EX, FA, simprocAttr, nv_def, List.length_map]
 refine hK _ ?_; try clear hK K
 refine WC.trim [0, 1, 2, 6, 7, 14, 29] ?_
 simp only [ET, simprocAttr]
 refine WC.cond (c := .tmp 14) rfl (fun h => ?_) (fun h => ?_)
 ·have hx0 : x = 0 := toL_eq_nil.1 (List.length_eq_zero_iff.1 (by simpa using h))
  subst hx0
  refine WC.zs [0] (by simp only [cutZ, List.drop_zero, List.drop_succ_cons, List.take_zero, List.take_succ_cons, Option.map_some]; rfl) fun K hK => ?_
  simp only [↓EJ, EX, FA, simprocAttr, EZ]
  refine hK _ ?_; try clear hK K
  refine WC.trim [0, 1, 2, 6, 7, 14, 29] ?_
  simp only [ET, simprocAttr]
  refine WC.ret ?_
  simp only [↓EJ, EX, FA, simprocAttr, EQ, FnQ, Tryd.results74, wResL, tup, List.reverse_cons, List.reverse_nil, true_and]
  refine endsPure (by simp only [fracV, CL, numV_closed, nv_closed, and_self]) ?_
  rw [fracV, Nat.gcd_zero_left, Nat.div_self (Nat.pos_of_ne_zero hy0), Nat.zero_div, numV, if_pos rfl, nv, toL_lt (by decide) (by decide)]
  simp [lbs, lb]
 ·have hx0 : x ≠ 0 := fun e => by subst e; rw [toL_zero] at h; simp at h
  refine WC.skip ?_
  try simp only [EQ, reduceIte, Nat.reduceEqDiff]
  refine hK1 _ ?_; try clear hK1 K1
  refine WC.rs fun K hK => ?_
  simp only [↓EJ, EX, FA, simprocAttr]
  refine CallX.mk (CallW.pure (gcd_sem x y hx hy) (by simp only [CL, nv_closed, lbs_closed, lb_closed, lb_closedL, and_self]) (by simp only [CL, nv_closed, lbs_closed, lb_closed, lb_closedL, and_self]) ?_)
  simp only [↓EJ, EX, FA, simprocAttr]
  refine hK _ ?_; try clear hK K
  refine WC.trim [0, 1, 2, 6, 7, 14, 29] ?_
  simp only [ET, simprocAttr]
  have hg0 : x.gcd y ≠ 0 := fun e => hx0 (Nat.eq_zero_of_gcd_eq_zero_left e)
  have hg1 : 1 ≤ (toL (x.gcd y)).length := by
   have : toL (x.gcd y) ≠ [] := fun e => hg0 (toL_eq_nil.1 e)
   have := List.length_pos_iff.2 this
   omega
  have hgx := Nat.gcd_dvd_left x y
  have hgy := Nat.gcd_dvd_right x y
  have hok := okN_le (Nat.gcd_le_left y (Nat.pos_of_ne_zero hx0)) hx
  have hxg : x / x.gcd y ≠ 0 := fun e => by
   have := Nat.div_mul_cancel hgx
   rw [e, Nat.zero_mul] at this
   exact hx0 this.symm
  generalize x.gcd y = g at *
  refine WC.sx (X := Unit) (fun _ => True) (fun _ => ⟨[(2, nv (y / g)), (1, nv (x / g)), (6, .ptr (.l 0) 0 0), (0, .bool neg)], [], [.row [.agg [.bool false, .nils, .nils]] 3 150], []⟩) ?_ ?_
  ·refine WC.sx (X := Unit) (fun _ => True) (fun _ => ⟨[(29, .bool (decide (g ≠ 1))), (7, nv g), (2, nv y), (1, nv x), (6, .ptr (.l 0) 0 0), (0, .bool neg)], [], [.row [.agg [.bool false, .nils, .nils]] 3 150], []⟩) ?_ ?_
   ·by_cases c1 : (toL g).length = 1
    ·have hgB : g < B := by
      have := nval_lt (lim_toL g)
      rwa [val_toL, c1, Nat.pow_one] at this
     have hgt : toL g = [g] := toL_lt hg0 hgB
     refine WC.r1 ?_
     simp only [↓EJ, EX, FA, simprocAttr, nv_def, hgt, List.map_cons, List.map_nil, List.length_cons, List.length_nil, Bool.not_true, Bool.not_false, gi, List.getD_cons_zero, lb]
     try simp only [EQ, reduceIte, Nat.reduceEqDiff]
     first | refine ⟨(), [0], trivial, ?_⟩ | refine ⟨(), [0], ?_⟩
     refine ⟨by simp, ?_, by simp only [↓EJ, EX, FA, simprocAttr, ER, nv_def, hgt, List.map_cons, List.map_nil, lb_closedL _ _, lb], by simp only [↓EJ, EX, FA, simprocAttr, ER, pick, nv_def, hgt, List.map_cons, List.map_nil, lb_closedL _ _, lb], rfl⟩
     simp only [↓EJ, EX, FA, simprocAttr, ER, and_self, nv_def, hgt, List.map_cons, List.map_nil, lb_closedL _ _, lb]
     simp
     omega
    ·have c1i : (((toL g).length : Int) = 1) = False := eq_false (by omega)
     have hg1' : g ≠ 1 := fun e => by subst e; rw [toL_lt (by decide) (by decide)] at c1; simp at c1
     refine WC.r1 ?_
     simp only [↓EJ, EX, FA, simprocAttr, nv_def, List.length_map, c1i, Bool.not_true, Bool.not_false]
     try simp only [EQ, reduceIte, Nat.reduceEqDiff]
     first | refine ⟨(), [0], trivial, ?_⟩ | refine ⟨(), [0], ?_⟩
     refine ⟨by simp, ?_, by simp only [↓EJ, EX, FA, simprocAttr, ER, nv_def, lb_closedL _ _], by simp only [↓EJ, EX, FA, simprocAttr, ER, pick, nv_def, lb_closedL _ _], rfl⟩
     simp only [↓EJ, EX, FA, simprocAttr, ER, and_self, nv_def, lb_closedL _ _]
     simp [hg1']
   ·rintro _ _
    refine WC.cond (c := .tmp 29) rfl (fun h => ?_) (fun h => ?_)
    ·refine WC.rs fun K hK => ?_
     simp only [↓EJ, EX, FA, simprocAttr]
     refine CallX.mk (CallW.pure (divMod_sem x g hx hok hg0) (by simp only [CL, nv_closed, lbs_closed, lb_closed, lb_closedL, and_self]) (by simp only [CL, nv_closed, lbs_closed, lb_closed, lb_closedL, and_self]) ?_)
     simp only [↓EJ, EX, FA, simprocAttr]
     refine hK _ ?_; try clear hK K
     refine WC.trim [0, 1, 2, 6, 7, 14, 29] ?_
     simp only [ET, simprocAttr]
     refine WC.r1 ?_
     simp only [↓EJ, EX, FA, simprocAttr]
     refine CallX.mk (CallW.pure (divMod_sem y g hy hok hg0) (by simp only [CL, nv_closed, lbs_closed, lb_closed, lb_closedL, and_self]) (by simp only [CL, nv_closed, lbs_closed, lb_closed, lb_closedL, and_self]) ?_)
     simp only [↓EJ, EX, FA, simprocAttr]
     try simp only [EQ, reduceIte, Nat.reduceEqDiff]
     first | refine ⟨(), [0], trivial, ?_⟩ | refine ⟨(), [0], ?_⟩
     refine ⟨by simp, by simp only [EV, EB, EL, ER, ET, and_self, true_and, and_true, Nat.reduceEqDiff, reduceCtorEq, reduceIte, nv_def, lb_closedL _ _], by simp only [EV, EB, EL, ER, ET, and_self, true_and, and_true, Nat.reduceEqDiff, reduceCtorEq, reduceIte, nv_def, lb_closedL _ _], by simp only [EV, EB, EL, ER, ET, and_self, true_and, and_true, Nat.reduceEqDiff, reduceCtorEq, reduceIte, nv_def, lb_closedL _ _, pick], rfl⟩
    ·have hg1' : g = 1 := by simpa using h
     subst hg1'
     refine WC.skip ?_
     try simp only [EQ, reduceIte, Nat.reduceEqDiff]
     first | refine ⟨(), [0], trivial, ?_⟩ | refine ⟨(), [0], ?_⟩
     refine ⟨by simp, by simp only [EV, EB, EL, ER, ET, and_self, true_and, and_true, Nat.reduceEqDiff, reduceCtorEq, reduceIte, Nat.div_one, nv_def, lb_closedL _ _], by simp only [EV, EB, EL, ER, ET, and_self, true_and, and_true, Nat.reduceEqDiff, reduceCtorEq, reduceIte, Nat.div_one, nv_def, lb_closedL _ _], by simp only [EV, EB, EL, ER, ET, and_self, true_and, and_true, Nat.reduceEqDiff, reduceCtorEq, reduceIte, Nat.div_one, nv_def, lb_closedL _ _, pick], rfl⟩
  ·rintro _ _
   refine WC.rs fun K hK => ?_
   simp only [↓EJ, EX, FA, simprocAttr, nv_def]
   refine hK _ ?_; try clear hK K
   refine WC.trim [0, 1, 2, 6, 7, 14, 29] ?_
   simp only [ET, simprocAttr]
   refine WC.ret ?_
   simp only [↓EJ, EX, FA, simprocAttr, EQ, FnQ, Tryd.results74, wResL, tup, List.reverse_cons, List.reverse_nil, true_and]
   exact endsPure (by simp only [fracV, CL, ← nv_def, numV_closed, nv_closed, and_self]) (by simp [fracV, hx0, numV, hxg, nv_def])
theorem rat_sem (b : Bool) (n d : Nat) : FSem C 75 [fracV b n d] [] fun r st => r = .ret (fracV b n d) ∧ st = [] := by
 have hc := fracV_closed b n d
 revert hc
 unfold fracV numV
 by_cases h : n = 0
 ·intro hc
  simp only [h, if_true] at hc ⊢
  refine FSem.enter' (C := C) (n := 13) Tryd.func75 rfl rfl ok_75 (by simp) ?_
  simp only [argEnv]
  refine WC.rs fun K hK => ?_
  simp only [↓EJ, EX, FA, simprocAttr, nv_def]
  refine hK _ ?_; try clear hK K
  refine WC.trim [0, 1, 2] ?_
  simp only [ET, simprocAttr]
  refine WC.rs fun K hK => ?_
  simp only [↓EJ, EX, FA, simprocAttr]
  refine hK _ ?_; try clear hK K
  refine WC.trim [0, 1, 2] ?_
  simp only [ET, simprocAttr]
  refine WC.ret ?_
  simp only [↓EJ, EX, FA, simprocAttr, EQ, FnQ, Tryd.results75, wResL, tup, List.reverse_cons, List.reverse_nil, true_and]
  exact endsPure hc rfl
 ·intro hc
  simp only [h, if_false] at hc ⊢
  refine FSem.enter' (C := C) (n := 13) Tryd.func75 rfl rfl ok_75 (by simp) ?_
  simp only [argEnv]
  refine WC.rs fun K hK => ?_
  simp only [↓EJ, EX, FA, simprocAttr, nv_def]
  refine hK _ ?_; try clear hK K
  refine WC.trim [0, 1, 2] ?_
  simp only [ET, simprocAttr]
  refine WC.rs fun K hK => ?_
  simp only [↓EJ, EX, FA, simprocAttr]
  refine hK _ ?_; try clear hK K
  refine WC.trim [0, 1, 2] ?_
  simp only [ET, simprocAttr]
  refine WC.ret ?_
  simp only [↓EJ, EX, FA, simprocAttr, EQ, FnQ, Tryd.results75, wResL, tup, List.reverse_cons, List.reverse_nil, true_and]
  exact endsPure hc rfl
theorem make_sem (neg : Bool) (x y : Nat) (hx : okN x) (hy : okN y) : FSem C 66 [.bool neg, nv x, nv y] [] fun r st =>
 r = .ret (.tuple (if y = 0 then [.agg [.bool false, .nils, .nils], .int .i64 3] else [fracV (neg && decide (x ≠ 0)) (x / x.gcd y) (y / x.gcd y), .int .i64 0])) ∧ st = [] := by
 refine FSem.enter' (C := C) (n := 16) Tryd.func66 rfl rfl ok_66 (by simp) ?_
 simp only [argEnv]
 refine WC.rs fun K hK => ?_
 simp only [↓EJ, EX, FA, simprocAttr]
 refine hK _ ?_; try clear hK K
 refine WC.trim [0, 1, 2, 6, 7, 9] ?_
 simp only [ET, simprocAttr]
 refine WC.sK fun K1 hK1 => ?_
 refine WC.rs fun K hK => ?_
 simp only [↓EJ, EX, FA, simprocAttr]
 refine CallX.mk (CallW.pure (isZero_sem y hy) (by simp only [CL, nv_closed, lbs_closed, lb_closed, lb_closedL, and_self]) (by simp only [CL, nv_closed, lbs_closed, lb_closed, lb_closedL, and_self]) ?_)
 simp only [↓EJ, EX, FA, simprocAttr]
 refine hK _ ?_; try clear hK K
 refine WC.trim [0, 1, 2, 6, 7, 9] ?_
 simp only [ET, simprocAttr]
 refine WC.cond (c := .tmp 9) rfl (fun h => ?_) (fun h => ?_)
 ·have hy0 : y = 0 := by simpa using h
  refine WC.rs fun K hK => ?_
  simp only [↓EJ, EX, FA, simprocAttr]
  refine hK _ ?_; try clear hK K
  refine WC.trim [0, 1, 2, 6, 7, 9] ?_
  simp only [ET, simprocAttr]
  refine WC.ret ?_
  simp only [↓EJ, EX, FA, simprocAttr, EQ, FnQ, Tryd.results66, wResL, tup, List.reverse_cons, List.reverse_nil, true_and]
  exact endsPure (by rw [if_pos hy0]; simp only [CL, and_self]) (by simp [hy0])
 ·have hy0 : y ≠ 0 := by simpa using h
  refine WC.skip ?_
  try simp only [EQ, reduceIte, Nat.reduceEqDiff]
  refine hK1 _ ?_; try clear hK1 K1
  have hr := reduce_sem neg x y hx hy hy0
  have hfc := fracV_closed (neg && decide (x ≠ 0)) (x / x.gcd y) (y / x.gcd y)
  have hrat := rat_sem (neg && decide (x ≠ 0)) (x / x.gcd y) (y / x.gcd y)
  rw [if_neg hy0]
  have hfs := fracV_solid (neg && decide (x ≠ 0)) (x / x.gcd y) (y / x.gcd y)
  have hfl := fracV_cells (neg && decide (x ≠ 0)) (x / x.gcd y) (y / x.gcd y)
  have hfd : fracV (neg && decide (x ≠ 0)) (x / x.gcd y) (y / x.gcd y) = .agg [.bool (neg && decide (x ≠ 0)), numV (x / x.gcd y), nv (y / x.gcd y)] := rfl
  generalize hF : fracV (neg && decide (x ≠ 0)) (x / x.gcd y) (y / x.gcd y) = fr at *
  refine WC.rs fun K hK => ?_
  simp only [↓EJ, EX, FA, simprocAttr]
  refine CallX.mk (CallW.pure hr (by simp only [CL, nv_closed, lbs_closed, lb_closed, lb_closedL, and_self]) hfc ?_)
  simp only [↓EJ, EX, FA, simprocAttr]
  refine CallX.mk (CallW.pure hrat (by simp only [CL, hfc, and_self]) hfc ?_)
  simp only [↓EJ, EX, FA, simprocAttr, hfs, hfl, List.length_cons, List.length_nil, List.drop_succ_cons, List.drop_zero, List.append_nil, and_true, true_and]
  refine hK _ ?_; try clear hK K
  refine WC.trim [0, 1, 2, 6, 7, 9] ?_
  simp only [ET, simprocAttr]
  refine WC.ret ?_
  simp only [↓EJ, EX, FA, simprocAttr, EQ, FnQ, Tryd.results66, wResL, tup, List.reverse_cons, List.reverse_nil, true_and]
  exact endsPure (by simp only [CL, hfc, ← hfd, and_self]) (by rw [hfd])
end Go.LexSem
