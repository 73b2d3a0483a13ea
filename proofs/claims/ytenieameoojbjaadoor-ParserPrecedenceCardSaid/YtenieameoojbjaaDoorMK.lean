/-
 Texts joined: ParP ParQ ParR ParS ParT ParU.
-/
import Derived.Test.YtenieameoojbjaaDoorMJ
import Derived.Test.YtenieameoojbjaaDoorMD
set_option linter.unusedVariables false
set_option linter.unusedSimpArgs false
set_option linter.loopingSimpArgs false
set_option maxHeartbeats 4000000
set_option maxRecDepth 8000
namespace Go.LexSem
open Go Go.V Go.Proofs Go.Num

theorem pAll (ts : List Tok) : ∀ n, PAll ts n := fun n => by
 induction n using Nat.strongRecOn with
 | _ n ih =>
   cases n with
   | zero =>
     exact ⟨fun s _ h => by omega, fun l s hl _ h => by omega, fun l s hl _ h => by omega, fun s _ h => by omega, fun s _ h => by omega, fun s _ h => by omega, fun s _ h => by omega⟩
   | succ n =>
     have H : ∀ m, m ≤ n → PAll ts m := fun m hm => ih m (by omega)
     have Hn := H n (Nat.le_refl n)
     exact ⟨fun s i h => expr_step ts n Hn s i h, fun l s hl i h => left_step ts n H l hl s i h, fun l s hl i h => operand_step ts n Hn l hl s i h, fun s i h => cmp_step ts n Hn s i h,
      fun s i h => unary_step ts n H s i h, fun s i h => primary_step ts n Hn s i h, fun s i h => exprs_step ts n H s i h⟩
/-- Enough fuel for what stands behind. -/
def fuel (ts : List Tok) (s : PS) : Nat := 40 * rem ts s + 36
def exprG (ts : List Tok) (s : PS) : PR Ex := exprF ts (fuel ts s) s
def exprsG (ts : List Tok) (s : PS) : PR (List Ex) := exprsF ts (fuel ts s) s
theorem expr_sem (ts : List Tok) (s : PS) (i : PInv ts s) : PSem 46 [] ts s (exprG ts s) exV := (pAll ts _).expr s i (by unfold fuel; omega)
theorem exprs_sem (ts : List Tok) (s : PS) (i : PInv ts s) : PSem 50 [] ts s (exprsG ts s) exsV := (pAll ts _).exprs s i (by unfold fuel; omega)
theorem expr_up {ts : List Tok} {s s' : PS} {e : Ex} (i : PInv ts s) (h : exprG ts s = .ok (e, s')) : Up ts s s' := (xInv ts _).expr i h
theorem exprs_up {ts : List Tok} {s s' : PS} {e : List Ex} (i : PInv ts s) (h : exprsG ts s = .ok (e, s')) : Up ts s s' := ((xInv ts _).exprs i h).1
theorem exprs_ne {ts : List Tok} {s s' : PS} {e : List Ex} (i : PInv ts s) (h : exprsG ts s = .ok (e, s')) : e ≠ [] := ((xInv ts _).exprs i h).2.1
end Go.LexSem
-- CLOSERS: PCL, TCL
set_option maxHeartbeats 8000000
set_option maxRecDepth 8000
namespace Go.LexSem
open Go Go.V Go.Proofs Go.Num

/-! ### Types as trees -/
inductive Ty where
 | mk (kind : Nat) (low high : Int) (max : Nat) (elems : List Ty)
mutual
def tyC : Ty → List PVal
 | .mk k lo hi m es => [.int .i64 k, .int .i64 lo, .int .i64 hi, .int .i64 m, tysV es]
def tyL : List Ty → List PVal
 | [] => []
 | e :: es => .agg (tyC e) :: tyL es
def tysV : List Ty → PVal
 | [] => .nils
 | e :: es => .slc (.agg (tyC e) :: tyL es)
end
def tyV (e : Ty) : PVal := .agg (tyC e)
theorem tyL_map : ∀ es : List Ty, tyL es = es.map tyV
 | [] => by simp [tyL]
 | e :: es => by simp [tyL, tyL_map es, tyV]
theorem tysV_nil : tysV [] = .nils := by simp [tysV]
theorem tysV_ne {es : List Ty} (h : es ≠ []) : tysV es = .slc (es.map tyV) := by
 cases es with
 | nil => exact absurd rfl h
 | cons e es => simp [tysV, tyL_map, tyV]
theorem tyV_mk (k : Nat) (lo hi : Int) (m : Nat) (es : List Ty) : tyV (.mk k lo hi m es) = .agg [.int .i64 k, .int .i64 lo, .int .i64 hi, .int .i64 m, tysV es] := by simp [tyV, tyC]
theorem tyC_len (e : Ty) : (tyC e).length = 5 := by cases e; simp [tyC]
mutual
theorem tyC_closed : ∀ e : Ty, ClosedL (tyC e)
 | .mk k lo hi m es => by
   have h := tysV_closed es
   have : ClosedL (tyC (.mk k lo hi m es)) = True := by simp only [tyC, CL, eq_true h, and_self]
   exact of_eq_true this
theorem tyL_closed : ∀ es : List Ty, ClosedL (tyL es)
 | [] => by simp only [tyL]; exact .nil
 | e :: es => by
   simp only [tyL]
   exact .cons (.agg (tyC_closed e)) (tyL_closed es)
theorem tysV_closed : ∀ es : List Ty, Closed (tysV es)
 | [] => by simp only [tysV]; exact fun _ => rfl
 | e :: es => by
   simp only [tysV]
   exact .slc (.cons (.agg (tyC_closed e)) (tyL_closed es))
end
theorem tyV_closed (e : Ty) : Closed (tyV e) := .agg (tyC_closed e)
theorem TCL : (∀ e, Closed (tyV e) = True) ∧ (∀ e, ClosedL (tyC e) = True) ∧ (∀ es, Closed (tysV es) = True) ∧ (∀ es : List Ty, ClosedL (es.map tyV) = True) :=
 ⟨fun e => eq_true (tyV_closed e), fun e => eq_true (tyC_closed e), fun es => eq_true (tysV_closed es), fun es => eq_true (ClosedL.map (fun e => tyV_closed e) es)⟩
theorem TRN : (∀ f e, renL f (tyC e) = tyC e) ∧ (∀ f es, ren f (tysV es) = tysV es) ∧ (∀ f (es : List Ty), renL f (es.map tyV) = es.map tyV) :=
 ⟨fun f e => tyC_closed e f, fun f es => tysV_closed es f, fun f es => ClosedL.map (fun e => tyV_closed e) es f⟩
theorem TS : (∀ e, tyV e = .agg (tyC e)) ∧ (∀ e, (tyC e).length = 5) ∧ (∀ e, List.take 5 (tyC e) = tyC e) ∧ (∀ e, List.drop 5 (tyC e) = []) ∧ (∀ cs, (PVal.agg cs).solid = true) ∧ (∀ l, (tysV l).solid = true) ∧ (∀ l, (tysV l).cells = [tysV l]) :=
 ⟨fun _ => rfl, tyC_len, fun e => List.take_of_length_le (by rw [tyC_len]; exact Nat.le_refl _), fun e => List.drop_of_length_le (by rw [tyC_len]; exact Nat.le_refl _), fun _ => rfl,
  fun l => by cases l <;> simp only [tysV] <;> rfl, fun l => by cases l <;> simp only [tysV] <;> rfl⟩
mutual
def typF (ts : List Tok) : Nat → PS → PR Ty
 | 0, _ => .error noEr
 | n + 1, s => bnd (acceptF ts [98, 111, 111, 108] s) fun b s => match b with
   | true => .ok (.mk 1 0 0 0 [], s)
   | false => bnd (acceptF ts [110, 97, 116] s) fun b s => match b with
     | true => .ok (.mk 3 0 0 0 [], s)
     | false => bnd (acceptF ts [114, 101, 97, 108] s) fun b s => match b with
       | true => .ok (.mk 4 0 0 0 [], s)
       | false => bnd (acceptF ts [105, 110, 116] s) fun b s => match b with
         | true => bnd (expectF ts [[91]] s) fun _ s => bnd (integerF ts s) fun lo s => bnd (expectF ts [[44]] s) fun _ s => bnd (integerF ts s) fun hi s => bnd (expectF ts [[93]] s) fun _ s => .ok (.mk 2 lo hi 0 [], s)
         | false => bnd (acceptF ts [108, 105, 115, 116] s) fun b s => match b with
           | true => bnd (expectF ts [[91]] s) fun _ s => bnd (numberF ts s) fun m s => bnd (expectF ts [[93]] s) fun _ s => bnd (typF ts n s) fun t s => .ok (.mk 6 0 0 m [t], s)
           | false => bnd (expectF ts [[40]] s) fun _ s => bnd (typF ts n s) fun a s => bnd (expectF ts [[44]] s) fun _ s => bnd (typF ts n s) fun b s => bnd (typsF ts n [a, b] s) fun l s => bnd (expectF ts [[41]] s) fun _ s => .ok (.mk 5 0 0 0 l, s)
def typsF (ts : List Tok) : Nat → List Ty → PS → PR (List Ty)
 | 0, _, _ => .error noEr
 | n + 1, acc, s => bnd (acceptF ts [44] s) fun b s => match b with
   | false => .ok (acc, s)
   | true => bnd (typF ts n s) fun t s => typsF ts n (acc ++ [t]) s
end
theorem int_up {ts : List Tok} {s s' : PS} {v : Int} (h : PInv ts s) (hx : integerF ts s = .ok (v, s')) : Up ts s s' := by
 unfold integerF at hx
 split at hx
 ·cases hx
 ·rename_i b s1 ha
  have g1 := acc_ge h ha
  split at hx
  ·cases hx
  ·rename_i n s2 hn
   cases hx
   exact g1.up (num_up g1.1 hn)
structure TInv (ts : List Tok) (n : Nat) : Prop where
 typ : ∀ {s e s'}, PInv ts s → typF ts n s = .ok (e, s') → Up ts s s'
 typs : ∀ {a s e s'}, PInv ts s → typsF ts n a s = .ok (e, s') → Ge ts s s'
theorem tInv (ts : List Tok) : ∀ n, TInv ts n
 | 0 => by
   constructor <;> intros <;> rename_i h <;> simp only [typF, typsF] at h <;> cases h
 | n + 1 => by
   have H := tInv ts n
   constructor
   ·intro s0 e s' i0 h
    rw [typF] at h
    obtain ⟨b, s1, h1, h⟩ := bnd_inv h
    have g1 := acc_ge i0 h1
    cases b
    rotate_left
    ·cases h; exact acc_up i0 h1
    refine g1.up ?_
    obtain ⟨b, s2, h2, h⟩ := bnd_inv h
    have g2 := acc_ge g1.1 h2
    cases b
    rotate_left
    ·cases h; exact acc_up g1.1 h2
    refine g2.up ?_
    obtain ⟨b, s3, h3, h⟩ := bnd_inv h
    have g3 := acc_ge g2.1 h3
    cases b
    rotate_left
    ·cases h; exact acc_up g2.1 h3
    refine g3.up ?_
    obtain ⟨b, s4, h4, h⟩ := bnd_inv h
    have g4 := acc_ge g3.1 h4
    cases b
    rotate_left
    ·obtain ⟨_, s5, h5, h⟩ := bnd_inv h
     obtain ⟨_, s6, h6, h⟩ := bnd_inv h
     obtain ⟨_, s7, h7, h⟩ := bnd_inv h
     obtain ⟨_, s8, h8, h⟩ := bnd_inv h
     obtain ⟨_, s9, h9, h⟩ := bnd_inv h
     cases h
     have g5 := exp_up g4.1 h5
     have g6 := int_up g5.1 h6
     have g7 := exp_up g6.1 h7
     have g8 := int_up g7.1 h8
     exact g4.up (g5.trans (g6.ge.trans (g7.ge.trans (g8.ge.trans (exp_up g8.1 h9).ge))))
    refine g4.up ?_
    obtain ⟨b, s5, h5, h⟩ := bnd_inv h
    have g5 := acc_ge g4.1 h5
    cases b
    rotate_left
    ·obtain ⟨_, s6, h6, h⟩ := bnd_inv h
     obtain ⟨_, s7, h7, h⟩ := bnd_inv h
     obtain ⟨_, s8, h8, h⟩ := bnd_inv h
     obtain ⟨_, s9, h9, h⟩ := bnd_inv h
     cases h
     have g6 := exp_up g5.1 h6
     have g7 := num_up g6.1 h7
     have g8 := exp_up g7.1 h8
     exact g5.up (g6.trans (g7.ge.trans (g8.ge.trans (H.typ g8.1 h9).ge)))
    refine g5.up ?_
    obtain ⟨_, s6, h6, h⟩ := bnd_inv h
    obtain ⟨_, s7, h7, h⟩ := bnd_inv h
    obtain ⟨_, s8, h8, h⟩ := bnd_inv h
    obtain ⟨_, s9, h9, h⟩ := bnd_inv h
    obtain ⟨_, s10, h10, h⟩ := bnd_inv h
    obtain ⟨_, s11, h11, h⟩ := bnd_inv h
    cases h
    have g6 := exp_up g5.1 h6
    have g7 := H.typ g6.1 h7
    have g8 := exp_up g7.1 h8
    have g9 := H.typ g8.1 h9
    have g10 := H.typs g9.1 h10
    exact g6.trans (g7.ge.trans (g8.ge.trans (g9.ge.trans (g10.trans (exp_up g10.1 h11).ge))))
   ·intro a s e s' hI h
    rw [typsF] at h
    obtain ⟨b, s1, h1, h⟩ := bnd_inv h
    have u1 := acc_ge hI h1
    cases b
    ·cases h; exact u1
    ·obtain ⟨x, s2, h2, h⟩ := bnd_inv h
     have u2 := H.typ u1.1 h2
     exact u1.trans (u2.ge.trans (H.typs u2.1 h))
end Go.LexSem
-- CLOSERS: PCL, TCL
set_option maxHeartbeats 16000000
set_option maxRecDepth 8000
namespace Go.LexSem
open Go Go.V Go.Proofs Go.Num

theorem typ_step (ts : List Tok) (n : Nat) (H : ∀ m, m ≤ n → (∀ s, PInv ts s → 2 * rem ts s + 1 ≤ m → PSem 35 [] ts s (typF ts m s) tyV) ∧ True) (s0 : PS) (i0 : PInv ts s0) (hn : 2 * rem ts s0 + 1 ≤ n + 1) : PSem 35 [] ts s0 (typF ts (n + 1) s0) tyV := by
 have X := tInv ts n
 obtain ⟨x, hx⟩ : ∃ x, x = typF ts (n + 1) s0 := ⟨_, rfl⟩
 rw [← hx]
 rw [typF] at hx
 unfold PSem
 refine FSem.enter' (C := C) (n := 86) Tryd.func35 rfl rfl ok_35 (by simp) ?_
 simp only [argEnv]
 refine WC.rs fun K hK => ?_
 simp only [↓EJ, EX, FA, simprocAttr]
 refine hK _ ?_; try clear hK K
 refine WC.trim [0, 2, 3, 4, 5, 6, 10, 14, 18, 38, 74] ?_
 simp only [ET, simprocAttr]
 refine WC.bs fun K0 hK0 => ?_
 refine WC.rs fun K hK => ?_
 simp only [↓EJ, EX, FA, simprocAttr]
 refine CallX.mk (CallW.par (enc := .bool) (accept_sem ts s0 i0 [98, 111, 111, 108]) rfl rfl (by simp only [CL, and_self]) (fun v => by simp only [CL]) (fun b1 s1 h1 => ?_) (fun e s' he => by intros; exact PSem.fails (fn := Tryd.f35) (s := s') (hx.trans (by simp only [he, bnd_error])) rfl rfl))
 simp only [h1, bnd_ok] at hx
 have g1 := acc_ge i0 h1
 have i1 := g1.1
 have r1 := g1.rem
 simp only [↓EJ, EX, FA, simprocAttr]
 refine hK _ ?_; try clear hK K
 refine WC.trim [0, 2, 3, 4, 5, 6, 10, 14, 18, 38, 74] ?_
 simp only [ET, simprocAttr]
 refine WC.cond (c := .tmp 6) rfl (fun h => ?_) (fun h => ?_)
 ·obtain rfl : b1 = true := by simpa using h
  dsimp only at hx
  have q1 := (acc_up i0 h1).rem
  refine WC.rs fun K hK => ?_
  simp only [↓EJ, EX, FA, simprocAttr, TS]
  refine hK _ ?_; try clear hK K
  refine WC.trim [0, 2, 3, 4, 5, 6, 10, 14, 18, 38, 74] ?_
  simp only [ET, simprocAttr]
  refine WC.ret ?_
  simp only [↓EJ, EX, FA, simprocAttr, EQ, FnQ, Tryd.results35, wResL, tup, List.reverse_cons, List.reverse_nil, true_and, TS]
  exact PSem.done (fn := Tryd.f35) (s := s1) (v := (.mk 1 0 0 0 [])) hx rfl (of_eq_true (by simp only [CL, PCL, TCL, and_self])) rfl
 obtain rfl : b1 = false := by simpa using h
 dsimp only at hx
 refine WC.rs fun K hK => ?_
 simp only [↓EJ, EX, FA, simprocAttr]
 refine CallX.mk (CallW.par (enc := .bool) (accept_sem ts s1 i1 [110, 97, 116]) rfl rfl (by simp only [CL, and_self]) (fun v => by simp only [CL]) (fun b2 s2 h2 => ?_) (fun e s' he => by intros; exact PSem.fails (fn := Tryd.f35) (s := s') (hx.trans (by simp only [he, bnd_error])) rfl rfl))
 simp only [h2, bnd_ok] at hx
 have g2 := acc_ge i1 h2
 have i2 := g2.1
 have r2 := g2.rem
 simp only [↓EJ, EX, FA, simprocAttr]
 refine hK _ ?_; try clear hK K
 refine WC.trim [0, 2, 3, 4, 5, 6, 10, 14, 18, 38, 74] ?_
 simp only [ET, simprocAttr]
 refine WC.cond (c := .tmp 10) rfl (fun h => ?_) (fun h => ?_)
 ·obtain rfl : b2 = true := by simpa using h
  dsimp only at hx
  have q2 := (acc_up i1 h2).rem
  refine WC.rs fun K hK => ?_
  simp only [↓EJ, EX, FA, simprocAttr, TS]
  refine hK _ ?_; try clear hK K
  refine WC.trim [0, 2, 3, 4, 5, 6, 10, 14, 18, 38, 74] ?_
  simp only [ET, simprocAttr]
  refine WC.ret ?_
  simp only [↓EJ, EX, FA, simprocAttr, EQ, FnQ, Tryd.results35, wResL, tup, List.reverse_cons, List.reverse_nil, true_and, TS]
  exact PSem.done (fn := Tryd.f35) (s := s2) (v := (.mk 3 0 0 0 [])) hx rfl (of_eq_true (by simp only [CL, PCL, TCL, and_self])) rfl
 obtain rfl : b2 = false := by simpa using h
 dsimp only at hx
 refine WC.rs fun K hK => ?_
 simp only [↓EJ, EX, FA, simprocAttr]
 refine CallX.mk (CallW.par (enc := .bool) (accept_sem ts s2 i2 [114, 101, 97, 108]) rfl rfl (by simp only [CL, and_self]) (fun v => by simp only [CL]) (fun b3 s3 h3 => ?_) (fun e s' he => by intros; exact PSem.fails (fn := Tryd.f35) (s := s') (hx.trans (by simp only [he, bnd_error])) rfl rfl))
 simp only [h3, bnd_ok] at hx
 have g3 := acc_ge i2 h3
 have i3 := g3.1
 have r3 := g3.rem
 simp only [↓EJ, EX, FA, simprocAttr]
 refine hK _ ?_; try clear hK K
 refine WC.trim [0, 2, 3, 4, 5, 6, 10, 14, 18, 38, 74] ?_
 simp only [ET, simprocAttr]
 refine WC.cond (c := .tmp 14) rfl (fun h => ?_) (fun h => ?_)
 ·obtain rfl : b3 = true := by simpa using h
  dsimp only at hx
  have q3 := (acc_up i2 h3).rem
  refine WC.rs fun K hK => ?_
  simp only [↓EJ, EX, FA, simprocAttr, TS]
  refine hK _ ?_; try clear hK K
  refine WC.trim [0, 2, 3, 4, 5, 6, 10, 14, 18, 38, 74] ?_
  simp only [ET, simprocAttr]
  refine WC.ret ?_
  simp only [↓EJ, EX, FA, simprocAttr, EQ, FnQ, Tryd.results35, wResL, tup, List.reverse_cons, List.reverse_nil, true_and, TS]
  exact PSem.done (fn := Tryd.f35) (s := s3) (v := (.mk 4 0 0 0 [])) hx rfl (of_eq_true (by simp only [CL, PCL, TCL, and_self])) rfl
 obtain rfl : b3 = false := by simpa using h
 dsimp only at hx
 refine WC.rs fun K hK => ?_
 simp only [↓EJ, EX, FA, simprocAttr]
 refine CallX.mk (CallW.par (enc := .bool) (accept_sem ts s3 i3 [105, 110, 116]) rfl rfl (by simp only [CL, and_self]) (fun v => by simp only [CL]) (fun b4 s4 h4 => ?_) (fun e s' he => by intros; exact PSem.fails (fn := Tryd.f35) (s := s') (hx.trans (by simp only [he, bnd_error])) rfl rfl))
 simp only [h4, bnd_ok] at hx
 have g4 := acc_ge i3 h4
 have i4 := g4.1
 have r4 := g4.rem
 simp only [↓EJ, EX, FA, simprocAttr]
 refine hK _ ?_; try clear hK K
 refine WC.trim [0, 2, 3, 4, 5, 6, 10, 14, 18, 38, 74] ?_
 simp only [ET, simprocAttr]
 refine WC.cond (c := .tmp 18) rfl (fun h => ?_) (fun h => ?_)
 ·obtain rfl : b4 = true := by simpa using h
  dsimp only at hx
  have q4 := (acc_up i3 h4).rem
  refine WC.rs fun K hK => ?_
  simp only [↓EJ, EX, FA, simprocAttr, TS]
  refine hK _ ?_; try clear hK K
  refine WC.trim [0, 2, 3, 4, 5, 6, 10, 14, 18, 38, 74] ?_
  simp only [ET, simprocAttr]
  refine WC.zs [1] (by simp only [cutZ, List.drop_zero, List.drop_succ_cons, List.take_zero, List.take_succ_cons, Option.map_some]; rfl) fun K hK => ?_
  simp only [↓EJ, EX, FA, simprocAttr, EZ]
  refine CallX.mk (CallW.par (enc := fun _ => .tuple []) (expect_sem ts [[91]] s4 i4 (by decide)) rfl rfl (by simp only [CL, List.map_cons, List.map_nil, and_self]) (fun v => by simp only [CL]) (fun u11 s11 h11 => ?_) (fun e s' he => by intros; exact PSem.fails (fn := Tryd.f35) (s := s') (hx.trans (by simp only [he, bnd_error])) rfl rfl))
  simp only [h11, bnd_ok] at hx
  have g11 := exp_up i4 h11
  have i11 := g11.1
  simp only [↓EJ, EX, FA, simprocAttr, EZ]
  refine hK _ ?_; try clear hK K
  refine WC.trim [0, 2, 3, 4, 5, 6, 10, 14, 18, 38, 74] ?_
  simp only [ET, simprocAttr]
  refine WC.rs fun K hK => ?_
  simp only [↓EJ, EX, FA, simprocAttr]
  refine CallX.mk (CallW.par (enc := (fun k : Int => .int .i64 k)) (integer_sem ts s11 i11) rfl rfl (by simp only [CL, PCL, TCL, and_self]) (fun v => by simp only [CL, PCL, TCL, and_self]) (fun lo s12 h12 => ?_) (fun e s' he => by intros; exact PSem.fails (fn := Tryd.f35) (s := s') (hx.trans (by simp only [he, bnd_error])) rfl rfl))
  simp only [h12, bnd_ok] at hx
  have g12 := int_up i11 h12
  have i12 := g12.1
  simp only [↓EJ, EX, FA, simprocAttr, TS]
  refine hK _ ?_; try clear hK K
  refine WC.trim [0, 2, 3, 4, 5, 6, 10, 14, 18, 38, 74] ?_
  simp only [ET, simprocAttr]
  refine WC.zs [1] (by simp only [cutZ, List.drop_zero, List.drop_succ_cons, List.take_zero, List.take_succ_cons, Option.map_some]; rfl) fun K hK => ?_
  simp only [↓EJ, EX, FA, simprocAttr, EZ]
  refine CallX.mk (CallW.par (enc := fun _ => .tuple []) (expect_sem ts [[44]] s12 i12 (by decide)) rfl rfl (by simp only [CL, List.map_cons, List.map_nil, and_self]) (fun v => by simp only [CL]) (fun u13 s13 h13 => ?_) (fun e s' he => by intros; exact PSem.fails (fn := Tryd.f35) (s := s') (hx.trans (by simp only [he, bnd_error])) rfl rfl))
  simp only [h13, bnd_ok] at hx
  have g13 := exp_up i12 h13
  have i13 := g13.1
  simp only [↓EJ, EX, FA, simprocAttr, EZ]
  refine hK _ ?_; try clear hK K
  refine WC.trim [0, 2, 3, 4, 5, 6, 10, 14, 18, 38, 74] ?_
  simp only [ET, simprocAttr]
  refine WC.rs fun K hK => ?_
  simp only [↓EJ, EX, FA, simprocAttr]
  refine CallX.mk (CallW.par (enc := (fun k : Int => .int .i64 k)) (integer_sem ts s13 i13) rfl rfl (by simp only [CL, PCL, TCL, and_self]) (fun v => by simp only [CL, PCL, TCL, and_self]) (fun hi s14 h14 => ?_) (fun e s' he => by intros; exact PSem.fails (fn := Tryd.f35) (s := s') (hx.trans (by simp only [he, bnd_error])) rfl rfl))
  simp only [h14, bnd_ok] at hx
  have g14 := int_up i13 h14
  have i14 := g14.1
  simp only [↓EJ, EX, FA, simprocAttr, TS]
  refine hK _ ?_; try clear hK K
  refine WC.trim [0, 2, 3, 4, 5, 6, 10, 14, 18, 38, 74] ?_
  simp only [ET, simprocAttr]
  refine WC.zs [1] (by simp only [cutZ, List.drop_zero, List.drop_succ_cons, List.take_zero, List.take_succ_cons, Option.map_some]; rfl) fun K hK => ?_
  simp only [↓EJ, EX, FA, simprocAttr, EZ]
  refine CallX.mk (CallW.par (enc := fun _ => .tuple []) (expect_sem ts [[93]] s14 i14 (by decide)) rfl rfl (by simp only [CL, List.map_cons, List.map_nil, and_self]) (fun v => by simp only [CL]) (fun u15 s15 h15 => ?_) (fun e s' he => by intros; exact PSem.fails (fn := Tryd.f35) (s := s') (hx.trans (by simp only [he, bnd_error])) rfl rfl))
  simp only [h15, bnd_ok] at hx
  have g15 := exp_up i14 h15
  have i15 := g15.1
  simp only [↓EJ, EX, FA, simprocAttr, EZ]
  refine hK _ ?_; try clear hK K
  refine WC.trim [0, 2, 3, 4, 5, 6, 10, 14, 18, 38, 74] ?_
  simp only [ET, simprocAttr]
  refine WC.rs fun K hK => ?_
  simp only [↓EJ, EX, FA, simprocAttr, TS]
  refine hK _ ?_; try clear hK K
  refine WC.trim [0, 2, 3, 4, 5, 6, 10, 14, 18, 38, 74] ?_
  simp only [ET, simprocAttr]
  refine WC.ret ?_
  simp only [↓EJ, EX, FA, simprocAttr, EQ, FnQ, Tryd.results35, wResL, tup, List.reverse_cons, List.reverse_nil, true_and, TS]
  exact PSem.done (fn := Tryd.f35) (s := s15) (v := (.mk 2 lo hi 0 [])) hx rfl (of_eq_true (by simp only [CL, PCL, TCL, and_self])) rfl
 obtain rfl : b4 = false := by simpa using h
 dsimp only at hx
 refine WC.rs fun K hK => ?_
 simp only [↓EJ, EX, FA, simprocAttr]
 refine CallX.mk (CallW.par (enc := .bool) (accept_sem ts s4 i4 [108, 105, 115, 116]) rfl rfl (by simp only [CL, and_self]) (fun v => by simp only [CL]) (fun b5 s5 h5 => ?_) (fun e s' he => by intros; exact PSem.fails (fn := Tryd.f35) (s := s') (hx.trans (by simp only [he, bnd_error])) rfl rfl))
 simp only [h5, bnd_ok] at hx
 have g5 := acc_ge i4 h5
 have i5 := g5.1
 have r5 := g5.rem
 simp only [↓EJ, EX, FA, simprocAttr]
 refine hK _ ?_; try clear hK K
 refine WC.trim [0, 2, 3, 4, 5, 6, 10, 14, 18, 38, 74] ?_
 simp only [ET, simprocAttr]
 refine WC.cond (c := .tmp 38) rfl (fun h => ?_) (fun h => ?_)
 ·obtain rfl : b5 = true := by simpa using h
  dsimp only at hx
  have q5 := (acc_up i4 h5).rem
  refine WC.rs fun K hK => ?_
  simp only [↓EJ, EX, FA, simprocAttr, TS]
  refine hK _ ?_; try clear hK K
  refine WC.trim [0, 2, 3, 4, 5, 6, 10, 14, 18, 38, 74] ?_
  simp only [ET, simprocAttr]
  refine WC.zs [1] (by simp only [cutZ, List.drop_zero, List.drop_succ_cons, List.take_zero, List.take_succ_cons, Option.map_some]; rfl) fun K hK => ?_
  simp only [↓EJ, EX, FA, simprocAttr, EZ]
  refine CallX.mk (CallW.par (enc := fun _ => .tuple []) (expect_sem ts [[91]] s5 i5 (by decide)) rfl rfl (by simp only [CL, List.map_cons, List.map_nil, and_self]) (fun v => by simp only [CL]) (fun u11 s11 h11 => ?_) (fun e s' he => by intros; exact PSem.fails (fn := Tryd.f35) (s := s') (hx.trans (by simp only [he, bnd_error])) rfl rfl))
  simp only [h11, bnd_ok] at hx
  have g11 := exp_up i5 h11
  have i11 := g11.1
  have r11 := g11.rem
  simp only [↓EJ, EX, FA, simprocAttr, EZ]
  refine hK _ ?_; try clear hK K
  refine WC.trim [0, 2, 3, 4, 5, 6, 10, 14, 18, 38, 74] ?_
  simp only [ET, simprocAttr]
  refine WC.rs fun K hK => ?_
  simp only [↓EJ, EX, FA, simprocAttr]
  refine CallX.mk (CallW.par (enc := (fun k : Nat => .int .i64 (k : Int))) (number_sem ts s11 i11) rfl rfl (by simp only [CL, PCL, TCL, and_self]) (fun v => by simp only [CL, PCL, TCL, and_self]) (fun m s12 h12 => ?_) (fun e s' he => by intros; exact PSem.fails (fn := Tryd.f35) (s := s') (hx.trans (by simp only [he, bnd_error])) rfl rfl))
  simp only [h12, bnd_ok] at hx
  have g12 := num_up i11 h12
  have i12 := g12.1
  have r12 := g12.rem
  simp only [↓EJ, EX, FA, simprocAttr, TS]
  refine hK _ ?_; try clear hK K
  refine WC.trim [0, 2, 3, 4, 5, 6, 10, 14, 18, 38, 74] ?_
  simp only [ET, simprocAttr]
  refine WC.zs [1] (by simp only [cutZ, List.drop_zero, List.drop_succ_cons, List.take_zero, List.take_succ_cons, Option.map_some]; rfl) fun K hK => ?_
  simp only [↓EJ, EX, FA, simprocAttr, EZ]
  refine CallX.mk (CallW.par (enc := fun _ => .tuple []) (expect_sem ts [[93]] s12 i12 (by decide)) rfl rfl (by simp only [CL, List.map_cons, List.map_nil, and_self]) (fun v => by simp only [CL]) (fun u13 s13 h13 => ?_) (fun e s' he => by intros; exact PSem.fails (fn := Tryd.f35) (s := s') (hx.trans (by simp only [he, bnd_error])) rfl rfl))
  simp only [h13, bnd_ok] at hx
  have g13 := exp_up i12 h13
  have i13 := g13.1
  have r13 := g13.rem
  simp only [↓EJ, EX, FA, simprocAttr, EZ]
  refine hK _ ?_; try clear hK K
  refine WC.trim [0, 2, 3, 4, 5, 6, 10, 14, 18, 38, 74] ?_
  simp only [ET, simprocAttr]
  refine WC.zs [2] (by simp only [cutZ, List.drop_zero, List.drop_succ_cons, List.take_zero, List.take_succ_cons, Option.map_some]; rfl) fun K hK => ?_
  simp only [↓EJ, EX, FA, simprocAttr, EZ]
  refine CallX.mk (CallW.par (enc := tyV) ((H n (Nat.le_refl n)).1 s13 i13 (by omega)) rfl rfl (by simp only [CL, PCL, TCL, and_self]) (fun v => by simp only [CL, PCL, TCL, and_self]) (fun t s14 h14 => ?_) (fun e s' he => by intros; exact PSem.fails (fn := Tryd.f35) (s := s') (hx.trans (by simp only [he, bnd_error])) rfl rfl))
  simp only [h14, bnd_ok] at hx
  have g14 := X.typ i13 h14
  have i14 := g14.1
  simp only [↓EJ, EX, FA, simprocAttr, EZ, TS]
  refine hK _ ?_; try clear hK K
  refine WC.trim [0, 2, 3, 4, 5, 6, 10, 14, 18, 38, 74] ?_
  simp only [ET, simprocAttr]
  refine WC.rs fun K hK => ?_
  simp only [↓EJ, EX, FA, simprocAttr, TS]
  refine hK _ ?_; try clear hK K
  refine WC.trim [0, 2, 3, 4, 5, 6, 10, 14, 18, 38, 74] ?_
  simp only [ET, simprocAttr]
  refine WC.ret ?_
  simp only [↓EJ, EX, FA, simprocAttr, EQ, FnQ, Tryd.results35, wResL, tup, List.reverse_cons, List.reverse_nil, true_and, TS]
  exact PSem.done (fn := Tryd.f35) (s := s14) (v := (.mk 6 0 0 m [t])) hx rfl (of_eq_true (by simp only [CL, PCL, TCL, and_self])) rfl
 obtain rfl : b5 = false := by simpa using h
 dsimp only at hx
 refine WC.skip ?_
 try simp only [EQ, reduceIte, Nat.reduceEqDiff]
 refine hK0 _ ?_; try clear hK0 K0
 refine WC.zs [1] (by simp only [cutZ, List.drop_zero, List.drop_succ_cons, List.take_zero, List.take_succ_cons, Option.map_some]; rfl) fun K hK => ?_
 simp only [↓EJ, EX, FA, simprocAttr, EZ]
 refine CallX.mk (CallW.par (enc := fun _ => .tuple []) (expect_sem ts [[40]] s5 i5 (by decide)) rfl rfl (by simp only [CL, List.map_cons, List.map_nil, and_self]) (fun v => by simp only [CL]) (fun u11 s11 h11 => ?_) (fun e s' he => by intros; exact PSem.fails (fn := Tryd.f35) (s := s') (hx.trans (by simp only [he, bnd_error])) rfl rfl))
 simp only [h11, bnd_ok] at hx
 have g11 := exp_up i5 h11
 have i11 := g11.1
 have r11 := g11.rem
 simp only [↓EJ, EX, FA, simprocAttr, EZ]
 refine hK _ ?_; try clear hK K
 refine WC.trim [0, 2, 3, 4, 5, 6, 10, 14, 18, 38, 74] ?_
 simp only [ET, simprocAttr]
 refine WC.rs fun K hK => ?_
 simp only [↓EJ, EX, FA, simprocAttr]
 refine CallX.mk (CallW.par (enc := tyV) ((H n (Nat.le_refl n)).1 s11 i11 (by omega)) rfl rfl (by simp only [CL, PCL, TCL, and_self]) (fun v => by simp only [CL, PCL, TCL, and_self]) (fun t1 s12 h12 => ?_) (fun e s' he => by intros; exact PSem.fails (fn := Tryd.f35) (s := s') (hx.trans (by simp only [he, bnd_error])) rfl rfl))
 simp only [h12, bnd_ok] at hx
 have g12 := X.typ i11 h12
 have i12 := g12.1
 have r12 := g12.rem
 simp only [↓EJ, EX, FA, simprocAttr, TS]
 refine hK _ ?_; try clear hK K
 refine WC.trim [0, 2, 3, 4, 5, 6, 10, 14, 18, 38, 74] ?_
 simp only [ET, simprocAttr]
 refine WC.zs [1] (by simp only [cutZ, List.drop_zero, List.drop_succ_cons, List.take_zero, List.take_succ_cons, Option.map_some]; rfl) fun K hK => ?_
 simp only [↓EJ, EX, FA, simprocAttr, EZ]
 refine CallX.mk (CallW.par (enc := fun _ => .tuple []) (expect_sem ts [[44]] s12 i12 (by decide)) rfl rfl (by simp only [CL, List.map_cons, List.map_nil, and_self]) (fun v => by simp only [CL]) (fun u13 s13 h13 => ?_) (fun e s' he => by intros; exact PSem.fails (fn := Tryd.f35) (s := s') (hx.trans (by simp only [he, bnd_error])) rfl rfl))
 simp only [h13, bnd_ok] at hx
 have g13 := exp_up i12 h13
 have i13 := g13.1
 have r13 := g13.rem
 simp only [↓EJ, EX, FA, simprocAttr, EZ]
 refine hK _ ?_; try clear hK K
 refine WC.trim [0, 2, 3, 4, 5, 6, 10, 14, 18, 38, 74] ?_
 simp only [ET, simprocAttr]
 refine WC.ds [⟨0, 0, true, []⟩, ⟨1, 0, true, []⟩, ⟨2, 0, false, []⟩, ⟨3, 1, false, [0, 1]⟩, ⟨4, 2, false, []⟩, ⟨5, 1, false, []⟩, ⟨6, 0, false, []⟩, ⟨7, 1, false, []⟩] [0, 1, 0, 4, 12, 31, 63, 127] mo (by kernel_rfl) (by simp only [EPl, List.getElem?_cons_zero, List.getElem?_cons_succ]; rfl) fun K hK => ?_
 simp only [↓EJ, EX, FA, simprocAttr, TS]
 refine CallX.mk (CallW.par (enc := tyV) ((H n (Nat.le_refl n)).1 s13 i13 (by omega)) rfl rfl (by simp only [CL, PCL, TCL, and_self]) (fun v => by simp only [CL, PCL, TCL, and_self]) (fun t2 s14 h14 => ?_) (fun e s' he => by intros; exact PSem.fails (fn := Tryd.f35) (s := s') (hx.trans (by simp only [he, bnd_error])) rfl rfl))
 simp only [h14, bnd_ok] at hx
 have g14 := X.typ i13 h14
 have i14 := g14.1
 have r14 := g14.rem
 simp only [↓EJ, EX, FA, simprocAttr, TS]
 refine hK _ ?_; try clear hK K
 refine WC.trim [0, 2, 3, 4, 5, 6, 10, 14, 18, 38, 74] ?_
 simp only [ET, simprocAttr]
 refine WC.bs fun K1 hK1 => ?_
 refine WC.loop (X := Nat × List Ty × PS) (fun x => ⟨[(5, .ptr (.l 1) 0 0), (2, .ptr (.l 0) 0 0), (0, .ptr (.o 0) 0 0)], [pblk ts x.2.2], [.row [.agg [.int .i64 0, .int .i64 0, .int .i64 0, .int .i64 0, .nils]] 5 74, .row [.agg [.int .i64 5, .int .i64 0, .int .i64 0, .int .i64 0, .ref (.l 2) 0 x.2.1.length]] 5 74, .row (x.2.1.map tyV) 5 74], []⟩)
  (fun y => y.1 ≤ n ∧ PInv ts y.2.2 ∧ 2 * rem ts y.2.2 ≤ y.1 ∧ y.2.1 ≠ [] ∧ y.2.1.length ≤ y.2.2.at_ ∧ x = bnd (typsF ts y.1 y.2.1 y.2.2) (fun l s => bnd (expectF ts [[41]] s) fun _ s => .ok (.mk 5 0 0 0 l, s))) (fun x => x.1) (n, [t1, t2], s14) [0, 2, 3] ⟨Nat.le_refl _, i14, by dsimp only; omega, by simp, by have := g14.2; have := g13.2; have := g12.2; simp only [List.length_cons, List.length_nil]; omega, hx⟩ ?_ ?_
 ·refine ⟨by simp, by simp only [EV, EB, EL, ER, ET, and_self, true_and, and_true, Nat.reduceEqDiff, reduceCtorEq, reduceIte, PRN, TRN, TS, List.map_cons, List.map_nil, List.length_cons, List.length_nil], by simp only [EV, EB, EL, ER, ET, and_self, true_and, and_true, Nat.reduceEqDiff, reduceCtorEq, reduceIte, PRN, TRN, TS, List.map_cons, List.map_nil, List.length_cons, List.length_nil], by simp only [EV, EB, EL, ER, ET, and_self, true_and, and_true, Nat.reduceEqDiff, reduceCtorEq, reduceIte, PRN, TRN, TS, List.map_cons, List.map_nil, List.length_cons, List.length_nil, pick], rfl⟩
 clear hx r14 g14 h14 i14 r13 g13 h13 i13 r12 g12 h12 i12
 rintro ⟨m, acc, s1⟩ ⟨hm, i1, hr, hne, hlen, hx⟩
 dsimp only at hm i1 hr hne hlen hx ⊢
 have hle := i1.le
 have hlt := i1.lt
 have hr1 : 1 ≤ rem ts s1 := by unfold rem; omega
 obtain ⟨m, rfl⟩ : ∃ k, m = k + 1 := ⟨m - 1, by omega⟩
 have Xm := tInv ts m
 rw [typsF] at hx
 refine WC.sK fun K3 hK3 => ?_
 refine WC.rs fun K hK => ?_
 simp only [↓EJ, EX, FA, simprocAttr]
 refine CallX.mk (CallW.par (enc := .bool) (accept_sem ts s1 i1 [44]) rfl rfl (by simp only [CL, and_self]) (fun v => by simp only [CL]) (fun b2 s2 h2 => ?_) (fun e s' he => by intros; exact PSem.fails (fn := Tryd.f35) (s := s') (hx.trans (by simp only [he, bnd_error])) rfl rfl))
 simp only [h2, bnd_ok] at hx
 have g2 := acc_ge i1 h2
 have i2 := g2.1
 have r2 := g2.rem
 simp only [↓EJ, EX, FA, simprocAttr]
 refine hK _ ?_; try clear hK K
 refine WC.trim [0, 2, 3, 4, 5, 6, 10, 14, 18, 38, 74] ?_
 simp only [ET, simprocAttr]
 refine WC.cond (c := .tmp 74) rfl (fun h => ?_) (fun h => ?_)
 ·obtain rfl : b2 = true := by simpa using h
  dsimp only at hx
  have q2 := (acc_up i1 h2).rem
  refine WC.skip ?_
  try simp only [EQ, reduceIte, Nat.reduceEqDiff]
  refine hK3 _ ?_; try clear hK3 K3
  refine WC.b1 ?_
  refine WC.d1 [⟨0, 0, true, []⟩, ⟨1, 0, true, []⟩, ⟨2, 0, false, []⟩, ⟨3, 1, false, [0, 1]⟩, ⟨4, 2, false, []⟩, ⟨5, 1, false, []⟩, ⟨6, 0, false, []⟩, ⟨7, 1, false, []⟩] [0, 1, 0, 4, 12, 31, 63, 127] mo (by kernel_rfl) (by simp only [EPl, List.getElem?_cons_zero, List.getElem?_cons_succ]; rfl) ?_
  simp only [↓EJ, EX, FA, simprocAttr, TS]
  refine CallX.mk (CallW.par (enc := tyV) ((H m (by omega)).1 s2 i2 (by omega)) rfl rfl (by simp only [CL, PCL, TCL, and_self]) (fun v => by simp only [CL, PCL, TCL, and_self]) (fun t s3 h3 => ?_) (fun e s' he => by intros; exact PSem.fails (fn := Tryd.f35) (s := s') (hx.trans (by simp only [he, bnd_error])) rfl rfl))
  simp only [h3, bnd_ok] at hx
  have g3 := Xm.typ i2 h3
  have i3 := g3.1
  have r3 := g3.rem
  have a2 := g2.2
  have a3 := g3.2
  simp only [↓EJ, EX, FA, simprocAttr, TS]
  refine ⟨by rw [List.length_map], by omega, by omega, ?_⟩
  try simp only [EQ, reduceIte, Nat.reduceEqDiff]
  refine ⟨(m, acc ++ [t], s3), [0, 1, 3], ⟨by dsimp only; omega, i3, by dsimp only; omega, by simp, by simp only [List.length_append, List.length_cons, List.length_nil]; omega, hx⟩, by dsimp only; omega, ?_⟩
  refine ⟨by simp, by simp only [EV, EB, EL, ER, ET, and_self, true_and, and_true, Nat.reduceEqDiff, reduceCtorEq, reduceIte, PRN, TRN, TS, exVs_append, List.map_append, List.map_cons, List.map_nil, List.length_append, List.length_cons, List.length_nil], by simp only [EV, EB, EL, ER, ET, and_self, true_and, and_true, Nat.reduceEqDiff, reduceCtorEq, reduceIte, PRN, TRN, TS, exVs_append, List.map_append, List.map_cons, List.map_nil, List.length_append, List.length_cons, List.length_nil], by simp only [EV, EB, EL, ER, ET, and_self, true_and, and_true, Nat.reduceEqDiff, reduceCtorEq, reduceIte, PRN, TRN, TS, exVs_append, List.map_append, List.map_cons, List.map_nil, List.length_append, List.length_cons, List.length_nil, pick], rfl⟩
 ·obtain rfl : b2 = false := by simpa using h
  dsimp only at hx
  simp only [bnd_ok] at hx
  refine WC.exit ?_
  simp only [EQ, reduceIte, Nat.reduceEqDiff]
  try simp only [EQ, reduceIte, Nat.reduceEqDiff]
  refine hK1 _ ?_; try clear hK1 K1
  refine WC.zs [1] (by simp only [cutZ, List.drop_zero, List.drop_succ_cons, List.take_zero, List.take_succ_cons, Option.map_some]; rfl) fun K hK => ?_
  simp only [↓EJ, EX, FA, simprocAttr, EZ]
  refine CallX.mk (CallW.par (enc := fun _ => .tuple []) (expect_sem ts [[41]] s2 i2 (by decide)) rfl rfl (by simp only [CL, List.map_cons, List.map_nil, and_self]) (fun v => by simp only [CL]) (fun u3 s3 h3 => ?_) (fun e s' he => by intros; exact PSem.fails (fn := Tryd.f35) (s := s') (hx.trans (by simp only [he, bnd_error])) rfl rfl))
  simp only [h3, bnd_ok] at hx
  have g3 := exp_up i2 h3
  have i3 := g3.1
  simp only [↓EJ, EX, FA, simprocAttr, EZ]
  refine hK _ ?_; try clear hK K
  refine WC.trim [0, 2, 3, 4, 5, 6, 10, 14, 18, 38, 74] ?_
  simp only [ET, simprocAttr]
  refine WC.frzC 1 2 4 rfl rfl rfl (by decide) (by simp) ?_
  refine WC.rs fun K hK => ?_
  simp only [↓EJ, EX, FA, simprocAttr]
  refine hK _ ?_; try clear hK K
  refine WC.trim [0, 2, 3, 4, 5, 6, 10, 14, 18, 38, 74] ?_
  simp only [ET, simprocAttr]
  refine WC.ret ?_
  simp only [↓EJ, EX, FA, simprocAttr, EQ, FnQ, Tryd.results35, wResL, tup, List.reverse_cons, List.reverse_nil, true_and]
  have hp : tyV (.mk 5 0 0 0 acc) = .agg [.int .i64 5, .int .i64 0, .int .i64 0, .int .i64 0, .slc (List.take acc.length (List.map tyV acc))] := by
   rw [tyV_mk, tysV_ne hne, List.take_of_length_le (by simp)]; rfl
  exact PSem.done (fn := Tryd.f35) (s := s3) (v := .mk 5 0 0 0 acc) hx hp.symm (tyV_closed _) rfl
theorem tAll (ts : List Tok) : ∀ n, ∀ s, PInv ts s → 2 * rem ts s + 1 ≤ n → PSem 35 [] ts s (typF ts n s) tyV := fun n => by
 induction n using Nat.strongRecOn with
 | _ n ih =>
   cases n with
   | zero => exact fun s _ h => by omega
   | succ n => exact fun s i h => typ_step ts n (fun m hm => ⟨ih m (by omega), trivial⟩) s i h
def typG (ts : List Tok) (s : PS) : PR Ty := typF ts (2 * rem ts s + 1) s
theorem typ_sem (ts : List Tok) (s : PS) (i : PInv ts s) : PSem 35 [] ts s (typG ts s) tyV := tAll ts _ s i (Nat.le_refl _)
theorem typ_up {ts : List Tok} {s s' : PS} {e : Ty} (i : PInv ts s) (h : typG ts s = .ok (e, s')) : Up ts s s' := (tInv ts _).typ i h
end Go.LexSem
-- CLOSERS: PCL, TCL, DCL
set_option maxHeartbeats 16000000
set_option maxRecDepth 8000
namespace Go.LexSem
open Go Go.V Go.Proofs Go.Num

/-! ### Declarations -/
structure De where
 name : List UInt8
 ty : Ty
def deC (d : De) : List PVal := .str d.name :: tyC d.ty
def deV (d : De) : PVal := .agg (deC d)
theorem deC_len (d : De) : (deC d).length = 6 := by simp [deC, tyC_len]
theorem deV_closed (d : De) : Closed (deV d) := of_eq_true (by simp only [deV, deC, CL, TCL, and_self])
theorem DCL : (∀ d, Closed (deV d) = True) ∧ (∀ d, ClosedL (deC d) = True) ∧ (∀ l : List De, ClosedL (l.map deV) = True) :=
 ⟨fun d => eq_true (deV_closed d), fun d => by simp only [deC, CL, TCL, and_self], fun l => eq_true (ClosedL.map (fun d => deV_closed d) l)⟩
theorem DRN : (∀ f d, renL f (deC d) = deC d) ∧ (∀ f (l : List De), renL f (l.map deV) = l.map deV) := ⟨fun f d => of_eq_true (DCL.2.1 d) f, fun f l => of_eq_true (DCL.2.2 l) f⟩
theorem DS : (∀ d, deV d = .agg (deC d)) ∧ (∀ d, (deC d).length = 6) ∧ (∀ d, List.take 6 (deC d) = deC d) ∧ (∀ d, List.drop 6 (deC d) = []) :=
 ⟨fun _ => rfl, deC_len, fun e => List.take_of_length_le (by rw [deC_len]; exact Nat.le_refl _), fun e => List.drop_of_length_le (by rw [deC_len]; exact Nat.le_refl _)⟩
def argF (ts : List Tok) (s : PS) : PR De := bnd (nameF ts s) fun w s => bnd (expectF ts [[58]] s) fun _ s => bnd (typG ts s) fun t s => .ok (⟨w, t⟩, s)
theorem arg_up {ts : List Tok} {s s' : PS} {e : De} (i : PInv ts s) (h : argF ts s = .ok (e, s')) : Up ts s s' := by
 unfold argF at h
 obtain ⟨_, s1, h1, h⟩ := bnd_inv h
 obtain ⟨_, s2, h2, h⟩ := bnd_inv h
 obtain ⟨_, s3, h3, h⟩ := bnd_inv h
 cases h
 have g1 := name_up i h1
 have g2 := exp_up g1.1 h2
 exact g1.trans (g2.ge.trans (typ_up g2.1 h3).ge)
theorem arg_sem (ts : List Tok) (s0 : PS) (i0 : PInv ts s0) : PSem 22 [] ts s0 (argF ts s0) deV := by
 obtain ⟨x, hx⟩ : ∃ x, x = argF ts s0 := ⟨_, rfl⟩
 rw [← hx]
 unfold argF at hx
 unfold PSem
 refine FSem.enter' (C := C) (n := 14) Tryd.func22 rfl rfl ok_22 (by simp) ?_
 simp only [argEnv]
 refine WC.rs fun K hK => ?_
 simp only [↓EJ, EX, FA, simprocAttr]
 refine hK _ ?_; try clear hK K
 refine WC.trim [0, 2, 3] ?_
 simp only [ET, simprocAttr]
 refine WC.rs fun K hK => ?_
 simp only [↓EJ, EX, FA, simprocAttr]
 refine CallX.mk (CallW.par (enc := .str) (name_sem ts s0 i0) rfl rfl (by simp only [CL, PCL, TCL, DCL, and_self]) (fun v => by simp only [CL, PCL, TCL, DCL, and_self]) (fun w s1 h1 => ?_) (fun e s' he => by intros; exact PSem.fails (fn := Tryd.f22) (s := s') (hx.trans (by simp only [he, bnd_error])) rfl rfl))
 simp only [h1, bnd_ok] at hx
 have g1 := name_up i0 h1
 have i1 := g1.1
 simp only [↓EJ, EX, FA, simprocAttr, TS]
 refine hK _ ?_; try clear hK K
 refine WC.trim [0, 2, 3] ?_
 simp only [ET, simprocAttr]
 refine WC.zs [1] (by simp only [cutZ, List.drop_zero, List.drop_succ_cons, List.take_zero, List.take_succ_cons, Option.map_some]; rfl) fun K hK => ?_
 simp only [↓EJ, EX, FA, simprocAttr, EZ]
 refine CallX.mk (CallW.par (enc := fun _ => .tuple []) (expect_sem ts [[58]] s1 i1 (by decide)) rfl rfl (by simp only [CL, List.map_cons, List.map_nil, and_self]) (fun v => by simp only [CL]) (fun u2 s2 h2 => ?_) (fun e s' he => by intros; exact PSem.fails (fn := Tryd.f22) (s := s') (hx.trans (by simp only [he, bnd_error])) rfl rfl))
 simp only [h2, bnd_ok] at hx
 have g2 := exp_up i1 h2
 have i2 := g2.1
 simp only [↓EJ, EX, FA, simprocAttr, EZ]
 refine hK _ ?_; try clear hK K
 refine WC.trim [0, 2, 3] ?_
 simp only [ET, simprocAttr]
 refine WC.rs fun K hK => ?_
 simp only [↓EJ, EX, FA, simprocAttr]
 refine CallX.mk (CallW.par (enc := tyV) (typ_sem ts s2 i2) rfl rfl (by simp only [CL, PCL, TCL, DCL, and_self]) (fun v => by simp only [CL, PCL, TCL, DCL, and_self]) (fun t s3 h3 => ?_) (fun e s' he => by intros; exact PSem.fails (fn := Tryd.f22) (s := s') (hx.trans (by simp only [he, bnd_error])) rfl rfl))
 simp only [h3, bnd_ok] at hx
 have g3 := typ_up i2 h3
 have i3 := g3.1
 simp only [↓EJ, EX, FA, simprocAttr, TS]
 refine hK _ ?_; try clear hK K
 refine WC.trim [0, 2, 3] ?_
 simp only [ET, simprocAttr]
 refine WC.rs fun K hK => ?_
 simp only [↓EJ, EX, FA, simprocAttr, TS]
 refine hK _ ?_; try clear hK K
 refine WC.trim [0, 2, 3] ?_
 simp only [ET, simprocAttr]
 refine WC.ret ?_
 simp only [↓EJ, EX, FA, simprocAttr, EQ, FnQ, Tryd.results22, wResL, tup, List.reverse_cons, List.reverse_nil, true_and, TS]
 exact PSem.done (fn := Tryd.f22) (s := s3) (v := ⟨w, t⟩) hx rfl (of_eq_true (by simp only [CL, PCL, TCL, DCL, and_self])) rfl
end Go.LexSem
-- CLOSERS: PCL, TCL, DCL, FCL
set_option maxHeartbeats 16000000
set_option maxRecDepth 8000
namespace Go.LexSem
open Go Go.V Go.Proofs Go.Num

theorem FCL : (∀ q, Closed (fracE q) = True) := fun q => eq_true (fracV_closed _ _ _)
theorem frac_inv {ts : List Tok} {s s' : PS} {q : Bool × Nat × Nat} (i : PInv ts s) (h : fracF ts s = .ok (q, s')) : Up ts s s' ∧ q.2.2 ≠ 0 := by
 have hdiv : ∀ n d : Nat, d ≠ 0 → d / n.gcd d ≠ 0 := fun n d hd => by
  have h1 : n.gcd d ≤ d := Nat.gcd_le_right n (by omega)
  have h2 : 0 < n.gcd d := Nat.gcd_pos_of_pos_right n (by omega)
  have := Nat.div_pos h1 h2
  omega
 unfold fracF at h
 split at h
 ·cases h
 ·rename_i b s1 h1
  have g1 := acc_ge i h1
  split at h
  ·cases h
  ·rename_i n s2 h2
   obtain ⟨rfl, hk, _, _⟩ := limbsF_ok g1.1 h2
   have g3 := goS_up g1.1 (by omega)
   split at h
   ·cases h
   ·rename_i s3 h3
    cases h
    exact ⟨g1.up (g3.trans (acc_ge g3.1 h3)), hdiv n 1 (by decide)⟩
   ·rename_i s3 h3
    have g4 := acc_ge g3.1 h3
    split at h
    ·cases h
    ·rename_i d s4 h4
     cases h
     obtain ⟨i5, h5, h6, _⟩ := denomF_inv g4.1 h4
     refine ⟨g1.up (g3.trans (g4.trans ⟨i5, by omega⟩)), hdiv n d h6⟩
theorem frac_up {ts : List Tok} {s s' : PS} {q : Bool × Nat × Nat} (i : PInv ts s) (h : fracF ts s = .ok (q, s')) : Up ts s s' := (frac_inv i h).1
theorem frac_def {ts : List Tok} {s s' : PS} {q : Bool × Nat × Nat} (h : fracF ts s = .ok (q, s')) : fracE q = .agg [.bool q.1, numV q.2.1, numV q.2.2] := by
 have h0 : q.2.2 ≠ 0 := by
  have hdiv : ∀ n d : Nat, d ≠ 0 → d / n.gcd d ≠ 0 := fun n d hd => by
   have h1 : n.gcd d ≤ d := Nat.gcd_le_right n (by omega)
   have h2 : 0 < n.gcd d := Nat.gcd_pos_of_pos_right n (by omega)
   have := Nat.div_pos h1 h2
   omega
  unfold fracF at h
  split at h
  ·cases h
  ·split at h
   ·cases h
   ·rename_i n s2 h2
    split at h
    ·cases h
    ·cases h; exact hdiv n 1 (by decide)
    ·split at h
     ·cases h
     ·rename_i d s4 h4
      cases h
      refine hdiv n d ?_
      unfold denomF at h4
      split at h4
      ·cases h4
      ·split at h4
       ·cases h4
       ·cases h4; assumption
 rw [numV_ne h0]; rfl
/-! ### Draws -/
structure Dr where
 kind : Nat
 low : Int
 high : Int
 from_ : Rt
 to_ : Rt
 probs : List Ex
 name : List UInt8
def drC (d : Dr) : List PVal := [.int .i64 d.kind, .int .i64 d.low, .int .i64 d.high, .bool d.from_.1, numV d.from_.2.1, numV d.from_.2.2, .bool d.to_.1, numV d.to_.2.1, numV d.to_.2.2, exsV d.probs, .str d.name]
def drV (d : Dr) : PVal := .agg (drC d)
theorem drC_len (d : Dr) : (drC d).length = 11 := rfl
theorem drV_closed (d : Dr) : Closed (drV d) := of_eq_true (by simp only [drV, drC, CL, PCL, and_self])
theorem RCL : (∀ d, Closed (drV d) = True) ∧ (∀ d, ClosedL (drC d) = True) := ⟨fun d => eq_true (drV_closed d), fun d => by simp only [drC, CL, PCL, and_self]⟩
def drawIn (ts : List Tok) (s : PS) : PR Dr := bnd (acceptF ts [102, 108, 105, 112] s) fun b s => match b with
 | true => bnd (expectF ts [[40]] s) fun _ s => bnd (exprG ts s) fun e s => .ok (⟨1, 0, 0, zr, zr, [e], []⟩, s)
 | false => bnd (acceptF ts [117, 110, 105, 102, 111, 114, 109] s) fun b s => match b with
 | true => bnd (expectF ts [[40]] s) fun _ s => bnd (integerF ts s) fun lo s => bnd (expectF ts [[44]] s) fun _ s => bnd (integerF ts s) fun hi s => .ok (⟨2, lo, hi, zr, zr, [], []⟩, s)
 | false => bnd (acceptF ts [116, 97, 98, 108, 101] s) fun b s => match b with
 | true => bnd (expectF ts [[40]] s) fun _ s => bnd (integerF ts s) fun lo s => bnd (expectF ts [[59]] s) fun _ s => bnd (exprsG ts s) fun l s => .ok (⟨3, lo, 0, zr, zr, l, []⟩, s)
 | false => bnd (acceptF ts [98, 105, 110, 111, 109, 105, 97, 108] s) fun b s => match b with
 | true => bnd (expectF ts [[40]] s) fun _ s => bnd (numberF ts s) fun hi s => bnd (expectF ts [[44]] s) fun _ s => bnd (exprG ts s) fun e s => .ok (⟨4, 0, hi, zr, zr, [e], []⟩, s)
 | false => bnd (acceptF ts [103, 101, 111, 109, 101, 116, 114, 105, 99] s) fun b s => match b with
 | true => bnd (expectF ts [[40]] s) fun _ s => bnd (fracF ts s) fun q s => .ok (⟨5, 0, 0, q, zr, [], []⟩, s)
 | false => bnd (acceptF ts [105, 110, 116, 101, 114, 118, 97, 108] s) fun b s => match b with
 | true => bnd (expectF ts [[40]] s) fun _ s => bnd (fracF ts s) fun q s => bnd (expectF ts [[44]] s) fun _ s => bnd (fracF ts s) fun q2 s => .ok (⟨6, 0, 0, q, q2, [], []⟩, s)
 | false => bnd (acceptF ts [98, 101, 116, 97] s) fun b s => match b with
 | true => bnd (expectF ts [[40]] s) fun _ s => bnd (numberF ts s) fun lo s => bnd (expectF ts [[44]] s) fun _ s => bnd (numberF ts s) fun hi s => .ok (⟨7, lo, hi, zr, zr, [], []⟩, s)
 | false => .error (erAt (cur ts s) 4)
def drawF (ts : List Tok) (s : PS) : PR Dr := bnd (acceptF ts [112, 111, 115, 116, 101, 114, 105, 111, 114] s) fun b s => match b with
 | true => bnd (nameF ts s) fun w s => .ok (⟨8, 0, 0, zr, zr, [], w⟩, s)
 | false => bnd (drawIn ts s) fun d s => bnd (expectF ts [[41]] s) fun _ s => .ok (d, s)
theorem drawIn_ge {ts : List Tok} {s s' : PS} {d : Dr} (i : PInv ts s) (h : drawIn ts s = .ok (d, s')) : Ge ts s s' := by
 unfold drawIn at h
 obtain ⟨b, s0, h0, h⟩ := bnd_inv h
 have g0 := acc_ge i h0
 cases b
 rotate_left
 ·obtain ⟨_, t0, k0, h⟩ := bnd_inv h
  have q0 := exp_up g0.1 k0
  obtain ⟨_, t1, k1, h⟩ := bnd_inv h
  have q1 := expr_up q0.1 k1
  cases h
  exact g0.trans (q0.ge.trans (q1.ge))
 refine g0.trans ?_
 obtain ⟨b, s1, h1, h⟩ := bnd_inv h
 have g1 := acc_ge g0.1 h1
 cases b
 rotate_left
 ·obtain ⟨_, t0, k0, h⟩ := bnd_inv h
  have q0 := exp_up g1.1 k0
  obtain ⟨_, t1, k1, h⟩ := bnd_inv h
  have q1 := int_up q0.1 k1
  obtain ⟨_, t2, k2, h⟩ := bnd_inv h
  have q2 := exp_up q1.1 k2
  obtain ⟨_, t3, k3, h⟩ := bnd_inv h
  have q3 := int_up q2.1 k3
  cases h
  exact g1.trans (q0.ge.trans (q1.ge.trans (q2.ge.trans (q3.ge))))
 refine g1.trans ?_
 obtain ⟨b, s2, h2, h⟩ := bnd_inv h
 have g2 := acc_ge g1.1 h2
 cases b
 rotate_left
 ·obtain ⟨_, t0, k0, h⟩ := bnd_inv h
  have q0 := exp_up g2.1 k0
  obtain ⟨_, t1, k1, h⟩ := bnd_inv h
  have q1 := int_up q0.1 k1
  obtain ⟨_, t2, k2, h⟩ := bnd_inv h
  have q2 := exp_up q1.1 k2
  obtain ⟨_, t3, k3, h⟩ := bnd_inv h
  have q3 := exprs_up q2.1 k3
  cases h
  exact g2.trans (q0.ge.trans (q1.ge.trans (q2.ge.trans (q3.ge))))
 refine g2.trans ?_
 obtain ⟨b, s3, h3, h⟩ := bnd_inv h
 have g3 := acc_ge g2.1 h3
 cases b
 rotate_left
 ·obtain ⟨_, t0, k0, h⟩ := bnd_inv h
  have q0 := exp_up g3.1 k0
  obtain ⟨_, t1, k1, h⟩ := bnd_inv h
  have q1 := num_up q0.1 k1
  obtain ⟨_, t2, k2, h⟩ := bnd_inv h
  have q2 := exp_up q1.1 k2
  obtain ⟨_, t3, k3, h⟩ := bnd_inv h
  have q3 := expr_up q2.1 k3
  cases h
  exact g3.trans (q0.ge.trans (q1.ge.trans (q2.ge.trans (q3.ge))))
 refine g3.trans ?_
 obtain ⟨b, s4, h4, h⟩ := bnd_inv h
 have g4 := acc_ge g3.1 h4
 cases b
 rotate_left
 ·obtain ⟨_, t0, k0, h⟩ := bnd_inv h
  have q0 := exp_up g4.1 k0
  obtain ⟨_, t1, k1, h⟩ := bnd_inv h
  have q1 := frac_up q0.1 k1
  cases h
  exact g4.trans (q0.ge.trans (q1.ge))
 refine g4.trans ?_
 obtain ⟨b, s5, h5, h⟩ := bnd_inv h
 have g5 := acc_ge g4.1 h5
 cases b
 rotate_left
 ·obtain ⟨_, t0, k0, h⟩ := bnd_inv h
  have q0 := exp_up g5.1 k0
  obtain ⟨_, t1, k1, h⟩ := bnd_inv h
  have q1 := frac_up q0.1 k1
  obtain ⟨_, t2, k2, h⟩ := bnd_inv h
  have q2 := exp_up q1.1 k2
  obtain ⟨_, t3, k3, h⟩ := bnd_inv h
  have q3 := frac_up q2.1 k3
  cases h
  exact g5.trans (q0.ge.trans (q1.ge.trans (q2.ge.trans (q3.ge))))
 refine g5.trans ?_
 obtain ⟨b, s6, h6, h⟩ := bnd_inv h
 have g6 := acc_ge g5.1 h6
 cases b
 rotate_left
 ·obtain ⟨_, t0, k0, h⟩ := bnd_inv h
  have q0 := exp_up g6.1 k0
  obtain ⟨_, t1, k1, h⟩ := bnd_inv h
  have q1 := num_up q0.1 k1
  obtain ⟨_, t2, k2, h⟩ := bnd_inv h
  have q2 := exp_up q1.1 k2
  obtain ⟨_, t3, k3, h⟩ := bnd_inv h
  have q3 := num_up q2.1 k3
  cases h
  exact g6.trans (q0.ge.trans (q1.ge.trans (q2.ge.trans (q3.ge))))
 refine g6.trans ?_
 cases h
theorem draw_up {ts : List Tok} {s s' : PS} {d : Dr} (i : PInv ts s) (h : drawF ts s = .ok (d, s')) : Up ts s s' := by
 unfold drawF at h
 obtain ⟨b, s1, h1, h⟩ := bnd_inv h
 have g1 := acc_ge i h1
 cases b
 ·obtain ⟨_, s2, h2, h⟩ := bnd_inv h
  obtain ⟨_, s3, h3, h⟩ := bnd_inv h
  cases h
  have g2 := drawIn_ge g1.1 h2
  exact g1.up (g2.up (exp_up g2.1 h3))
 ·obtain ⟨_, s2, h2, h⟩ := bnd_inv h
  cases h
  exact g1.up (name_up g1.1 h2)
end Go.LexSem
-- CLOSERS: PCL, TCL, DCL, FCL, RCL
set_option maxHeartbeats 16000000
set_option maxRecDepth 8000
namespace Go.LexSem
open Go Go.V Go.Proofs Go.Num

theorem draw_sem (ts : List Tok) (s0 : PS) (i0 : PInv ts s0) : PSem 48 [] ts s0 (drawF ts s0) drV := by
 obtain ⟨x, hx⟩ : ∃ x, x = drawF ts s0 := ⟨_, rfl⟩
 rw [← hx]
 unfold drawF drawIn at hx
 unfold PSem
 refine FSem.enter' (C := C) (n := 111) Tryd.func48 rfl rfl ok_48 (by simp) ?_
 simp only [argEnv]
 refine WC.rs fun K hK => ?_
 simp only [↓EJ, EX, FA, simprocAttr]
 refine hK _ ?_; try clear hK K
 refine WC.trim [0, 2, 3, 6, 12, 22, 37, 52, 68, 77, 92] ?_
 simp only [ET, simprocAttr]
 refine WC.rs fun K hK => ?_
 simp only [↓EJ, EX, FA, simprocAttr]
 refine hK _ ?_; try clear hK K
 refine WC.trim [0, 2, 3, 6, 12, 22, 37, 52, 68, 77, 92] ?_
 simp only [ET, simprocAttr]
 refine WC.bs fun K0 hK0 => ?_
 refine WC.rs fun K hK => ?_
 simp only [↓EJ, EX, FA, simprocAttr]
 refine CallX.mk (CallW.par (enc := .bool) (accept_sem ts s0 i0 [112, 111, 115, 116, 101, 114, 105, 111, 114]) rfl rfl (by simp only [CL, and_self]) (fun v => by simp only [CL]) (fun b1 s1 h1 => ?_) (fun e s' he => by intros; exact PSem.fails (fn := Tryd.f48) (s := s') (hx.trans (by simp only [he, bnd_error])) rfl rfl))
 simp only [h1, bnd_ok] at hx
 have g1 := acc_ge i0 h1
 have i1 := g1.1
 simp only [↓EJ, EX, FA, simprocAttr]
 refine hK _ ?_; try clear hK K
 refine WC.trim [0, 2, 3, 6, 12, 22, 37, 52, 68, 77, 92] ?_
 simp only [ET, simprocAttr]
 refine WC.cond (c := .tmp 6) rfl (fun h => ?_) (fun h => ?_)
 ·obtain rfl : b1 = true := by simpa using h
  dsimp only at hx
  refine WC.rs fun K hK => ?_
  simp only [↓EJ, EX, FA, simprocAttr]
  refine CallX.mk (CallW.par (enc := .str) (name_sem ts s1 i1) rfl rfl (by simp only [CL, PCL, TCL, DCL, FCL, RCL, and_self]) (fun v => by simp only [CL, PCL, TCL, DCL, FCL, RCL, and_self]) (fun w s11 h11 => ?_) (fun e s' he => by intros; exact PSem.fails (fn := Tryd.f48) (s := s') (hx.trans (by simp only [he, bnd_error])) rfl rfl))
  simp only [h11, bnd_ok] at hx
  have g11 := name_up i1 h11
  have i11 := g11.1
  simp only [↓EJ, EX, FA, simprocAttr, TS]
  refine hK _ ?_; try clear hK K
  refine WC.trim [0, 2, 3, 6, 12, 22, 37, 52, 68, 77, 92] ?_
  simp only [ET, simprocAttr]
  refine WC.ret ?_
  simp only [↓EJ, EX, FA, simprocAttr, EQ, FnQ, Tryd.results48, wResL, tup, List.reverse_cons, List.reverse_nil, true_and, TS]
  exact PSem.done (fn := Tryd.f48) (s := s11) (v := ⟨8, 0, 0, zr, zr, [], w⟩) hx rfl (of_eq_true (by simp only [CL, PCL, TCL, DCL, FCL, RCL, and_self])) rfl
 obtain rfl : b1 = false := by simpa using h
 dsimp only at hx
 refine WC.rs fun K hK => ?_
 simp only [↓EJ, EX, FA, simprocAttr]
 refine CallX.mk (CallW.par (enc := .bool) (accept_sem ts s1 i1 [102, 108, 105, 112]) rfl rfl (by simp only [CL, and_self]) (fun v => by simp only [CL]) (fun b2 s2 h2 => ?_) (fun e s' he => by intros; exact PSem.fails (fn := Tryd.f48) (s := s') (hx.trans (by simp only [he, bnd_error])) rfl rfl))
 simp only [h2, bnd_ok] at hx
 have g2 := acc_ge i1 h2
 have i2 := g2.1
 simp only [↓EJ, EX, FA, simprocAttr]
 refine hK _ ?_; try clear hK K
 refine WC.trim [0, 2, 3, 6, 12, 22, 37, 52, 68, 77, 92] ?_
 simp only [ET, simprocAttr]
 refine WC.cond (c := .tmp 12) rfl (fun h => ?_) (fun h => ?_)
 ·obtain rfl : b2 = true := by simpa using h
  dsimp only at hx
  refine WC.zs [1] (by simp only [cutZ, List.drop_zero, List.drop_succ_cons, List.take_zero, List.take_succ_cons, Option.map_some]; rfl) fun K hK => ?_
  simp only [↓EJ, EX, FA, simprocAttr, EZ]
  refine CallX.mk (CallW.par (enc := fun _ => .tuple []) (expect_sem ts [[40]] s2 i2 (by decide)) rfl rfl (by simp only [CL, List.map_cons, List.map_nil, and_self]) (fun v => by simp only [CL]) (fun u11 s11 h11 => ?_) (fun e s' he => by intros; exact PSem.fails (fn := Tryd.f48) (s := s') (hx.trans (by simp only [he, bnd_error])) rfl rfl))
  simp only [h11, bnd_ok] at hx
  have g11 := exp_up i2 h11
  have i11 := g11.1
  simp only [↓EJ, EX, FA, simprocAttr, EZ]
  refine hK _ ?_; try clear hK K
  refine WC.trim [0, 2, 3, 6, 12, 22, 37, 52, 68, 77, 92] ?_
  simp only [ET, simprocAttr]
  refine WC.z1 [2] (by simp only [cutZ, List.drop_zero, List.drop_succ_cons, List.take_zero, List.take_succ_cons, Option.map_some]; rfl) ?_
  simp only [↓EJ, EX, FA, simprocAttr, EZ]
  refine CallX.mk (CallW.par (enc := exV) (expr_sem ts s11 i11) rfl rfl (by simp only [CL, PCL, TCL, DCL, FCL, RCL, and_self]) (fun v => by simp only [CL, PCL, TCL, DCL, FCL, RCL, and_self]) (fun e s12 h12 => ?_) (fun e s' he => by intros; exact PSem.fails (fn := Tryd.f48) (s := s') (hx.trans (by simp only [he, bnd_error])) rfl rfl))
  simp only [h12, bnd_ok] at hx
  have g12 := expr_up i11 h12
  have i12 := g12.1
  simp only [↓EJ, EX, FA, simprocAttr, EZ, TS, XS]
  try simp only [EQ, reduceIte, Nat.reduceEqDiff]
  refine hK0 _ ?_; try clear hK0 K0
  refine WC.zs [1] (by simp only [cutZ, List.drop_zero, List.drop_succ_cons, List.take_zero, List.take_succ_cons, Option.map_some]; rfl) fun K hK => ?_
  simp only [↓EJ, EX, FA, simprocAttr, EZ]
  refine CallX.mk (CallW.par (enc := fun _ => .tuple []) (expect_sem ts [[41]] s12 i12 (by decide)) rfl rfl (by simp only [CL, List.map_cons, List.map_nil, and_self]) (fun v => by simp only [CL]) (fun u31 s31 h31 => ?_) (fun e s' he => by intros; exact PSem.fails (fn := Tryd.f48) (s := s') (hx.trans (by simp only [he, bnd_error])) rfl rfl))
  simp only [h31, bnd_ok] at hx
  have g31 := exp_up i12 h31
  have i31 := g31.1
  simp only [↓EJ, EX, FA, simprocAttr, EZ]
  refine hK _ ?_; try clear hK K
  refine WC.trim [0, 2, 3, 6, 12, 22, 37, 52, 68, 77, 92] ?_
  simp only [ET, simprocAttr]
  refine WC.rs fun K hK => ?_
  simp only [↓EJ, EX, FA, simprocAttr, TS]
  refine hK _ ?_; try clear hK K
  refine WC.trim [0, 2, 3, 6, 12, 22, 37, 52, 68, 77, 92] ?_
  simp only [ET, simprocAttr]
  refine WC.ret ?_
  simp only [↓EJ, EX, FA, simprocAttr, EQ, FnQ, Tryd.results48, wResL, tup, List.reverse_cons, List.reverse_nil, true_and, TS]
  exact PSem.done (fn := Tryd.f48) (s := s31) (v := ⟨1, 0, 0, zr, zr, [e], []⟩) hx rfl (of_eq_true (by simp only [CL, PCL, TCL, DCL, FCL, RCL, and_self])) rfl
 obtain rfl : b2 = false := by simpa using h
 dsimp only at hx
 refine WC.rs fun K hK => ?_
 simp only [↓EJ, EX, FA, simprocAttr]
 refine CallX.mk (CallW.par (enc := .bool) (accept_sem ts s2 i2 [117, 110, 105, 102, 111, 114, 109]) rfl rfl (by simp only [CL, and_self]) (fun v => by simp only [CL]) (fun b3 s3 h3 => ?_) (fun e s' he => by intros; exact PSem.fails (fn := Tryd.f48) (s := s') (hx.trans (by simp only [he, bnd_error])) rfl rfl))
 simp only [h3, bnd_ok] at hx
 have g3 := acc_ge i2 h3
 have i3 := g3.1
 simp only [↓EJ, EX, FA, simprocAttr]
 refine hK _ ?_; try clear hK K
 refine WC.trim [0, 2, 3, 6, 12, 22, 37, 52, 68, 77, 92] ?_
 simp only [ET, simprocAttr]
 refine WC.cond (c := .tmp 22) rfl (fun h => ?_) (fun h => ?_)
 ·obtain rfl : b3 = true := by simpa using h
  dsimp only at hx
  refine WC.zs [1] (by simp only [cutZ, List.drop_zero, List.drop_succ_cons, List.take_zero, List.take_succ_cons, Option.map_some]; rfl) fun K hK => ?_
  simp only [↓EJ, EX, FA, simprocAttr, EZ]
  refine CallX.mk (CallW.par (enc := fun _ => .tuple []) (expect_sem ts [[40]] s3 i3 (by decide)) rfl rfl (by simp only [CL, List.map_cons, List.map_nil, and_self]) (fun v => by simp only [CL]) (fun u11 s11 h11 => ?_) (fun e s' he => by intros; exact PSem.fails (fn := Tryd.f48) (s := s') (hx.trans (by simp only [he, bnd_error])) rfl rfl))
  simp only [h11, bnd_ok] at hx
  have g11 := exp_up i3 h11
  have i11 := g11.1
  simp only [↓EJ, EX, FA, simprocAttr, EZ]
  refine hK _ ?_; try clear hK K
  refine WC.trim [0, 2, 3, 6, 12, 22, 37, 52, 68, 77, 92] ?_
  simp only [ET, simprocAttr]
  refine WC.rs fun K hK => ?_
  simp only [↓EJ, EX, FA, simprocAttr]
  refine CallX.mk (CallW.par (enc := (fun k : Int => .int .i64 k)) (integer_sem ts s11 i11) rfl rfl (by simp only [CL, PCL, TCL, DCL, FCL, RCL, and_self]) (fun v => by simp only [CL, PCL, TCL, DCL, FCL, RCL, and_self]) (fun lo s12 h12 => ?_) (fun e s' he => by intros; exact PSem.fails (fn := Tryd.f48) (s := s') (hx.trans (by simp only [he, bnd_error])) rfl rfl))
  simp only [h12, bnd_ok] at hx
  have g12 := int_up i11 h12
  have i12 := g12.1
  simp only [↓EJ, EX, FA, simprocAttr, TS]
  refine hK _ ?_; try clear hK K
  refine WC.trim [0, 2, 3, 6, 12, 22, 37, 52, 68, 77, 92] ?_
  simp only [ET, simprocAttr]
  refine WC.zs [1] (by simp only [cutZ, List.drop_zero, List.drop_succ_cons, List.take_zero, List.take_succ_cons, Option.map_some]; rfl) fun K hK => ?_
  simp only [↓EJ, EX, FA, simprocAttr, EZ]
  refine CallX.mk (CallW.par (enc := fun _ => .tuple []) (expect_sem ts [[44]] s12 i12 (by decide)) rfl rfl (by simp only [CL, List.map_cons, List.map_nil, and_self]) (fun v => by simp only [CL]) (fun u13 s13 h13 => ?_) (fun e s' he => by intros; exact PSem.fails (fn := Tryd.f48) (s := s') (hx.trans (by simp only [he, bnd_error])) rfl rfl))
  simp only [h13, bnd_ok] at hx
  have g13 := exp_up i12 h13
  have i13 := g13.1
  simp only [↓EJ, EX, FA, simprocAttr, EZ]
  refine hK _ ?_; try clear hK K
  refine WC.trim [0, 2, 3, 6, 12, 22, 37, 52, 68, 77, 92] ?_
  simp only [ET, simprocAttr]
  refine WC.r1 ?_
  simp only [↓EJ, EX, FA, simprocAttr, TS]
  refine CallX.mk (CallW.par (enc := (fun k : Int => .int .i64 k)) (integer_sem ts s13 i13) rfl rfl (by simp only [CL, PCL, TCL, DCL, FCL, RCL, and_self]) (fun v => by simp only [CL, PCL, TCL, DCL, FCL, RCL, and_self]) (fun hi s14 h14 => ?_) (fun e s' he => by intros; exact PSem.fails (fn := Tryd.f48) (s := s') (hx.trans (by simp only [he, bnd_error])) rfl rfl))
  simp only [h14, bnd_ok] at hx
  have g14 := int_up i13 h14
  have i14 := g14.1
  simp only [↓EJ, EX, FA, simprocAttr, TS]
  try simp only [EQ, reduceIte, Nat.reduceEqDiff]
  refine hK0 _ ?_; try clear hK0 K0
  refine WC.zs [1] (by simp only [cutZ, List.drop_zero, List.drop_succ_cons, List.take_zero, List.take_succ_cons, Option.map_some]; rfl) fun K hK => ?_
  simp only [↓EJ, EX, FA, simprocAttr, EZ]
  refine CallX.mk (CallW.par (enc := fun _ => .tuple []) (expect_sem ts [[41]] s14 i14 (by decide)) rfl rfl (by simp only [CL, List.map_cons, List.map_nil, and_self]) (fun v => by simp only [CL]) (fun u31 s31 h31 => ?_) (fun e s' he => by intros; exact PSem.fails (fn := Tryd.f48) (s := s') (hx.trans (by simp only [he, bnd_error])) rfl rfl))
  simp only [h31, bnd_ok] at hx
  have g31 := exp_up i14 h31
  have i31 := g31.1
  simp only [↓EJ, EX, FA, simprocAttr, EZ]
  refine hK _ ?_; try clear hK K
  refine WC.trim [0, 2, 3, 6, 12, 22, 37, 52, 68, 77, 92] ?_
  simp only [ET, simprocAttr]
  refine WC.rs fun K hK => ?_
  simp only [↓EJ, EX, FA, simprocAttr, TS]
  refine hK _ ?_; try clear hK K
  refine WC.trim [0, 2, 3, 6, 12, 22, 37, 52, 68, 77, 92] ?_
  simp only [ET, simprocAttr]
  refine WC.ret ?_
  simp only [↓EJ, EX, FA, simprocAttr, EQ, FnQ, Tryd.results48, wResL, tup, List.reverse_cons, List.reverse_nil, true_and, TS]
  exact PSem.done (fn := Tryd.f48) (s := s31) (v := ⟨2, lo, hi, zr, zr, [], []⟩) hx rfl (of_eq_true (by simp only [CL, PCL, TCL, DCL, FCL, RCL, and_self])) rfl
 obtain rfl : b3 = false := by simpa using h
 dsimp only at hx
 refine WC.rs fun K hK => ?_
 simp only [↓EJ, EX, FA, simprocAttr]
 refine CallX.mk (CallW.par (enc := .bool) (accept_sem ts s3 i3 [116, 97, 98, 108, 101]) rfl rfl (by simp only [CL, and_self]) (fun v => by simp only [CL]) (fun b4 s4 h4 => ?_) (fun e s' he => by intros; exact PSem.fails (fn := Tryd.f48) (s := s') (hx.trans (by simp only [he, bnd_error])) rfl rfl))
 simp only [h4, bnd_ok] at hx
 have g4 := acc_ge i3 h4
 have i4 := g4.1
 simp only [↓EJ, EX, FA, simprocAttr]
 refine hK _ ?_; try clear hK K
 refine WC.trim [0, 2, 3, 6, 12, 22, 37, 52, 68, 77, 92] ?_
 simp only [ET, simprocAttr]
 refine WC.cond (c := .tmp 37) rfl (fun h => ?_) (fun h => ?_)
 ·obtain rfl : b4 = true := by simpa using h
  dsimp only at hx
  refine WC.zs [1] (by simp only [cutZ, List.drop_zero, List.drop_succ_cons, List.take_zero, List.take_succ_cons, Option.map_some]; rfl) fun K hK => ?_
  simp only [↓EJ, EX, FA, simprocAttr, EZ]
  refine CallX.mk (CallW.par (enc := fun _ => .tuple []) (expect_sem ts [[40]] s4 i4 (by decide)) rfl rfl (by simp only [CL, List.map_cons, List.map_nil, and_self]) (fun v => by simp only [CL]) (fun u11 s11 h11 => ?_) (fun e s' he => by intros; exact PSem.fails (fn := Tryd.f48) (s := s') (hx.trans (by simp only [he, bnd_error])) rfl rfl))
  simp only [h11, bnd_ok] at hx
  have g11 := exp_up i4 h11
  have i11 := g11.1
  simp only [↓EJ, EX, FA, simprocAttr, EZ]
  refine hK _ ?_; try clear hK K
  refine WC.trim [0, 2, 3, 6, 12, 22, 37, 52, 68, 77, 92] ?_
  simp only [ET, simprocAttr]
  refine WC.rs fun K hK => ?_
  simp only [↓EJ, EX, FA, simprocAttr]
  refine CallX.mk (CallW.par (enc := (fun k : Int => .int .i64 k)) (integer_sem ts s11 i11) rfl rfl (by simp only [CL, PCL, TCL, DCL, FCL, RCL, and_self]) (fun v => by simp only [CL, PCL, TCL, DCL, FCL, RCL, and_self]) (fun lo s12 h12 => ?_) (fun e s' he => by intros; exact PSem.fails (fn := Tryd.f48) (s := s') (hx.trans (by simp only [he, bnd_error])) rfl rfl))
  simp only [h12, bnd_ok] at hx
  have g12 := int_up i11 h12
  have i12 := g12.1
  simp only [↓EJ, EX, FA, simprocAttr, TS]
  refine hK _ ?_; try clear hK K
  refine WC.trim [0, 2, 3, 6, 12, 22, 37, 52, 68, 77, 92] ?_
  simp only [ET, simprocAttr]
  refine WC.zs [1] (by simp only [cutZ, List.drop_zero, List.drop_succ_cons, List.take_zero, List.take_succ_cons, Option.map_some]; rfl) fun K hK => ?_
  simp only [↓EJ, EX, FA, simprocAttr, EZ]
  refine CallX.mk (CallW.par (enc := fun _ => .tuple []) (expect_sem ts [[59]] s12 i12 (by decide)) rfl rfl (by simp only [CL, List.map_cons, List.map_nil, and_self]) (fun v => by simp only [CL]) (fun u13 s13 h13 => ?_) (fun e s' he => by intros; exact PSem.fails (fn := Tryd.f48) (s := s') (hx.trans (by simp only [he, bnd_error])) rfl rfl))
  simp only [h13, bnd_ok] at hx
  have g13 := exp_up i12 h13
  have i13 := g13.1
  simp only [↓EJ, EX, FA, simprocAttr, EZ]
  refine hK _ ?_; try clear hK K
  refine WC.trim [0, 2, 3, 6, 12, 22, 37, 52, 68, 77, 92] ?_
  simp only [ET, simprocAttr]
  refine WC.r1 ?_
  simp only [↓EJ, EX, FA, simprocAttr, TS]
  refine CallX.mk (CallW.par (enc := exsV) (exprs_sem ts s13 i13) rfl rfl (by simp only [CL, PCL, TCL, DCL, FCL, RCL, and_self]) (fun v => by simp only [CL, PCL, TCL, DCL, FCL, RCL, and_self]) (fun l s14 h14 => ?_) (fun e s' he => by intros; exact PSem.fails (fn := Tryd.f48) (s := s') (hx.trans (by simp only [he, bnd_error])) rfl rfl))
  simp only [h14, bnd_ok] at hx
  have g14 := exprs_up i13 h14
  have i14 := g14.1
  simp only [↓EJ, EX, FA, simprocAttr, TS, exsV_sc]
  try simp only [EQ, reduceIte, Nat.reduceEqDiff]
  refine hK0 _ ?_; try clear hK0 K0
  refine WC.zs [1] (by simp only [cutZ, List.drop_zero, List.drop_succ_cons, List.take_zero, List.take_succ_cons, Option.map_some]; rfl) fun K hK => ?_
  simp only [↓EJ, EX, FA, simprocAttr, EZ]
  refine CallX.mk (CallW.par (enc := fun _ => .tuple []) (expect_sem ts [[41]] s14 i14 (by decide)) rfl rfl (by simp only [CL, List.map_cons, List.map_nil, and_self]) (fun v => by simp only [CL]) (fun u31 s31 h31 => ?_) (fun e s' he => by intros; exact PSem.fails (fn := Tryd.f48) (s := s') (hx.trans (by simp only [he, bnd_error])) rfl rfl))
  simp only [h31, bnd_ok] at hx
  have g31 := exp_up i14 h31
  have i31 := g31.1
  simp only [↓EJ, EX, FA, simprocAttr, EZ]
  refine hK _ ?_; try clear hK K
  refine WC.trim [0, 2, 3, 6, 12, 22, 37, 52, 68, 77, 92] ?_
  simp only [ET, simprocAttr]
  refine WC.rs fun K hK => ?_
  simp only [↓EJ, EX, FA, simprocAttr, TS]
  refine hK _ ?_; try clear hK K
  refine WC.trim [0, 2, 3, 6, 12, 22, 37, 52, 68, 77, 92] ?_
  simp only [ET, simprocAttr]
  refine WC.ret ?_
  simp only [↓EJ, EX, FA, simprocAttr, EQ, FnQ, Tryd.results48, wResL, tup, List.reverse_cons, List.reverse_nil, true_and, TS]
  exact PSem.done (fn := Tryd.f48) (s := s31) (v := ⟨3, lo, 0, zr, zr, l, []⟩) hx rfl (of_eq_true (by simp only [CL, PCL, TCL, DCL, FCL, RCL, and_self])) rfl
 obtain rfl : b4 = false := by simpa using h
 dsimp only at hx
 refine WC.rs fun K hK => ?_
 simp only [↓EJ, EX, FA, simprocAttr]
 refine CallX.mk (CallW.par (enc := .bool) (accept_sem ts s4 i4 [98, 105, 110, 111, 109, 105, 97, 108]) rfl rfl (by simp only [CL, and_self]) (fun v => by simp only [CL]) (fun b5 s5 h5 => ?_) (fun e s' he => by intros; exact PSem.fails (fn := Tryd.f48) (s := s') (hx.trans (by simp only [he, bnd_error])) rfl rfl))
 simp only [h5, bnd_ok] at hx
 have g5 := acc_ge i4 h5
 have i5 := g5.1
 simp only [↓EJ, EX, FA, simprocAttr]
 refine hK _ ?_; try clear hK K
 refine WC.trim [0, 2, 3, 6, 12, 22, 37, 52, 68, 77, 92] ?_
 simp only [ET, simprocAttr]
 refine WC.cond (c := .tmp 52) rfl (fun h => ?_) (fun h => ?_)
 ·obtain rfl : b5 = true := by simpa using h
  dsimp only at hx
  refine WC.zs [1] (by simp only [cutZ, List.drop_zero, List.drop_succ_cons, List.take_zero, List.take_succ_cons, Option.map_some]; rfl) fun K hK => ?_
  simp only [↓EJ, EX, FA, simprocAttr, EZ]
  refine CallX.mk (CallW.par (enc := fun _ => .tuple []) (expect_sem ts [[40]] s5 i5 (by decide)) rfl rfl (by simp only [CL, List.map_cons, List.map_nil, and_self]) (fun v => by simp only [CL]) (fun u11 s11 h11 => ?_) (fun e s' he => by intros; exact PSem.fails (fn := Tryd.f48) (s := s') (hx.trans (by simp only [he, bnd_error])) rfl rfl))
  simp only [h11, bnd_ok] at hx
  have g11 := exp_up i5 h11
  have i11 := g11.1
  simp only [↓EJ, EX, FA, simprocAttr, EZ]
  refine hK _ ?_; try clear hK K
  refine WC.trim [0, 2, 3, 6, 12, 22, 37, 52, 68, 77, 92] ?_
  simp only [ET, simprocAttr]
  refine WC.rs fun K hK => ?_
  simp only [↓EJ, EX, FA, simprocAttr]
  refine CallX.mk (CallW.par (enc := (fun k : Nat => .int .i64 (k : Int))) (number_sem ts s11 i11) rfl rfl (by simp only [CL, PCL, TCL, DCL, FCL, RCL, and_self]) (fun v => by simp only [CL, PCL, TCL, DCL, FCL, RCL, and_self]) (fun hi s12 h12 => ?_) (fun e s' he => by intros; exact PSem.fails (fn := Tryd.f48) (s := s') (hx.trans (by simp only [he, bnd_error])) rfl rfl))
  simp only [h12, bnd_ok] at hx
  have g12 := num_up i11 h12
  have i12 := g12.1
  simp only [↓EJ, EX, FA, simprocAttr, TS]
  refine hK _ ?_; try clear hK K
  refine WC.trim [0, 2, 3, 6, 12, 22, 37, 52, 68, 77, 92] ?_
  simp only [ET, simprocAttr]
  refine WC.zs [1] (by simp only [cutZ, List.drop_zero, List.drop_succ_cons, List.take_zero, List.take_succ_cons, Option.map_some]; rfl) fun K hK => ?_
  simp only [↓EJ, EX, FA, simprocAttr, EZ]
  refine CallX.mk (CallW.par (enc := fun _ => .tuple []) (expect_sem ts [[44]] s12 i12 (by decide)) rfl rfl (by simp only [CL, List.map_cons, List.map_nil, and_self]) (fun v => by simp only [CL]) (fun u13 s13 h13 => ?_) (fun e s' he => by intros; exact PSem.fails (fn := Tryd.f48) (s := s') (hx.trans (by simp only [he, bnd_error])) rfl rfl))
  simp only [h13, bnd_ok] at hx
  have g13 := exp_up i12 h13
  have i13 := g13.1
  simp only [↓EJ, EX, FA, simprocAttr, EZ]
  refine hK _ ?_; try clear hK K
  refine WC.trim [0, 2, 3, 6, 12, 22, 37, 52, 68, 77, 92] ?_
  simp only [ET, simprocAttr]
  refine WC.z1 [2] (by simp only [cutZ, List.drop_zero, List.drop_succ_cons, List.take_zero, List.take_succ_cons, Option.map_some]; rfl) ?_
  simp only [↓EJ, EX, FA, simprocAttr, EZ]
  refine CallX.mk (CallW.par (enc := exV) (expr_sem ts s13 i13) rfl rfl (by simp only [CL, PCL, TCL, DCL, FCL, RCL, and_self]) (fun v => by simp only [CL, PCL, TCL, DCL, FCL, RCL, and_self]) (fun e s14 h14 => ?_) (fun e s' he => by intros; exact PSem.fails (fn := Tryd.f48) (s := s') (hx.trans (by simp only [he, bnd_error])) rfl rfl))
  simp only [h14, bnd_ok] at hx
  have g14 := expr_up i13 h14
  have i14 := g14.1
  simp only [↓EJ, EX, FA, simprocAttr, EZ, TS, XS]
  try simp only [EQ, reduceIte, Nat.reduceEqDiff]
  refine hK0 _ ?_; try clear hK0 K0
  refine WC.zs [1] (by simp only [cutZ, List.drop_zero, List.drop_succ_cons, List.take_zero, List.take_succ_cons, Option.map_some]; rfl) fun K hK => ?_
  simp only [↓EJ, EX, FA, simprocAttr, EZ]
  refine CallX.mk (CallW.par (enc := fun _ => .tuple []) (expect_sem ts [[41]] s14 i14 (by decide)) rfl rfl (by simp only [CL, List.map_cons, List.map_nil, and_self]) (fun v => by simp only [CL]) (fun u31 s31 h31 => ?_) (fun e s' he => by intros; exact PSem.fails (fn := Tryd.f48) (s := s') (hx.trans (by simp only [he, bnd_error])) rfl rfl))
  simp only [h31, bnd_ok] at hx
  have g31 := exp_up i14 h31
  have i31 := g31.1
  simp only [↓EJ, EX, FA, simprocAttr, EZ]
  refine hK _ ?_; try clear hK K
  refine WC.trim [0, 2, 3, 6, 12, 22, 37, 52, 68, 77, 92] ?_
  simp only [ET, simprocAttr]
  refine WC.rs fun K hK => ?_
  simp only [↓EJ, EX, FA, simprocAttr, TS]
  refine hK _ ?_; try clear hK K
  refine WC.trim [0, 2, 3, 6, 12, 22, 37, 52, 68, 77, 92] ?_
  simp only [ET, simprocAttr]
  refine WC.ret ?_
  simp only [↓EJ, EX, FA, simprocAttr, EQ, FnQ, Tryd.results48, wResL, tup, List.reverse_cons, List.reverse_nil, true_and, TS]
  exact PSem.done (fn := Tryd.f48) (s := s31) (v := ⟨4, 0, hi, zr, zr, [e], []⟩) hx rfl (of_eq_true (by simp only [CL, PCL, TCL, DCL, FCL, RCL, and_self])) rfl
 obtain rfl : b5 = false := by simpa using h
 dsimp only at hx
 refine WC.rs fun K hK => ?_
 simp only [↓EJ, EX, FA, simprocAttr]
 refine CallX.mk (CallW.par (enc := .bool) (accept_sem ts s5 i5 [103, 101, 111, 109, 101, 116, 114, 105, 99]) rfl rfl (by simp only [CL, and_self]) (fun v => by simp only [CL]) (fun b6 s6 h6 => ?_) (fun e s' he => by intros; exact PSem.fails (fn := Tryd.f48) (s := s') (hx.trans (by simp only [he, bnd_error])) rfl rfl))
 simp only [h6, bnd_ok] at hx
 have g6 := acc_ge i5 h6
 have i6 := g6.1
 simp only [↓EJ, EX, FA, simprocAttr]
 refine hK _ ?_; try clear hK K
 refine WC.trim [0, 2, 3, 6, 12, 22, 37, 52, 68, 77, 92] ?_
 simp only [ET, simprocAttr]
 refine WC.cond (c := .tmp 68) rfl (fun h => ?_) (fun h => ?_)
 ·obtain rfl : b6 = true := by simpa using h
  dsimp only at hx
  refine WC.zs [1] (by simp only [cutZ, List.drop_zero, List.drop_succ_cons, List.take_zero, List.take_succ_cons, Option.map_some]; rfl) fun K hK => ?_
  simp only [↓EJ, EX, FA, simprocAttr, EZ]
  refine CallX.mk (CallW.par (enc := fun _ => .tuple []) (expect_sem ts [[40]] s6 i6 (by decide)) rfl rfl (by simp only [CL, List.map_cons, List.map_nil, and_self]) (fun v => by simp only [CL]) (fun u11 s11 h11 => ?_) (fun e s' he => by intros; exact PSem.fails (fn := Tryd.f48) (s := s') (hx.trans (by simp only [he, bnd_error])) rfl rfl))
  simp only [h11, bnd_ok] at hx
  have g11 := exp_up i6 h11
  have i11 := g11.1
  simp only [↓EJ, EX, FA, simprocAttr, EZ]
  refine hK _ ?_; try clear hK K
  refine WC.trim [0, 2, 3, 6, 12, 22, 37, 52, 68, 77, 92] ?_
  simp only [ET, simprocAttr]
  refine WC.r1 ?_
  simp only [↓EJ, EX, FA, simprocAttr]
  refine CallX.mk (CallW.par (enc := fracE) (fraction_sem ts s11 i11) rfl rfl (by simp only [CL, PCL, TCL, DCL, FCL, RCL, and_self]) (fun v => by simp only [CL, PCL, TCL, DCL, FCL, RCL, and_self]) (fun q s12 h12 => ?_) (fun e s' he => by intros; exact PSem.fails (fn := Tryd.f48) (s := s') (hx.trans (by simp only [he, bnd_error])) rfl rfl))
  simp only [h12, bnd_ok] at hx
  have g12 := frac_up i11 h12
  have i12 := g12.1
  have hq := frac_def h12
  simp only [↓EJ, EX, FA, simprocAttr, hq, TS]
  try simp only [EQ, reduceIte, Nat.reduceEqDiff]
  refine hK0 _ ?_; try clear hK0 K0
  refine WC.zs [1] (by simp only [cutZ, List.drop_zero, List.drop_succ_cons, List.take_zero, List.take_succ_cons, Option.map_some]; rfl) fun K hK => ?_
  simp only [↓EJ, EX, FA, simprocAttr, EZ]
  refine CallX.mk (CallW.par (enc := fun _ => .tuple []) (expect_sem ts [[41]] s12 i12 (by decide)) rfl rfl (by simp only [CL, List.map_cons, List.map_nil, and_self]) (fun v => by simp only [CL]) (fun u31 s31 h31 => ?_) (fun e s' he => by intros; exact PSem.fails (fn := Tryd.f48) (s := s') (hx.trans (by simp only [he, bnd_error])) rfl rfl))
  simp only [h31, bnd_ok] at hx
  have g31 := exp_up i12 h31
  have i31 := g31.1
  simp only [↓EJ, EX, FA, simprocAttr, EZ]
  refine hK _ ?_; try clear hK K
  refine WC.trim [0, 2, 3, 6, 12, 22, 37, 52, 68, 77, 92] ?_
  simp only [ET, simprocAttr]
  refine WC.rs fun K hK => ?_
  simp only [↓EJ, EX, FA, simprocAttr, TS]
  refine hK _ ?_; try clear hK K
  refine WC.trim [0, 2, 3, 6, 12, 22, 37, 52, 68, 77, 92] ?_
  simp only [ET, simprocAttr]
  refine WC.ret ?_
  simp only [↓EJ, EX, FA, simprocAttr, EQ, FnQ, Tryd.results48, wResL, tup, List.reverse_cons, List.reverse_nil, true_and, TS]
  exact PSem.done (fn := Tryd.f48) (s := s31) (v := ⟨5, 0, 0, q, zr, [], []⟩) hx rfl (of_eq_true (by simp only [CL, PCL, TCL, DCL, FCL, RCL, and_self])) rfl
 obtain rfl : b6 = false := by simpa using h
 dsimp only at hx
 refine WC.rs fun K hK => ?_
 simp only [↓EJ, EX, FA, simprocAttr]
 refine CallX.mk (CallW.par (enc := .bool) (accept_sem ts s6 i6 [105, 110, 116, 101, 114, 118, 97, 108]) rfl rfl (by simp only [CL, and_self]) (fun v => by simp only [CL]) (fun b7 s7 h7 => ?_) (fun e s' he => by intros; exact PSem.fails (fn := Tryd.f48) (s := s') (hx.trans (by simp only [he, bnd_error])) rfl rfl))
 simp only [h7, bnd_ok] at hx
 have g7 := acc_ge i6 h7
 have i7 := g7.1
 simp only [↓EJ, EX, FA, simprocAttr]
 refine hK _ ?_; try clear hK K
 refine WC.trim [0, 2, 3, 6, 12, 22, 37, 52, 68, 77, 92] ?_
 simp only [ET, simprocAttr]
 refine WC.cond (c := .tmp 77) rfl (fun h => ?_) (fun h => ?_)
 ·obtain rfl : b7 = true := by simpa using h
  dsimp only at hx
  refine WC.zs [1] (by simp only [cutZ, List.drop_zero, List.drop_succ_cons, List.take_zero, List.take_succ_cons, Option.map_some]; rfl) fun K hK => ?_
  simp only [↓EJ, EX, FA, simprocAttr, EZ]
  refine CallX.mk (CallW.par (enc := fun _ => .tuple []) (expect_sem ts [[40]] s7 i7 (by decide)) rfl rfl (by simp only [CL, List.map_cons, List.map_nil, and_self]) (fun v => by simp only [CL]) (fun u11 s11 h11 => ?_) (fun e s' he => by intros; exact PSem.fails (fn := Tryd.f48) (s := s') (hx.trans (by simp only [he, bnd_error])) rfl rfl))
  simp only [h11, bnd_ok] at hx
  have g11 := exp_up i7 h11
  have i11 := g11.1
  simp only [↓EJ, EX, FA, simprocAttr, EZ]
  refine hK _ ?_; try clear hK K
  refine WC.trim [0, 2, 3, 6, 12, 22, 37, 52, 68, 77, 92] ?_
  simp only [ET, simprocAttr]
  refine WC.rs fun K hK => ?_
  simp only [↓EJ, EX, FA, simprocAttr]
  refine CallX.mk (CallW.par (enc := fracE) (fraction_sem ts s11 i11) rfl rfl (by simp only [CL, PCL, TCL, DCL, FCL, RCL, and_self]) (fun v => by simp only [CL, PCL, TCL, DCL, FCL, RCL, and_self]) (fun q s12 h12 => ?_) (fun e s' he => by intros; exact PSem.fails (fn := Tryd.f48) (s := s') (hx.trans (by simp only [he, bnd_error])) rfl rfl))
  simp only [h12, bnd_ok] at hx
  have g12 := frac_up i11 h12
  have i12 := g12.1
  have hq := frac_def h12
  simp only [↓EJ, EX, FA, simprocAttr, hq, TS]
  refine hK _ ?_; try clear hK K
  refine WC.trim [0, 2, 3, 6, 12, 22, 37, 52, 68, 77, 92] ?_
  simp only [ET, simprocAttr]
  refine WC.zs [1] (by simp only [cutZ, List.drop_zero, List.drop_succ_cons, List.take_zero, List.take_succ_cons, Option.map_some]; rfl) fun K hK => ?_
  simp only [↓EJ, EX, FA, simprocAttr, EZ]
  refine CallX.mk (CallW.par (enc := fun _ => .tuple []) (expect_sem ts [[44]] s12 i12 (by decide)) rfl rfl (by simp only [CL, List.map_cons, List.map_nil, and_self]) (fun v => by simp only [CL]) (fun u13 s13 h13 => ?_) (fun e s' he => by intros; exact PSem.fails (fn := Tryd.f48) (s := s') (hx.trans (by simp only [he, bnd_error])) rfl rfl))
  simp only [h13, bnd_ok] at hx
  have g13 := exp_up i12 h13
  have i13 := g13.1
  simp only [↓EJ, EX, FA, simprocAttr, EZ]
  refine hK _ ?_; try clear hK K
  refine WC.trim [0, 2, 3, 6, 12, 22, 37, 52, 68, 77, 92] ?_
  simp only [ET, simprocAttr]
  refine WC.r1 ?_
  simp only [↓EJ, EX, FA, simprocAttr]
  refine CallX.mk (CallW.par (enc := fracE) (fraction_sem ts s13 i13) rfl rfl (by simp only [CL, PCL, TCL, DCL, FCL, RCL, and_self]) (fun v => by simp only [CL, PCL, TCL, DCL, FCL, RCL, and_self]) (fun q2 s14 h14 => ?_) (fun e s' he => by intros; exact PSem.fails (fn := Tryd.f48) (s := s') (hx.trans (by simp only [he, bnd_error])) rfl rfl))
  simp only [h14, bnd_ok] at hx
  have g14 := frac_up i13 h14
  have i14 := g14.1
  have hq2 := frac_def h14
  simp only [↓EJ, EX, FA, simprocAttr, hq2, TS]
  try simp only [EQ, reduceIte, Nat.reduceEqDiff]
  refine hK0 _ ?_; try clear hK0 K0
  refine WC.zs [1] (by simp only [cutZ, List.drop_zero, List.drop_succ_cons, List.take_zero, List.take_succ_cons, Option.map_some]; rfl) fun K hK => ?_
  simp only [↓EJ, EX, FA, simprocAttr, EZ]
  refine CallX.mk (CallW.par (enc := fun _ => .tuple []) (expect_sem ts [[41]] s14 i14 (by decide)) rfl rfl (by simp only [CL, List.map_cons, List.map_nil, and_self]) (fun v => by simp only [CL]) (fun u31 s31 h31 => ?_) (fun e s' he => by intros; exact PSem.fails (fn := Tryd.f48) (s := s') (hx.trans (by simp only [he, bnd_error])) rfl rfl))
  simp only [h31, bnd_ok] at hx
  have g31 := exp_up i14 h31
  have i31 := g31.1
  simp only [↓EJ, EX, FA, simprocAttr, EZ]
  refine hK _ ?_; try clear hK K
  refine WC.trim [0, 2, 3, 6, 12, 22, 37, 52, 68, 77, 92] ?_
  simp only [ET, simprocAttr]
  refine WC.rs fun K hK => ?_
  simp only [↓EJ, EX, FA, simprocAttr, TS]
  refine hK _ ?_; try clear hK K
  refine WC.trim [0, 2, 3, 6, 12, 22, 37, 52, 68, 77, 92] ?_
  simp only [ET, simprocAttr]
  refine WC.ret ?_
  simp only [↓EJ, EX, FA, simprocAttr, EQ, FnQ, Tryd.results48, wResL, tup, List.reverse_cons, List.reverse_nil, true_and, TS]
  exact PSem.done (fn := Tryd.f48) (s := s31) (v := ⟨6, 0, 0, q, q2, [], []⟩) hx rfl (of_eq_true (by simp only [CL, PCL, TCL, DCL, FCL, RCL, and_self])) rfl
 obtain rfl : b7 = false := by simpa using h
 dsimp only at hx
 refine WC.rs fun K hK => ?_
 simp only [↓EJ, EX, FA, simprocAttr]
 refine CallX.mk (CallW.par (enc := .bool) (accept_sem ts s7 i7 [98, 101, 116, 97]) rfl rfl (by simp only [CL, and_self]) (fun v => by simp only [CL]) (fun b8 s8 h8 => ?_) (fun e s' he => by intros; exact PSem.fails (fn := Tryd.f48) (s := s') (hx.trans (by simp only [he, bnd_error])) rfl rfl))
 simp only [h8, bnd_ok] at hx
 have g8 := acc_ge i7 h8
 have i8 := g8.1
 simp only [↓EJ, EX, FA, simprocAttr]
 refine hK _ ?_; try clear hK K
 refine WC.trim [0, 2, 3, 6, 12, 22, 37, 52, 68, 77, 92] ?_
 simp only [ET, simprocAttr]
 refine WC.cond (c := .tmp 92) rfl (fun h => ?_) (fun h => ?_)
 ·obtain rfl : b8 = true := by simpa using h
  dsimp only at hx
  refine WC.zs [1] (by simp only [cutZ, List.drop_zero, List.drop_succ_cons, List.take_zero, List.take_succ_cons, Option.map_some]; rfl) fun K hK => ?_
  simp only [↓EJ, EX, FA, simprocAttr, EZ]
  refine CallX.mk (CallW.par (enc := fun _ => .tuple []) (expect_sem ts [[40]] s8 i8 (by decide)) rfl rfl (by simp only [CL, List.map_cons, List.map_nil, and_self]) (fun v => by simp only [CL]) (fun u11 s11 h11 => ?_) (fun e s' he => by intros; exact PSem.fails (fn := Tryd.f48) (s := s') (hx.trans (by simp only [he, bnd_error])) rfl rfl))
  simp only [h11, bnd_ok] at hx
  have g11 := exp_up i8 h11
  have i11 := g11.1
  simp only [↓EJ, EX, FA, simprocAttr, EZ]
  refine hK _ ?_; try clear hK K
  refine WC.trim [0, 2, 3, 6, 12, 22, 37, 52, 68, 77, 92] ?_
  simp only [ET, simprocAttr]
  refine WC.rs fun K hK => ?_
  simp only [↓EJ, EX, FA, simprocAttr]
  refine CallX.mk (CallW.par (enc := (fun k : Nat => .int .i64 (k : Int))) (number_sem ts s11 i11) rfl rfl (by simp only [CL, PCL, TCL, DCL, FCL, RCL, and_self]) (fun v => by simp only [CL, PCL, TCL, DCL, FCL, RCL, and_self]) (fun lo s12 h12 => ?_) (fun e s' he => by intros; exact PSem.fails (fn := Tryd.f48) (s := s') (hx.trans (by simp only [he, bnd_error])) rfl rfl))
  simp only [h12, bnd_ok] at hx
  have g12 := num_up i11 h12
  have i12 := g12.1
  simp only [↓EJ, EX, FA, simprocAttr, TS]
  refine hK _ ?_; try clear hK K
  refine WC.trim [0, 2, 3, 6, 12, 22, 37, 52, 68, 77, 92] ?_
  simp only [ET, simprocAttr]
  refine WC.zs [1] (by simp only [cutZ, List.drop_zero, List.drop_succ_cons, List.take_zero, List.take_succ_cons, Option.map_some]; rfl) fun K hK => ?_
  simp only [↓EJ, EX, FA, simprocAttr, EZ]
  refine CallX.mk (CallW.par (enc := fun _ => .tuple []) (expect_sem ts [[44]] s12 i12 (by decide)) rfl rfl (by simp only [CL, List.map_cons, List.map_nil, and_self]) (fun v => by simp only [CL]) (fun u13 s13 h13 => ?_) (fun e s' he => by intros; exact PSem.fails (fn := Tryd.f48) (s := s') (hx.trans (by simp only [he, bnd_error])) rfl rfl))
  simp only [h13, bnd_ok] at hx
  have g13 := exp_up i12 h13
  have i13 := g13.1
  simp only [↓EJ, EX, FA, simprocAttr, EZ]
  refine hK _ ?_; try clear hK K
  refine WC.trim [0, 2, 3, 6, 12, 22, 37, 52, 68, 77, 92] ?_
  simp only [ET, simprocAttr]
  refine WC.r1 ?_
  simp only [↓EJ, EX, FA, simprocAttr, TS]
  refine CallX.mk (CallW.par (enc := (fun k : Nat => .int .i64 (k : Int))) (number_sem ts s13 i13) rfl rfl (by simp only [CL, PCL, TCL, DCL, FCL, RCL, and_self]) (fun v => by simp only [CL, PCL, TCL, DCL, FCL, RCL, and_self]) (fun hi s14 h14 => ?_) (fun e s' he => by intros; exact PSem.fails (fn := Tryd.f48) (s := s') (hx.trans (by simp only [he, bnd_error])) rfl rfl))
  simp only [h14, bnd_ok] at hx
  have g14 := num_up i13 h14
  have i14 := g14.1
  simp only [↓EJ, EX, FA, simprocAttr, TS]
  try simp only [EQ, reduceIte, Nat.reduceEqDiff]
  refine hK0 _ ?_; try clear hK0 K0
  refine WC.zs [1] (by simp only [cutZ, List.drop_zero, List.drop_succ_cons, List.take_zero, List.take_succ_cons, Option.map_some]; rfl) fun K hK => ?_
  simp only [↓EJ, EX, FA, simprocAttr, EZ]
  refine CallX.mk (CallW.par (enc := fun _ => .tuple []) (expect_sem ts [[41]] s14 i14 (by decide)) rfl rfl (by simp only [CL, List.map_cons, List.map_nil, and_self]) (fun v => by simp only [CL]) (fun u31 s31 h31 => ?_) (fun e s' he => by intros; exact PSem.fails (fn := Tryd.f48) (s := s') (hx.trans (by simp only [he, bnd_error])) rfl rfl))
  simp only [h31, bnd_ok] at hx
  have g31 := exp_up i14 h31
  have i31 := g31.1
  simp only [↓EJ, EX, FA, simprocAttr, EZ]
  refine hK _ ?_; try clear hK K
  refine WC.trim [0, 2, 3, 6, 12, 22, 37, 52, 68, 77, 92] ?_
  simp only [ET, simprocAttr]
  refine WC.rs fun K hK => ?_
  simp only [↓EJ, EX, FA, simprocAttr, TS]
  refine hK _ ?_; try clear hK K
  refine WC.trim [0, 2, 3, 6, 12, 22, 37, 52, 68, 77, 92] ?_
  simp only [ET, simprocAttr]
  refine WC.ret ?_
  simp only [↓EJ, EX, FA, simprocAttr, EQ, FnQ, Tryd.results48, wResL, tup, List.reverse_cons, List.reverse_nil, true_and, TS]
  exact PSem.done (fn := Tryd.f48) (s := s31) (v := ⟨7, lo, hi, zr, zr, [], []⟩) hx rfl (of_eq_true (by simp only [CL, PCL, TCL, DCL, FCL, RCL, and_self])) rfl
 obtain rfl : b8 = false := by simpa using h
 dsimp only at hx
 refine WC.r1 ?_
 simp only [↓EJ, EX, FA, simprocAttr]
 refine CallX.mk (CallW.par (α := Unit) (enc := fun _ => .tuple []) (fail_par ts s8 i8 4) rfl rfl (by simp only [CL, and_self]) (fun _ => by simp only [CL]) (fun v s' hv => nomatch hv) (fun e s' he => ?_))
 cases he
 exact PSem.fails (fn := Tryd.f48) (s := s') (hx.trans (by simp only [bnd_error])) rfl rfl
end Go.LexSem
