/-
 Texts joined: ParV ParW ParX ParY ParZ.
-/
import Derived.Test.YtenieameoojbjaaDoorMK
set_option linter.unusedVariables false
set_option linter.unusedSimpArgs false
set_option linter.loopingSimpArgs false
-- CLOSERS: PCL, TCL, DCL, FCL, RCL
set_option maxHeartbeats 16000000
set_option maxRecDepth 8000
namespace Go.LexSem
open Go Go.V Go.Proofs Go.Num

/-! ### Statements as trees -/
inductive Sm where
 | mk (kind : Nat) (name func : List UInt8) (int : Int) (expr : Ex) (args : List Ex) (draw : Dr) (thn els : List Sm)
mutual
def smC : Sm → List PVal
 | .mk k nm fn i e al d th el => .int .i64 k :: .str nm :: .str fn :: .int .i64 i :: (exC e ++ (exsV al :: (drC d ++ [smsV th, smsV el])))
def smL : List Sm → List PVal
 | [] => []
 | e :: es => .agg (smC e) :: smL es
def smsV : List Sm → PVal
 | [] => .nils
 | e :: es => .slc (.agg (smC e) :: smL es)
end
def smV (e : Sm) : PVal := .agg (smC e)
theorem smL_map : ∀ es : List Sm, smL es = es.map smV
 | [] => by simp [smL]
 | e :: es => by simp [smL, smL_map es, smV]
theorem smsV_nil : smsV [] = .nils := by simp [smsV]
theorem smsV_ne {es : List Sm} (h : es ≠ []) : smsV es = .slc (es.map smV) := by
 cases es with
 | nil => exact absurd rfl h
 | cons e es => simp [smsV, smL_map, smV]
theorem smC_len (e : Sm) : (smC e).length = 25 := by cases e; simp [smC, exC_len, drC_len]
mutual
theorem smC_closed : ∀ e : Sm, ClosedL (smC e)
 | .mk k nm fn i e al d th el => by
   have h1 := smsV_closed th
   have h2 := smsV_closed el
   have h3 := exC_closed e
   obtain ⟨eo, ei, er, en, ea⟩ := e
   have : ClosedL (smC (.mk k nm fn i (.mk eo ei er en ea) al d th el)) = True := by simp only [smC, exC, drC, List.cons_append, List.nil_append, CL, PCL, eq_true h1, eq_true h2, and_self]
   exact of_eq_true this
theorem smL_closed : ∀ es : List Sm, ClosedL (smL es)
 | [] => by simp only [smL]; exact .nil
 | e :: es => by
   simp only [smL]
   exact .cons (.agg (smC_closed e)) (smL_closed es)
theorem smsV_closed : ∀ es : List Sm, Closed (smsV es)
 | [] => by simp only [smsV]; exact fun _ => rfl
 | e :: es => by
   simp only [smsV]
   exact .slc (.cons (.agg (smC_closed e)) (smL_closed es))
end
theorem smV_closed (e : Sm) : Closed (smV e) := .agg (smC_closed e)
theorem MCL : (∀ e, Closed (smV e) = True) ∧ (∀ e, ClosedL (smC e) = True) ∧ (∀ es, Closed (smsV es) = True) ∧ (∀ es : List Sm, ClosedL (es.map smV) = True) :=
 ⟨fun e => eq_true (smV_closed e), fun e => eq_true (smC_closed e), fun es => eq_true (smsV_closed es), fun es => eq_true (ClosedL.map (fun e => smV_closed e) es)⟩
theorem MRN : (∀ f e, renL f (smC e) = smC e) ∧ (∀ f es, ren f (smsV es) = smsV es) ∧ (∀ f (es : List Sm), renL f (es.map smV) = es.map smV) :=
 ⟨fun f e => smC_closed e f, fun f es => smsV_closed es f, fun f es => ClosedL.map (fun e => smV_closed e) es f⟩
theorem MS : (∀ e, smV e = .agg (smC e)) ∧ (∀ e, (smC e).length = 25) ∧ (∀ e, List.take 25 (smC e) = smC e) ∧ (∀ e, List.drop 25 (smC e) = []) ∧ (∀ cs, (PVal.agg cs).solid = true) ∧ (∀ l, (smsV l).solid = true) ∧ (∀ l, (smsV l).cells = [smsV l]) :=
 ⟨fun _ => rfl, smC_len, fun e => List.take_of_length_le (by rw [smC_len]; exact Nat.le_refl _), fun e => List.drop_of_length_le (by rw [smC_len]; exact Nat.le_refl _), fun _ => rfl,
  fun l => by cases l <;> simp only [smsV] <;> rfl, fun l => by cases l <;> simp only [smsV] <;> rfl⟩
def ze : Ex := .mk 0 0 zr [] []
def zd : Dr := ⟨0, 0, 0, zr, zr, [], []⟩
def isCall (ts : List Tok) (s : PS) : Bool := decide ((cur ts s).1 = 1) && (decide ((nxt ts s).1 = 4) && decide ((nxt ts s).2.1 = [40]))
mutual
def stmtF (ts : List Tok) : Nat → PS → PR Sm
 | 0, _ => .error noEr
 | n + 1, s => bnd (acceptF ts [105, 102] s) fun b s => match b with
   | true => bnd (exprG ts s) fun e s => bnd (bodyF ts n s) fun th s => bnd (acceptF ts [101, 108, 115, 101] s) fun b s => match b with
     | true => bnd (bodyF ts n s) fun el s => .ok (.mk 4 [] [] 0 e [] zd th el, s)
     | false => .ok (.mk 4 [] [] 0 e [] zd th [], s)
   | false => bnd (acceptF ts [114, 101, 112, 101, 97, 116] s) fun b s => match b with
     | true => bnd (numberF ts s) fun k s => bnd (bodyF ts n s) fun th s => .ok (.mk 5 [] [] k ze [] zd th [], s)
     | false => bnd (acceptF ts [119, 104, 105, 108, 101] s) fun b s => match b with
       | true => bnd (exprG ts s) fun e s => bnd (bodyF ts n s) fun th s => .ok (.mk 6 [] [] 0 e [] zd th [], s)
       | false => bnd (acceptF ts [111, 98, 115, 101, 114, 118, 101] s) fun b s => match b with
         | true => bnd (exprG ts s) fun e s => bnd (expectF ts [[59]] s) fun _ s => .ok (.mk 7 [] [] 0 e [] zd [] [], s)
         | false => bnd (acceptF ts [119, 101, 105, 103, 104, 116] s) fun b s => match b with
           | true => bnd (exprG ts s) fun e s => bnd (expectF ts [[59]] s) fun _ s => .ok (.mk 8 [] [] 0 e [] zd [] [], s)
           | false => bnd (nameF ts s) fun w s => bnd (acceptF ts [126] s) fun b s => match b with
             | true => bnd (drawF ts s) fun d s => bnd (expectF ts [[59]] s) fun _ s => .ok (.mk 2 w [] 0 ze [] d [] [], s)
             | false => bnd (expectF ts [[58, 61]] s) fun _ s => match isCall ts s with
               | true => bnd (nameF ts s) fun f s => bnd (expectF ts [[40]] s) fun _ s => match isP ts s [41] with
                 | true => bnd (expectF ts [[41]] s) fun _ s => bnd (expectF ts [[59]] s) fun _ s => .ok (.mk 3 w f 0 ze [] zd [] [], s)
                 | false => bnd (exprsG ts s) fun l s => bnd (expectF ts [[41]] s) fun _ s => bnd (expectF ts [[59]] s) fun _ s => .ok (.mk 3 w f 0 ze l zd [] [], s)
               | false => bnd (exprG ts s) fun e s => bnd (expectF ts [[59]] s) fun _ s => .ok (.mk 1 w [] 0 e [] zd [] [], s)
def bodyF (ts : List Tok) : Nat → PS → PR (List Sm)
 | 0, _ => .error noEr
 | n + 1, s => bnd (expectF ts [[123]] s) fun _ s => bnd (stmtsF ts [125] n [] s) fun l s => bnd (expectF ts [[125]] s) fun _ s => .ok (l, s)
def stmtsF (ts : List Tok) (stop : List UInt8) : Nat → List Sm → PS → PR (List Sm)
 | 0, _, _ => .error noEr
 | n + 1, acc, s => match isP ts s stop with
   | true => .ok (acc, s)
   | false => bnd (stmtF ts n s) fun t s => stmtsF ts stop n (acc ++ [t]) s
end
structure SInv (ts : List Tok) (n : Nat) : Prop where
 stmt : ∀ {s e s'}, PInv ts s → stmtF ts n s = .ok (e, s') → Up ts s s'
 body : ∀ {s e s'}, PInv ts s → bodyF ts n s = .ok (e, s') → Up ts s s'
 stmts : ∀ {stop a s e s'}, PInv ts s → stmtsF ts stop n a s = .ok (e, s') → Ge ts s s'
theorem sInv (ts : List Tok) : ∀ n, SInv ts n
 | 0 => by
   constructor <;> intros <;> rename_i h <;> simp only [stmtF, bodyF, stmtsF] at h <;> cases h
 | n + 1 => by
   have H := sInv ts n
   constructor
   ·intro s0 e s' i0 h
    rw [stmtF] at h
    obtain ⟨b, s1, h1, h⟩ := bnd_inv h
    cases b
    rotate_left
    ·have a0 := acc_up i0 h1
     obtain ⟨v0, t0, k0, h⟩ := bnd_inv h
     have q0 := expr_up a0.1 k0
     obtain ⟨v1, t1, k1, h⟩ := bnd_inv h
     have q1 := H.body q0.1 k1
     obtain ⟨b, t9, k9, h⟩ := bnd_inv h
     have q9 := acc_ge q1.1 k9
     cases b
     ·cases h; exact a0.trans (q0.ge.trans (q1.ge.trans q9))
     ·obtain ⟨v5, t5, k5, h⟩ := bnd_inv h
      cases h
      exact a0.trans (q0.ge.trans (q1.ge.trans (q9.trans (H.body q9.1 k5).ge)))
    have g1 := acc_ge i0 h1
    refine g1.up ?_
    obtain ⟨b, s2, h2, h⟩ := bnd_inv h
    cases b
    rotate_left
    ·have a1 := acc_up g1.1 h2
     obtain ⟨v0, t0, k0, h⟩ := bnd_inv h
     have q0 := num_up a1.1 k0
     obtain ⟨v1, t1, k1, h⟩ := bnd_inv h
     have q1 := H.body q0.1 k1
     cases h
     exact a1.trans (q0.ge.trans (q1.ge))
    have g2 := acc_ge g1.1 h2
    refine g2.up ?_
    obtain ⟨b, s3, h3, h⟩ := bnd_inv h
    cases b
    rotate_left
    ·have a2 := acc_up g2.1 h3
     obtain ⟨v0, t0, k0, h⟩ := bnd_inv h
     have q0 := expr_up a2.1 k0
     obtain ⟨v1, t1, k1, h⟩ := bnd_inv h
     have q1 := H.body q0.1 k1
     cases h
     exact a2.trans (q0.ge.trans (q1.ge))
    have g3 := acc_ge g2.1 h3
    refine g3.up ?_
    obtain ⟨b, s4, h4, h⟩ := bnd_inv h
    cases b
    rotate_left
    ·have a3 := acc_up g3.1 h4
     obtain ⟨v0, t0, k0, h⟩ := bnd_inv h
     have q0 := expr_up a3.1 k0
     obtain ⟨v1, t1, k1, h⟩ := bnd_inv h
     have q1 := exp_up q0.1 k1
     cases h
     exact a3.trans (q0.ge.trans (q1.ge))
    have g4 := acc_ge g3.1 h4
    refine g4.up ?_
    obtain ⟨b, s5, h5, h⟩ := bnd_inv h
    cases b
    rotate_left
    ·have a4 := acc_up g4.1 h5
     obtain ⟨v0, t0, k0, h⟩ := bnd_inv h
     have q0 := expr_up a4.1 k0
     obtain ⟨v1, t1, k1, h⟩ := bnd_inv h
     have q1 := exp_up q0.1 k1
     cases h
     exact a4.trans (q0.ge.trans (q1.ge))
    have g5 := acc_ge g4.1 h5
    refine g5.up ?_
    obtain ⟨w, s6, h6, h⟩ := bnd_inv h
    have g6 := name_up g5.1 h6
    refine g6.trans ?_
    obtain ⟨b, s7, h7, h⟩ := bnd_inv h
    have g7 := acc_ge g6.1 h7
    refine g7.trans ?_
    cases b
    rotate_left
    ·skip
     obtain ⟨v0, t0, k0, h⟩ := bnd_inv h
     have q0 := draw_up g7.1 k0
     obtain ⟨v1, t1, k1, h⟩ := bnd_inv h
     have q1 := exp_up q0.1 k1
     cases h
     exact q0.ge.trans q1.ge
    obtain ⟨u, s8, h8, h⟩ := bnd_inv h
    have g8 := exp_up g7.1 h8
    refine g8.ge.trans ?_
    split at h
    ·skip
     obtain ⟨v0, t0, k0, h⟩ := bnd_inv h
     have q0 := name_up g8.1 k0
     obtain ⟨v1, t1, k1, h⟩ := bnd_inv h
     have q1 := exp_up q0.1 k1
     refine q0.ge.trans (q1.ge.trans ?_)
     split at h
     ·skip
      obtain ⟨v2, t2, k2, h⟩ := bnd_inv h
      have q2 := exp_up q1.1 k2
      obtain ⟨v3, t3, k3, h⟩ := bnd_inv h
      have q3 := exp_up q2.1 k3
      cases h
      exact q2.ge.trans q3.ge
     ·skip
      obtain ⟨v2, t2, k2, h⟩ := bnd_inv h
      have q2 := exprs_up q1.1 k2
      obtain ⟨v3, t3, k3, h⟩ := bnd_inv h
      have q3 := exp_up q2.1 k3
      obtain ⟨v4, t4, k4, h⟩ := bnd_inv h
      have q4 := exp_up q3.1 k4
      cases h
      exact q2.ge.trans (q3.ge.trans q4.ge)
    ·skip
     obtain ⟨v0, t0, k0, h⟩ := bnd_inv h
     have q0 := expr_up g8.1 k0
     obtain ⟨v1, t1, k1, h⟩ := bnd_inv h
     have q1 := exp_up q0.1 k1
     cases h
     exact q0.ge.trans q1.ge
   ·intro s0 e s' i0 h
    rw [bodyF] at h
    obtain ⟨_, s1, h1, h⟩ := bnd_inv h
    obtain ⟨_, s2, h2, h⟩ := bnd_inv h
    obtain ⟨_, s3, h3, h⟩ := bnd_inv h
    cases h
    have g1 := exp_up i0 h1
    have g2 := H.stmts g1.1 h2
    exact g1.trans (g2.trans (exp_up g2.1 h3).ge)
   ·intro stop a s0 e s' i0 h
    rw [stmtsF] at h
    split at h
    ·cases h; exact Ge.refl i0
    ·obtain ⟨_, s1, h1, h⟩ := bnd_inv h
     have g1 := H.stmt i0 h1
     exact g1.ge.trans (H.stmts g1.1 h)
end Go.LexSem
-- CLOSERS: PCL, TCL, DCL, FCL, RCL, MCL
set_option maxHeartbeats 32000000
set_option maxRecDepth 8000
namespace Go.LexSem
open Go Go.V Go.Proofs Go.Num

structure MAll (ts : List Tok) (n : Nat) : Prop where
 stmt : ∀ s, PInv ts s → 3 * rem ts s + 1 ≤ n → PSem 36 [] ts s (stmtF ts n s) smV
 body : ∀ s, PInv ts s → 3 * rem ts s ≤ n → PSem 47 [] ts s (bodyF ts n s) smsV
theorem stmt_step (ts : List Tok) (n : Nat) (H : MAll ts n) (s0 : PS) (i0 : PInv ts s0) (hn : 3 * rem ts s0 + 1 ≤ n + 1) : PSem 36 [] ts s0 (stmtF ts (n + 1) s0) smV := by
 have X := sInv ts n
 obtain ⟨x, hx⟩ : ∃ x, x = stmtF ts (n + 1) s0 := ⟨_, rfl⟩
 rw [← hx]
 rw [stmtF] at hx
 unfold PSem
 refine FSem.enter' (C := C) (n := 118) Tryd.func36 rfl rfl ok_36 (by simp) ?_
 simp only [argEnv]
 refine WC.rs fun K hK => ?_
 simp only [↓EJ, EX, FA, simprocAttr]
 refine hK _ ?_; try clear hK K
 refine WC.trim [0, 2, 3, 4, 5, 6, 7, 8, 9, 10, 20, 25, 35, 45, 55, 86, 96, 107] ?_
 simp only [ET, simprocAttr]
 refine WC.bs fun K0 hK0 => ?_
 refine WC.rs fun K hK => ?_
 simp only [↓EJ, EX, FA, simprocAttr]
 refine CallX.mk (CallW.par (enc := .bool) (accept_sem ts s0 i0 [105, 102]) rfl rfl (by simp only [CL, and_self]) (fun v => by simp only [CL]) (fun b1 s1 h1 => ?_) (fun e s' he => by intros; exact PSem.fails (fn := Tryd.f36) (s := s') (hx.trans (by simp only [he, bnd_error])) rfl rfl))
 simp only [h1, bnd_ok] at hx
 have g1 := acc_ge i0 h1
 have i1 := g1.1
 have r1 := g1.rem
 simp only [↓EJ, EX, FA, simprocAttr]
 refine hK _ ?_; try clear hK K
 refine WC.trim [0, 2, 3, 4, 5, 6, 7, 8, 9, 10, 20, 25, 35, 45, 55, 86, 96, 107] ?_
 simp only [ET, simprocAttr]
 refine WC.cond (c := .tmp 10) rfl (fun h => ?_) (fun h => ?_)
 ·obtain rfl : b1 = true := by simpa using h
  dsimp only at hx
  have q1 := (acc_up i0 h1).rem
  refine WC.rs fun K hK => ?_
  simp only [↓EJ, EX, FA, simprocAttr]
  refine CallX.mk (CallW.par (enc := exV) (expr_sem ts s1 i1) rfl rfl (by simp only [CL, PCL, TCL, DCL, FCL, RCL, MCL, and_self]) (fun v => by simp only [CL, PCL, TCL, DCL, FCL, RCL, MCL, and_self]) (fun e s11 h11 => ?_) (fun e s' he => by intros; exact PSem.fails (fn := Tryd.f36) (s := s') (hx.trans (by simp only [he, bnd_error])) rfl rfl))
  simp only [h11, bnd_ok] at hx
  have g11 := expr_up i1 h11
  have i11 := g11.1
  have r11 := g11.rem
  obtain ⟨eo, ei, ⟨e1, e2, e3⟩, en, ea⟩ := e
  simp only [↓EJ, EX, FA, simprocAttr, exV_mk, MS, exsV_sc]
  refine hK _ ?_; try clear hK K
  refine WC.trim [0, 2, 3, 4, 5, 6, 7, 8, 9, 10, 20, 25, 35, 45, 55, 86, 96, 107] ?_
  simp only [ET, simprocAttr]
  refine WC.rs fun K hK => ?_
  simp only [↓EJ, EX, FA, simprocAttr]
  refine CallX.mk (CallW.par (enc := smsV) (H.body s11 i11 (by omega)) rfl rfl (by simp only [CL, PCL, TCL, DCL, FCL, RCL, MCL, and_self]) (fun v => by simp only [CL, PCL, TCL, DCL, FCL, RCL, MCL, and_self]) (fun th s12 h12 => ?_) (fun e s' he => by intros; exact PSem.fails (fn := Tryd.f36) (s := s') (hx.trans (by simp only [he, bnd_error])) rfl rfl))
  simp only [h12, bnd_ok] at hx
  have g12 := X.body i11 h12
  have i12 := g12.1
  have r12 := g12.rem
  simp only [↓EJ, EX, FA, simprocAttr, exV_mk, MS, exsV_sc]
  refine hK _ ?_; try clear hK K
  refine WC.trim [0, 2, 3, 4, 5, 6, 7, 8, 9, 10, 20, 25, 35, 45, 55, 86, 96, 107] ?_
  simp only [ET, simprocAttr]
  refine WC.sK fun K2 hK2 => ?_
  refine WC.rs fun K hK => ?_
  simp only [↓EJ, EX, FA, simprocAttr]
  refine CallX.mk (CallW.par (enc := .bool) (accept_sem ts s12 i12 [101, 108, 115, 101]) rfl rfl (by simp only [CL, and_self]) (fun v => by simp only [CL]) (fun b13 s13 h13 => ?_) (fun e s' he => by intros; exact PSem.fails (fn := Tryd.f36) (s := s') (hx.trans (by simp only [he, bnd_error])) rfl rfl))
  simp only [h13, bnd_ok] at hx
  have g13 := acc_ge i12 h13
  have i13 := g13.1
  have r13 := g13.rem
  simp only [↓EJ, EX, FA, simprocAttr]
  refine hK _ ?_; try clear hK K
  refine WC.trim [0, 2, 3, 4, 5, 6, 7, 8, 9, 10, 20, 25, 35, 45, 55, 86, 96, 107] ?_
  simp only [ET, simprocAttr]
  refine WC.cond (c := .tmp 20) rfl (fun h => ?_) (fun h => ?_)
  ·obtain rfl : b13 = true := by simpa using h
   dsimp only at hx
   refine WC.r1 ?_
   simp only [↓EJ, EX, FA, simprocAttr]
   refine CallX.mk (CallW.par (enc := smsV) (H.body s13 i13 (by omega)) rfl rfl (by simp only [CL, PCL, TCL, DCL, FCL, RCL, MCL, and_self]) (fun v => by simp only [CL, PCL, TCL, DCL, FCL, RCL, MCL, and_self]) (fun el s14 h14 => ?_) (fun e s' he => by intros; exact PSem.fails (fn := Tryd.f36) (s := s') (hx.trans (by simp only [he, bnd_error])) rfl rfl))
   simp only [h14, bnd_ok] at hx
   have g14 := X.body i13 h14
   have i14 := g14.1
   have r14 := g14.rem
   simp only [↓EJ, EX, FA, simprocAttr, exV_mk, MS, exsV_sc]
   try simp only [EQ, reduceIte, Nat.reduceEqDiff]
   refine hK2 _ ?_; try clear hK2 K2
   refine WC.rs fun K hK => ?_
   simp only [↓EJ, EX, FA, simprocAttr, MS]
   refine hK _ ?_; try clear hK K
   refine WC.trim [0, 2, 3, 4, 5, 6, 7, 8, 9, 10, 20, 25, 35, 45, 55, 86, 96, 107] ?_
   simp only [ET, simprocAttr]
   refine WC.ret ?_
   simp only [↓EJ, EX, FA, simprocAttr, EQ, FnQ, Tryd.results36, wResL, tup, List.reverse_cons, List.reverse_nil, true_and, MS]
   exact PSem.done (fn := Tryd.f36) (s := s14) (v := (.mk 4 [] [] 0 (.mk eo ei (e1, e2, e3) en ea) [] zd th el)) hx rfl (of_eq_true (by simp only [CL, PCL, TCL, DCL, FCL, RCL, MCL, and_self])) rfl
  ·obtain rfl : b13 = false := by simpa using h
   dsimp only at hx
   refine WC.skip ?_
   try simp only [EQ, reduceIte, Nat.reduceEqDiff]
   refine hK2 _ ?_; try clear hK2 K2
   refine WC.rs fun K hK => ?_
   simp only [↓EJ, EX, FA, simprocAttr, MS]
   refine hK _ ?_; try clear hK K
   refine WC.trim [0, 2, 3, 4, 5, 6, 7, 8, 9, 10, 20, 25, 35, 45, 55, 86, 96, 107] ?_
   simp only [ET, simprocAttr]
   refine WC.ret ?_
   simp only [↓EJ, EX, FA, simprocAttr, EQ, FnQ, Tryd.results36, wResL, tup, List.reverse_cons, List.reverse_nil, true_and, MS]
   exact PSem.done (fn := Tryd.f36) (s := s13) (v := (.mk 4 [] [] 0 (.mk eo ei (e1, e2, e3) en ea) [] zd th [])) hx rfl (of_eq_true (by simp only [CL, PCL, TCL, DCL, FCL, RCL, MCL, and_self])) rfl
 obtain rfl : b1 = false := by simpa using h
 dsimp only at hx
 refine WC.rs fun K hK => ?_
 simp only [↓EJ, EX, FA, simprocAttr]
 refine CallX.mk (CallW.par (enc := .bool) (accept_sem ts s1 i1 [114, 101, 112, 101, 97, 116]) rfl rfl (by simp only [CL, and_self]) (fun v => by simp only [CL]) (fun b2 s2 h2 => ?_) (fun e s' he => by intros; exact PSem.fails (fn := Tryd.f36) (s := s') (hx.trans (by simp only [he, bnd_error])) rfl rfl))
 simp only [h2, bnd_ok] at hx
 have g2 := acc_ge i1 h2
 have i2 := g2.1
 have r2 := g2.rem
 simp only [↓EJ, EX, FA, simprocAttr]
 refine hK _ ?_; try clear hK K
 refine WC.trim [0, 2, 3, 4, 5, 6, 7, 8, 9, 10, 20, 25, 35, 45, 55, 86, 96, 107] ?_
 simp only [ET, simprocAttr]
 refine WC.cond (c := .tmp 25) rfl (fun h => ?_) (fun h => ?_)
 ·obtain rfl : b2 = true := by simpa using h
  dsimp only at hx
  have q2 := (acc_up i1 h2).rem
  refine WC.rs fun K hK => ?_
  simp only [↓EJ, EX, FA, simprocAttr]
  refine CallX.mk (CallW.par (enc := (fun k : Nat => .int .i64 (k : Int))) (number_sem ts s2 i2) rfl rfl (by simp only [CL, PCL, TCL, DCL, FCL, RCL, MCL, and_self]) (fun v => by simp only [CL, PCL, TCL, DCL, FCL, RCL, MCL, and_self]) (fun k s11 h11 => ?_) (fun e s' he => by intros; exact PSem.fails (fn := Tryd.f36) (s := s') (hx.trans (by simp only [he, bnd_error])) rfl rfl))
  simp only [h11, bnd_ok] at hx
  have g11 := num_up i2 h11
  have i11 := g11.1
  have r11 := g11.rem
  simp only [↓EJ, EX, FA, simprocAttr, MS]
  refine hK _ ?_; try clear hK K
  refine WC.trim [0, 2, 3, 4, 5, 6, 7, 8, 9, 10, 20, 25, 35, 45, 55, 86, 96, 107] ?_
  simp only [ET, simprocAttr]
  refine WC.rs fun K hK => ?_
  simp only [↓EJ, EX, FA, simprocAttr]
  refine CallX.mk (CallW.par (enc := smsV) (H.body s11 i11 (by omega)) rfl rfl (by simp only [CL, PCL, TCL, DCL, FCL, RCL, MCL, and_self]) (fun v => by simp only [CL, PCL, TCL, DCL, FCL, RCL, MCL, and_self]) (fun th s12 h12 => ?_) (fun e s' he => by intros; exact PSem.fails (fn := Tryd.f36) (s := s') (hx.trans (by simp only [he, bnd_error])) rfl rfl))
  simp only [h12, bnd_ok] at hx
  have g12 := X.body i11 h12
  have i12 := g12.1
  have r12 := g12.rem
  simp only [↓EJ, EX, FA, simprocAttr, exV_mk, MS, exsV_sc]
  refine hK _ ?_; try clear hK K
  refine WC.trim [0, 2, 3, 4, 5, 6, 7, 8, 9, 10, 20, 25, 35, 45, 55, 86, 96, 107] ?_
  simp only [ET, simprocAttr]
  refine WC.rs fun K hK => ?_
  simp only [↓EJ, EX, FA, simprocAttr, MS]
  refine hK _ ?_; try clear hK K
  refine WC.trim [0, 2, 3, 4, 5, 6, 7, 8, 9, 10, 20, 25, 35, 45, 55, 86, 96, 107] ?_
  simp only [ET, simprocAttr]
  refine WC.ret ?_
  simp only [↓EJ, EX, FA, simprocAttr, EQ, FnQ, Tryd.results36, wResL, tup, List.reverse_cons, List.reverse_nil, true_and, MS]
  exact PSem.done (fn := Tryd.f36) (s := s12) (v := (.mk 5 [] [] k ze [] zd th [])) hx rfl (of_eq_true (by simp only [CL, PCL, TCL, DCL, FCL, RCL, MCL, and_self])) rfl
 obtain rfl : b2 = false := by simpa using h
 dsimp only at hx
 refine WC.rs fun K hK => ?_
 simp only [↓EJ, EX, FA, simprocAttr]
 refine CallX.mk (CallW.par (enc := .bool) (accept_sem ts s2 i2 [119, 104, 105, 108, 101]) rfl rfl (by simp only [CL, and_self]) (fun v => by simp only [CL]) (fun b3 s3 h3 => ?_) (fun e s' he => by intros; exact PSem.fails (fn := Tryd.f36) (s := s') (hx.trans (by simp only [he, bnd_error])) rfl rfl))
 simp only [h3, bnd_ok] at hx
 have g3 := acc_ge i2 h3
 have i3 := g3.1
 have r3 := g3.rem
 simp only [↓EJ, EX, FA, simprocAttr]
 refine hK _ ?_; try clear hK K
 refine WC.trim [0, 2, 3, 4, 5, 6, 7, 8, 9, 10, 20, 25, 35, 45, 55, 86, 96, 107] ?_
 simp only [ET, simprocAttr]
 refine WC.cond (c := .tmp 35) rfl (fun h => ?_) (fun h => ?_)
 ·obtain rfl : b3 = true := by simpa using h
  dsimp only at hx
  have q3 := (acc_up i2 h3).rem
  refine WC.rs fun K hK => ?_
  simp only [↓EJ, EX, FA, simprocAttr]
  refine CallX.mk (CallW.par (enc := exV) (expr_sem ts s3 i3) rfl rfl (by simp only [CL, PCL, TCL, DCL, FCL, RCL, MCL, and_self]) (fun v => by simp only [CL, PCL, TCL, DCL, FCL, RCL, MCL, and_self]) (fun e s11 h11 => ?_) (fun e s' he => by intros; exact PSem.fails (fn := Tryd.f36) (s := s') (hx.trans (by simp only [he, bnd_error])) rfl rfl))
  simp only [h11, bnd_ok] at hx
  have g11 := expr_up i3 h11
  have i11 := g11.1
  have r11 := g11.rem
  obtain ⟨eo, ei, ⟨e1, e2, e3⟩, en, ea⟩ := e
  simp only [↓EJ, EX, FA, simprocAttr, exV_mk, MS, exsV_sc]
  refine hK _ ?_; try clear hK K
  refine WC.trim [0, 2, 3, 4, 5, 6, 7, 8, 9, 10, 20, 25, 35, 45, 55, 86, 96, 107] ?_
  simp only [ET, simprocAttr]
  refine WC.rs fun K hK => ?_
  simp only [↓EJ, EX, FA, simprocAttr]
  refine CallX.mk (CallW.par (enc := smsV) (H.body s11 i11 (by omega)) rfl rfl (by simp only [CL, PCL, TCL, DCL, FCL, RCL, MCL, and_self]) (fun v => by simp only [CL, PCL, TCL, DCL, FCL, RCL, MCL, and_self]) (fun th s12 h12 => ?_) (fun e s' he => by intros; exact PSem.fails (fn := Tryd.f36) (s := s') (hx.trans (by simp only [he, bnd_error])) rfl rfl))
  simp only [h12, bnd_ok] at hx
  have g12 := X.body i11 h12
  have i12 := g12.1
  have r12 := g12.rem
  simp only [↓EJ, EX, FA, simprocAttr, exV_mk, MS, exsV_sc]
  refine hK _ ?_; try clear hK K
  refine WC.trim [0, 2, 3, 4, 5, 6, 7, 8, 9, 10, 20, 25, 35, 45, 55, 86, 96, 107] ?_
  simp only [ET, simprocAttr]
  refine WC.rs fun K hK => ?_
  simp only [↓EJ, EX, FA, simprocAttr, MS]
  refine hK _ ?_; try clear hK K
  refine WC.trim [0, 2, 3, 4, 5, 6, 7, 8, 9, 10, 20, 25, 35, 45, 55, 86, 96, 107] ?_
  simp only [ET, simprocAttr]
  refine WC.ret ?_
  simp only [↓EJ, EX, FA, simprocAttr, EQ, FnQ, Tryd.results36, wResL, tup, List.reverse_cons, List.reverse_nil, true_and, MS]
  exact PSem.done (fn := Tryd.f36) (s := s12) (v := (.mk 6 [] [] 0 (.mk eo ei (e1, e2, e3) en ea) [] zd th [])) hx rfl (of_eq_true (by simp only [CL, PCL, TCL, DCL, FCL, RCL, MCL, and_self])) rfl
 obtain rfl : b3 = false := by simpa using h
 dsimp only at hx
 refine WC.rs fun K hK => ?_
 simp only [↓EJ, EX, FA, simprocAttr]
 refine CallX.mk (CallW.par (enc := .bool) (accept_sem ts s3 i3 [111, 98, 115, 101, 114, 118, 101]) rfl rfl (by simp only [CL, and_self]) (fun v => by simp only [CL]) (fun b4 s4 h4 => ?_) (fun e s' he => by intros; exact PSem.fails (fn := Tryd.f36) (s := s') (hx.trans (by simp only [he, bnd_error])) rfl rfl))
 simp only [h4, bnd_ok] at hx
 have g4 := acc_ge i3 h4
 have i4 := g4.1
 have r4 := g4.rem
 simp only [↓EJ, EX, FA, simprocAttr]
 refine hK _ ?_; try clear hK K
 refine WC.trim [0, 2, 3, 4, 5, 6, 7, 8, 9, 10, 20, 25, 35, 45, 55, 86, 96, 107] ?_
 simp only [ET, simprocAttr]
 refine WC.cond (c := .tmp 45) rfl (fun h => ?_) (fun h => ?_)
 ·obtain rfl : b4 = true := by simpa using h
  dsimp only at hx
  have q4 := (acc_up i3 h4).rem
  refine WC.rs fun K hK => ?_
  simp only [↓EJ, EX, FA, simprocAttr]
  refine CallX.mk (CallW.par (enc := exV) (expr_sem ts s4 i4) rfl rfl (by simp only [CL, PCL, TCL, DCL, FCL, RCL, MCL, and_self]) (fun v => by simp only [CL, PCL, TCL, DCL, FCL, RCL, MCL, and_self]) (fun e s11 h11 => ?_) (fun e s' he => by intros; exact PSem.fails (fn := Tryd.f36) (s := s') (hx.trans (by simp only [he, bnd_error])) rfl rfl))
  simp only [h11, bnd_ok] at hx
  have g11 := expr_up i4 h11
  have i11 := g11.1
  have r11 := g11.rem
  obtain ⟨eo, ei, ⟨e1, e2, e3⟩, en, ea⟩ := e
  simp only [↓EJ, EX, FA, simprocAttr, exV_mk, MS, exsV_sc]
  refine hK _ ?_; try clear hK K
  refine WC.trim [0, 2, 3, 4, 5, 6, 7, 8, 9, 10, 20, 25, 35, 45, 55, 86, 96, 107] ?_
  simp only [ET, simprocAttr]
  refine WC.zs [1] (by simp only [cutZ, List.drop_zero, List.drop_succ_cons, List.take_zero, List.take_succ_cons, Option.map_some]; rfl) fun K hK => ?_
  simp only [↓EJ, EX, FA, simprocAttr, EZ]
  refine CallX.mk (CallW.par (enc := fun _ => .tuple []) (expect_sem ts [[59]] s11 i11 (by decide)) rfl rfl (by simp only [CL, List.map_cons, List.map_nil, and_self]) (fun v => by simp only [CL]) (fun u12 s12 h12 => ?_) (fun e s' he => by intros; exact PSem.fails (fn := Tryd.f36) (s := s') (hx.trans (by simp only [he, bnd_error])) rfl rfl))
  simp only [h12, bnd_ok] at hx
  have g12 := exp_up i11 h12
  have i12 := g12.1
  have r12 := g12.rem
  simp only [↓EJ, EX, FA, simprocAttr, EZ]
  refine hK _ ?_; try clear hK K
  refine WC.trim [0, 2, 3, 4, 5, 6, 7, 8, 9, 10, 20, 25, 35, 45, 55, 86, 96, 107] ?_
  simp only [ET, simprocAttr]
  refine WC.rs fun K hK => ?_
  simp only [↓EJ, EX, FA, simprocAttr, MS]
  refine hK _ ?_; try clear hK K
  refine WC.trim [0, 2, 3, 4, 5, 6, 7, 8, 9, 10, 20, 25, 35, 45, 55, 86, 96, 107] ?_
  simp only [ET, simprocAttr]
  refine WC.ret ?_
  simp only [↓EJ, EX, FA, simprocAttr, EQ, FnQ, Tryd.results36, wResL, tup, List.reverse_cons, List.reverse_nil, true_and, MS]
  exact PSem.done (fn := Tryd.f36) (s := s12) (v := (.mk 7 [] [] 0 (.mk eo ei (e1, e2, e3) en ea) [] zd [] [])) hx rfl (of_eq_true (by simp only [CL, PCL, TCL, DCL, FCL, RCL, MCL, and_self])) rfl
 obtain rfl : b4 = false := by simpa using h
 dsimp only at hx
 refine WC.rs fun K hK => ?_
 simp only [↓EJ, EX, FA, simprocAttr]
 refine CallX.mk (CallW.par (enc := .bool) (accept_sem ts s4 i4 [119, 101, 105, 103, 104, 116]) rfl rfl (by simp only [CL, and_self]) (fun v => by simp only [CL]) (fun b5 s5 h5 => ?_) (fun e s' he => by intros; exact PSem.fails (fn := Tryd.f36) (s := s') (hx.trans (by simp only [he, bnd_error])) rfl rfl))
 simp only [h5, bnd_ok] at hx
 have g5 := acc_ge i4 h5
 have i5 := g5.1
 have r5 := g5.rem
 simp only [↓EJ, EX, FA, simprocAttr]
 refine hK _ ?_; try clear hK K
 refine WC.trim [0, 2, 3, 4, 5, 6, 7, 8, 9, 10, 20, 25, 35, 45, 55, 86, 96, 107] ?_
 simp only [ET, simprocAttr]
 refine WC.cond (c := .tmp 55) rfl (fun h => ?_) (fun h => ?_)
 ·obtain rfl : b5 = true := by simpa using h
  dsimp only at hx
  have q5 := (acc_up i4 h5).rem
  refine WC.rs fun K hK => ?_
  simp only [↓EJ, EX, FA, simprocAttr]
  refine CallX.mk (CallW.par (enc := exV) (expr_sem ts s5 i5) rfl rfl (by simp only [CL, PCL, TCL, DCL, FCL, RCL, MCL, and_self]) (fun v => by simp only [CL, PCL, TCL, DCL, FCL, RCL, MCL, and_self]) (fun e s11 h11 => ?_) (fun e s' he => by intros; exact PSem.fails (fn := Tryd.f36) (s := s') (hx.trans (by simp only [he, bnd_error])) rfl rfl))
  simp only [h11, bnd_ok] at hx
  have g11 := expr_up i5 h11
  have i11 := g11.1
  have r11 := g11.rem
  obtain ⟨eo, ei, ⟨e1, e2, e3⟩, en, ea⟩ := e
  simp only [↓EJ, EX, FA, simprocAttr, exV_mk, MS, exsV_sc]
  refine hK _ ?_; try clear hK K
  refine WC.trim [0, 2, 3, 4, 5, 6, 7, 8, 9, 10, 20, 25, 35, 45, 55, 86, 96, 107] ?_
  simp only [ET, simprocAttr]
  refine WC.zs [1] (by simp only [cutZ, List.drop_zero, List.drop_succ_cons, List.take_zero, List.take_succ_cons, Option.map_some]; rfl) fun K hK => ?_
  simp only [↓EJ, EX, FA, simprocAttr, EZ]
  refine CallX.mk (CallW.par (enc := fun _ => .tuple []) (expect_sem ts [[59]] s11 i11 (by decide)) rfl rfl (by simp only [CL, List.map_cons, List.map_nil, and_self]) (fun v => by simp only [CL]) (fun u12 s12 h12 => ?_) (fun e s' he => by intros; exact PSem.fails (fn := Tryd.f36) (s := s') (hx.trans (by simp only [he, bnd_error])) rfl rfl))
  simp only [h12, bnd_ok] at hx
  have g12 := exp_up i11 h12
  have i12 := g12.1
  have r12 := g12.rem
  simp only [↓EJ, EX, FA, simprocAttr, EZ]
  refine hK _ ?_; try clear hK K
  refine WC.trim [0, 2, 3, 4, 5, 6, 7, 8, 9, 10, 20, 25, 35, 45, 55, 86, 96, 107] ?_
  simp only [ET, simprocAttr]
  refine WC.rs fun K hK => ?_
  simp only [↓EJ, EX, FA, simprocAttr, MS]
  refine hK _ ?_; try clear hK K
  refine WC.trim [0, 2, 3, 4, 5, 6, 7, 8, 9, 10, 20, 25, 35, 45, 55, 86, 96, 107] ?_
  simp only [ET, simprocAttr]
  refine WC.ret ?_
  simp only [↓EJ, EX, FA, simprocAttr, EQ, FnQ, Tryd.results36, wResL, tup, List.reverse_cons, List.reverse_nil, true_and, MS]
  exact PSem.done (fn := Tryd.f36) (s := s12) (v := (.mk 8 [] [] 0 (.mk eo ei (e1, e2, e3) en ea) [] zd [] [])) hx rfl (of_eq_true (by simp only [CL, PCL, TCL, DCL, FCL, RCL, MCL, and_self])) rfl
 obtain rfl : b5 = false := by simpa using h
 dsimp only at hx
 refine WC.skip ?_
 try simp only [EQ, reduceIte, Nat.reduceEqDiff]
 refine hK0 _ ?_; try clear hK0 K0
 refine WC.rs fun K hK => ?_
 simp only [↓EJ, EX, FA, simprocAttr]
 refine CallX.mk (CallW.par (enc := .str) (name_sem ts s5 i5) rfl rfl (by simp only [CL, PCL, TCL, DCL, FCL, RCL, MCL, and_self]) (fun v => by simp only [CL, PCL, TCL, DCL, FCL, RCL, MCL, and_self]) (fun w s11 h11 => ?_) (fun e s' he => by intros; exact PSem.fails (fn := Tryd.f36) (s := s') (hx.trans (by simp only [he, bnd_error])) rfl rfl))
 simp only [h11, bnd_ok] at hx
 have g11 := name_up i5 h11
 have i11 := g11.1
 simp only [↓EJ, EX, FA, simprocAttr, MS]
 refine hK _ ?_; try clear hK K
 refine WC.trim [0, 2, 3, 4, 5, 6, 7, 8, 9, 10, 20, 25, 35, 45, 55, 86, 96, 107] ?_
 simp only [ET, simprocAttr]
 refine WC.bs fun K1 hK1 => ?_
 refine WC.rs fun K hK => ?_
 simp only [↓EJ, EX, FA, simprocAttr]
 refine CallX.mk (CallW.par (enc := .bool) (accept_sem ts s11 i11 [126]) rfl rfl (by simp only [CL, and_self]) (fun v => by simp only [CL]) (fun b12 s12 h12 => ?_) (fun e s' he => by intros; exact PSem.fails (fn := Tryd.f36) (s := s') (hx.trans (by simp only [he, bnd_error])) rfl rfl))
 simp only [h12, bnd_ok] at hx
 have g12 := acc_ge i11 h12
 have i12 := g12.1
 simp only [↓EJ, EX, FA, simprocAttr]
 refine hK _ ?_; try clear hK K
 refine WC.trim [0, 2, 3, 4, 5, 6, 7, 8, 9, 10, 20, 25, 35, 45, 55, 86, 96, 107] ?_
 simp only [ET, simprocAttr]
 refine WC.cond (c := .tmp 107) rfl (fun h => ?_) (fun h => ?_)
 ·obtain rfl : b12 = true := by simpa using h
  dsimp only at hx
  refine WC.r1 ?_
  simp only [↓EJ, EX, FA, simprocAttr]
  refine CallX.mk (CallW.par (enc := drV) (draw_sem ts s12 i12) rfl rfl (by simp only [CL, PCL, TCL, DCL, FCL, RCL, MCL, and_self]) (fun v => by simp only [CL, PCL, TCL, DCL, FCL, RCL, MCL, and_self]) (fun d s13 h13 => ?_) (fun e s' he => by intros; exact PSem.fails (fn := Tryd.f36) (s := s') (hx.trans (by simp only [he, bnd_error])) rfl rfl))
  simp only [h13, bnd_ok] at hx
  have g13 := draw_up i12 h13
  have i13 := g13.1
  simp only [↓EJ, EX, FA, simprocAttr, drV, drC, MS]
  try simp only [EQ, reduceIte, Nat.reduceEqDiff]
  refine hK1 _ ?_; try clear hK1 K1
  refine WC.zs [1] (by simp only [cutZ, List.drop_zero, List.drop_succ_cons, List.take_zero, List.take_succ_cons, Option.map_some]; rfl) fun K hK => ?_
  simp only [↓EJ, EX, FA, simprocAttr, EZ]
  refine CallX.mk (CallW.par (enc := fun _ => .tuple []) (expect_sem ts [[59]] s13 i13 (by decide)) rfl rfl (by simp only [CL, List.map_cons, List.map_nil, and_self]) (fun v => by simp only [CL]) (fun u14 s14 h14 => ?_) (fun e s' he => by intros; exact PSem.fails (fn := Tryd.f36) (s := s') (hx.trans (by simp only [he, bnd_error])) rfl rfl))
  simp only [h14, bnd_ok] at hx
  have g14 := exp_up i13 h14
  have i14 := g14.1
  have r14 := g14.rem
  simp only [↓EJ, EX, FA, simprocAttr, EZ]
  refine hK _ ?_; try clear hK K
  refine WC.trim [0, 2, 3, 4, 5, 6, 7, 8, 9, 10, 20, 25, 35, 45, 55, 86, 96, 107] ?_
  simp only [ET, simprocAttr]
  refine WC.rs fun K hK => ?_
  simp only [↓EJ, EX, FA, simprocAttr, MS]
  refine hK _ ?_; try clear hK K
  refine WC.trim [0, 2, 3, 4, 5, 6, 7, 8, 9, 10, 20, 25, 35, 45, 55, 86, 96, 107] ?_
  simp only [ET, simprocAttr]
  refine WC.ret ?_
  simp only [↓EJ, EX, FA, simprocAttr, EQ, FnQ, Tryd.results36, wResL, tup, List.reverse_cons, List.reverse_nil, true_and, MS]
  exact PSem.done (fn := Tryd.f36) (s := s14) (v := (.mk 2 w [] 0 ze [] d [] [])) hx rfl (of_eq_true (by simp only [CL, PCL, TCL, DCL, FCL, RCL, MCL, and_self])) rfl
 obtain rfl : b12 = false := by simpa using h
 dsimp only at hx
 refine WC.zs [1] (by simp only [cutZ, List.drop_zero, List.drop_succ_cons, List.take_zero, List.take_succ_cons, Option.map_some]; rfl) fun K hK => ?_
 simp only [↓EJ, EX, FA, simprocAttr, EZ]
 refine CallX.mk (CallW.par (enc := fun _ => .tuple []) (expect_sem ts [[58, 61]] s12 i12 (by decide)) rfl rfl (by simp only [CL, List.map_cons, List.map_nil, and_self]) (fun v => by simp only [CL]) (fun u13 s13 h13 => ?_) (fun e s' he => by intros; exact PSem.fails (fn := Tryd.f36) (s := s') (hx.trans (by simp only [he, bnd_error])) rfl rfl))
 simp only [h13, bnd_ok] at hx
 have g13 := exp_up i12 h13
 have i13 := g13.1
 have r13 := g13.rem
 simp only [↓EJ, EX, FA, simprocAttr, EZ]
 refine hK _ ?_; try clear hK K
 refine WC.trim [0, 2, 3, 4, 5, 6, 7, 8, 9, 10, 20, 25, 35, 45, 55, 86, 96, 107] ?_
 simp only [ET, simprocAttr]
 refine WC.rs fun K hK => ?_
 simp only [↓EJ, EX, FA, simprocAttr]
 refine CallX.mk (CallW.one (r := .o 0) (next_sem ts s13 i13) rfl (pblk_closed ts s13) (pblk_closed ts s13) (tkv_closed1 _) (by simp [renL, ren, fCall]) ?_)
 simp only [↓EJ, EX, FA, simprocAttr, tkv_cells, tkv, tk]
 refine hK _ ?_; try clear hK K
 refine WC.trim [0, 2, 3, 4, 5, 6, 7, 8, 9, 10, 20, 25, 35, 45, 55, 86, 96, 107] ?_
 simp only [ET, simprocAttr]
 refine WC.sx (X := Bool) (fun b => b = isCall ts s13) (fun b => ⟨[(86, .bool b), (8, .ptr (.l 1) 0 0), (2, .ptr (.l 0) 0 0), (0, .ptr (.o 0) 0 0)], [pblk ts s13], [.row [.agg [.int .i64 0, .str [], .str [], .int .i64 0, .int .i64 0, .int .i64 0, .bool false, .nils, .nils, .str [], .nils, .nils, .int .i64 0, .int .i64 0, .int .i64 0, .bool false, .nils, .nils, .bool false, .nils, .nils, .nils, .str [], .nils, .nils]] 25 55, .row [.agg [.int .i64 0, .str w, .str [], .int .i64 0, .int .i64 0, .int .i64 0, .bool false, .nils, .nils, .str [], .nils, .nils, .int .i64 0, .int .i64 0, .int .i64 0, .bool false, .nils, .nils, .bool false, .nils, .nils, .nils, .str [], .nils, .nils]] 25 55], []⟩) ?_ ?_
 ·by_cases c1 : (cur ts s13).1 = 1
  ·by_cases c2 : (nxt ts s13).1 = 4
   ·refine WC.r1 ?_
    simp only [↓EJ, EX, FA, simprocAttr, tkv_cells, tkv, tk]
    refine CallX.mk (CallW.one (r := .o 0) (now_sem ts s13 i13) rfl (pblk_closed ts s13) (pblk_closed ts s13) (tkv_closed1 _) (by simp [renL, ren, fCall]) ?_)
    simp only [↓EJ, EX, FA, simprocAttr, tkv_cells, tkv, tk, c1, c2, Int.cast_ofNat_Int, Bool.not_true, Bool.not_false]
    try simp only [EQ, reduceIte, Nat.reduceEqDiff]
    refine ⟨decide ((nxt ts s13).2.1 = [40]), [0, 1], by simp [isCall, c1, c2], ?_⟩
    refine ⟨by simp, by simp only [EV, EB, EL, ER, ET, and_self, true_and, and_true, Nat.reduceEqDiff, reduceCtorEq, reduceIte, PRN], by simp only [EV, EB, EL, ER, ET, and_self, true_and, and_true, Nat.reduceEqDiff, reduceCtorEq, reduceIte, PRN], by simp only [EV, EB, EL, ER, ET, and_self, true_and, and_true, Nat.reduceEqDiff, reduceCtorEq, reduceIte, PRN, pick], rfl⟩
   ·have j2 : (((nxt ts s13).1 : Nat) : Int) = 4 ↔ False := iff_false_intro (by omega)
    refine WC.r1 ?_
    simp only [↓EJ, EX, FA, simprocAttr, tkv_cells, tkv, tk]
    refine CallX.mk (CallW.one (r := .o 0) (now_sem ts s13 i13) rfl (pblk_closed ts s13) (pblk_closed ts s13) (tkv_closed1 _) (by simp [renL, ren, fCall]) ?_)
    simp only [↓EJ, EX, FA, simprocAttr, tkv_cells, tkv, tk, c1, j2, Int.cast_ofNat_Int, Bool.not_true, Bool.not_false]
    try simp only [EQ, reduceIte, Nat.reduceEqDiff]
    refine ⟨false, [0, 1], by simp [isCall, c1, c2], ?_⟩
    refine ⟨by simp, by simp only [EV, EB, EL, ER, ET, and_self, true_and, and_true, Nat.reduceEqDiff, reduceCtorEq, reduceIte, PRN], by simp only [EV, EB, EL, ER, ET, and_self, true_and, and_true, Nat.reduceEqDiff, reduceCtorEq, reduceIte, PRN], by simp only [EV, EB, EL, ER, ET, and_self, true_and, and_true, Nat.reduceEqDiff, reduceCtorEq, reduceIte, PRN, pick], rfl⟩
  ·have j1 : (((cur ts s13).1 : Nat) : Int) = 1 ↔ False := iff_false_intro (by omega)
   refine WC.r1 ?_
   simp only [↓EJ, EX, FA, simprocAttr, tkv_cells, tkv, tk]
   refine CallX.mk (CallW.one (r := .o 0) (now_sem ts s13 i13) rfl (pblk_closed ts s13) (pblk_closed ts s13) (tkv_closed1 _) (by simp [renL, ren, fCall]) ?_)
   simp only [↓EJ, EX, FA, simprocAttr, tkv_cells, tkv, tk, j1, Int.cast_ofNat_Int, Bool.not_true, Bool.not_false]
   try simp only [EQ, reduceIte, Nat.reduceEqDiff]
   refine ⟨false, [0, 1], by simp [isCall, c1], ?_⟩
   refine ⟨by simp, by simp only [EV, EB, EL, ER, ET, and_self, true_and, and_true, Nat.reduceEqDiff, reduceCtorEq, reduceIte, PRN], by simp only [EV, EB, EL, ER, ET, and_self, true_and, and_true, Nat.reduceEqDiff, reduceCtorEq, reduceIte, PRN], by simp only [EV, EB, EL, ER, ET, and_self, true_and, and_true, Nat.reduceEqDiff, reduceCtorEq, reduceIte, PRN, pick], rfl⟩
 rintro b hb
 rw [← hb] at hx
 clear hb
 refine WC.cond (c := .tmp 86) rfl (fun h => ?_) (fun h => ?_)
 ·obtain rfl : b = true := by simpa using h
  dsimp only at hx
  refine WC.rs fun K hK => ?_
  simp only [↓EJ, EX, FA, simprocAttr]
  refine CallX.mk (CallW.par (enc := .str) (name_sem ts s13 i13) rfl rfl (by simp only [CL, PCL, TCL, DCL, FCL, RCL, MCL, and_self]) (fun v => by simp only [CL, PCL, TCL, DCL, FCL, RCL, MCL, and_self]) (fun f s14 h14 => ?_) (fun e s' he => by intros; exact PSem.fails (fn := Tryd.f36) (s := s') (hx.trans (by simp only [he, bnd_error])) rfl rfl))
  simp only [h14, bnd_ok] at hx
  have g14 := name_up i13 h14
  have i14 := g14.1
  simp only [↓EJ, EX, FA, simprocAttr, MS]
  refine hK _ ?_; try clear hK K
  refine WC.trim [0, 2, 3, 4, 5, 6, 7, 8, 9, 10, 20, 25, 35, 45, 55, 86, 96, 107] ?_
  simp only [ET, simprocAttr]
  refine WC.zs [1] (by simp only [cutZ, List.drop_zero, List.drop_succ_cons, List.take_zero, List.take_succ_cons, Option.map_some]; rfl) fun K hK => ?_
  simp only [↓EJ, EX, FA, simprocAttr, EZ]
  refine CallX.mk (CallW.par (enc := fun _ => .tuple []) (expect_sem ts [[40]] s14 i14 (by decide)) rfl rfl (by simp only [CL, List.map_cons, List.map_nil, and_self]) (fun v => by simp only [CL]) (fun u15 s15 h15 => ?_) (fun e s' he => by intros; exact PSem.fails (fn := Tryd.f36) (s := s') (hx.trans (by simp only [he, bnd_error])) rfl rfl))
  simp only [h15, bnd_ok] at hx
  have g15 := exp_up i14 h15
  have i15 := g15.1
  have r15 := g15.rem
  simp only [↓EJ, EX, FA, simprocAttr, EZ]
  refine hK _ ?_; try clear hK K
  refine WC.trim [0, 2, 3, 4, 5, 6, 7, 8, 9, 10, 20, 25, 35, 45, 55, 86, 96, 107] ?_
  simp only [ET, simprocAttr]
  refine WC.sK fun K4 hK4 => ?_
  cases hp : isP ts s15 [41] with
  | true =>
    simp only [hp] at hx
    refine WC.rs fun K hK => ?_
    simp only [↓EJ, EX, FA, simprocAttr]
    refine CallX.mk (CallW.one (r := .o 0) (is_sem ts s15 i15 [41]) rfl (pblk_closed ts s15) (pblk_closed ts s15) (by simp only [CL]) (by simp [renL, ren, fCall]) ?_)
    rw [hp]
    simp only [↓EJ, EX, FA, simprocAttr]
    refine hK _ ?_; try clear hK K
    refine WC.trim [0, 2, 3, 4, 5, 6, 7, 8, 9, 10, 20, 25, 35, 45, 55, 86, 96, 107] ?_
    simp only [ET, simprocAttr]
    refine WC.cond (c := .tmp 96) rfl (fun h => ?_) (fun h => ?_)
    ·simp at h
    refine WC.skip ?_
    try simp only [EQ, reduceIte, Nat.reduceEqDiff]
    refine hK4 _ ?_; try clear hK4 K4
    refine WC.z1 [1] (by simp only [cutZ, List.drop_zero, List.drop_succ_cons, List.take_zero, List.take_succ_cons, Option.map_some]; rfl) ?_
    simp only [↓EJ, EX, FA, simprocAttr, EZ]
    refine CallX.mk (CallW.par (enc := fun _ => .tuple []) (expect_sem ts [[41]] s15 i15 (by decide)) rfl rfl (by simp only [CL, List.map_cons, List.map_nil, and_self]) (fun v => by simp only [CL]) (fun u16 s16 h16 => ?_) (fun e s' he => by intros; exact PSem.fails (fn := Tryd.f36) (s := s') (hx.trans (by simp only [he, bnd_error])) rfl rfl))
    simp only [h16, bnd_ok] at hx
    have g16 := exp_up i15 h16
    have i16 := g16.1
    have r16 := g16.rem
    simp only [↓EJ, EX, FA, simprocAttr, EZ]
    try simp only [EQ, reduceIte, Nat.reduceEqDiff]
    refine hK1 _ ?_; try clear hK1 K1
    refine WC.zs [1] (by simp only [cutZ, List.drop_zero, List.drop_succ_cons, List.take_zero, List.take_succ_cons, Option.map_some]; rfl) fun K hK => ?_
    simp only [↓EJ, EX, FA, simprocAttr, EZ]
    refine CallX.mk (CallW.par (enc := fun _ => .tuple []) (expect_sem ts [[59]] s16 i16 (by decide)) rfl rfl (by simp only [CL, List.map_cons, List.map_nil, and_self]) (fun v => by simp only [CL]) (fun u17 s17 h17 => ?_) (fun e s' he => by intros; exact PSem.fails (fn := Tryd.f36) (s := s') (hx.trans (by simp only [he, bnd_error])) rfl rfl))
    simp only [h17, bnd_ok] at hx
    have g17 := exp_up i16 h17
    have i17 := g17.1
    have r17 := g17.rem
    simp only [↓EJ, EX, FA, simprocAttr, EZ]
    refine hK _ ?_; try clear hK K
    refine WC.trim [0, 2, 3, 4, 5, 6, 7, 8, 9, 10, 20, 25, 35, 45, 55, 86, 96, 107] ?_
    simp only [ET, simprocAttr]
    refine WC.rs fun K hK => ?_
    simp only [↓EJ, EX, FA, simprocAttr, MS]
    refine hK _ ?_; try clear hK K
    refine WC.trim [0, 2, 3, 4, 5, 6, 7, 8, 9, 10, 20, 25, 35, 45, 55, 86, 96, 107] ?_
    simp only [ET, simprocAttr]
    refine WC.ret ?_
    simp only [↓EJ, EX, FA, simprocAttr, EQ, FnQ, Tryd.results36, wResL, tup, List.reverse_cons, List.reverse_nil, true_and, MS]
    exact PSem.done (fn := Tryd.f36) (s := s17) (v := (.mk 3 w f 0 ze [] zd [] [])) hx rfl (of_eq_true (by simp only [CL, PCL, TCL, DCL, FCL, RCL, MCL, and_self])) rfl
  | false =>
    simp only [hp] at hx
    refine WC.rs fun K hK => ?_
    simp only [↓EJ, EX, FA, simprocAttr]
    refine CallX.mk (CallW.one (r := .o 0) (is_sem ts s15 i15 [41]) rfl (pblk_closed ts s15) (pblk_closed ts s15) (by simp only [CL]) (by simp [renL, ren, fCall]) ?_)
    rw [hp]
    simp only [↓EJ, EX, FA, simprocAttr]
    refine hK _ ?_; try clear hK K
    refine WC.trim [0, 2, 3, 4, 5, 6, 7, 8, 9, 10, 20, 25, 35, 45, 55, 86, 96, 107] ?_
    simp only [ET, simprocAttr]
    refine WC.cond (c := .tmp 96) rfl (fun h => ?_) (fun h => ?_)
    rotate_left
    ·simp at h
    refine WC.r1 ?_
    simp only [↓EJ, EX, FA, simprocAttr]
    refine CallX.mk (CallW.par (enc := exsV) (exprs_sem ts s15 i15) rfl rfl (by simp only [CL, PCL, TCL, DCL, FCL, RCL, MCL, and_self]) (fun v => by simp only [CL, PCL, TCL, DCL, FCL, RCL, MCL, and_self]) (fun l s16 h16 => ?_) (fun e s' he => by intros; exact PSem.fails (fn := Tryd.f36) (s := s') (hx.trans (by simp only [he, bnd_error])) rfl rfl))
    simp only [h16, bnd_ok] at hx
    have g16 := exprs_up i15 h16
    have i16 := g16.1
    simp only [↓EJ, EX, FA, simprocAttr, exV_mk, MS, exsV_sc]
    try simp only [EQ, reduceIte, Nat.reduceEqDiff]
    refine hK4 _ ?_; try clear hK4 K4
    refine WC.z1 [1] (by simp only [cutZ, List.drop_zero, List.drop_succ_cons, List.take_zero, List.take_succ_cons, Option.map_some]; rfl) ?_
    simp only [↓EJ, EX, FA, simprocAttr, EZ]
    refine CallX.mk (CallW.par (enc := fun _ => .tuple []) (expect_sem ts [[41]] s16 i16 (by decide)) rfl rfl (by simp only [CL, List.map_cons, List.map_nil, and_self]) (fun v => by simp only [CL]) (fun u17 s17 h17 => ?_) (fun e s' he => by intros; exact PSem.fails (fn := Tryd.f36) (s := s') (hx.trans (by simp only [he, bnd_error])) rfl rfl))
    simp only [h17, bnd_ok] at hx
    have g17 := exp_up i16 h17
    have i17 := g17.1
    have r17 := g17.rem
    simp only [↓EJ, EX, FA, simprocAttr, EZ]
    try simp only [EQ, reduceIte, Nat.reduceEqDiff]
    refine hK1 _ ?_; try clear hK1 K1
    refine WC.zs [1] (by simp only [cutZ, List.drop_zero, List.drop_succ_cons, List.take_zero, List.take_succ_cons, Option.map_some]; rfl) fun K hK => ?_
    simp only [↓EJ, EX, FA, simprocAttr, EZ]
    refine CallX.mk (CallW.par (enc := fun _ => .tuple []) (expect_sem ts [[59]] s17 i17 (by decide)) rfl rfl (by simp only [CL, List.map_cons, List.map_nil, and_self]) (fun v => by simp only [CL]) (fun u18 s18 h18 => ?_) (fun e s' he => by intros; exact PSem.fails (fn := Tryd.f36) (s := s') (hx.trans (by simp only [he, bnd_error])) rfl rfl))
    simp only [h18, bnd_ok] at hx
    have g18 := exp_up i17 h18
    have i18 := g18.1
    have r18 := g18.rem
    simp only [↓EJ, EX, FA, simprocAttr, EZ]
    refine hK _ ?_; try clear hK K
    refine WC.trim [0, 2, 3, 4, 5, 6, 7, 8, 9, 10, 20, 25, 35, 45, 55, 86, 96, 107] ?_
    simp only [ET, simprocAttr]
    refine WC.rs fun K hK => ?_
    simp only [↓EJ, EX, FA, simprocAttr, MS]
    refine hK _ ?_; try clear hK K
    refine WC.trim [0, 2, 3, 4, 5, 6, 7, 8, 9, 10, 20, 25, 35, 45, 55, 86, 96, 107] ?_
    simp only [ET, simprocAttr]
    refine WC.ret ?_
    simp only [↓EJ, EX, FA, simprocAttr, EQ, FnQ, Tryd.results36, wResL, tup, List.reverse_cons, List.reverse_nil, true_and, MS]
    exact PSem.done (fn := Tryd.f36) (s := s18) (v := (.mk 3 w f 0 ze l zd [] [])) hx rfl (of_eq_true (by simp only [CL, PCL, TCL, DCL, FCL, RCL, MCL, and_self])) rfl
 ·obtain rfl : b = false := by simpa using h
  dsimp only at hx
  refine WC.r1 ?_
  simp only [↓EJ, EX, FA, simprocAttr]
  refine CallX.mk (CallW.par (enc := exV) (expr_sem ts s13 i13) rfl rfl (by simp only [CL, PCL, TCL, DCL, FCL, RCL, MCL, and_self]) (fun v => by simp only [CL, PCL, TCL, DCL, FCL, RCL, MCL, and_self]) (fun e s14 h14 => ?_) (fun e s' he => by intros; exact PSem.fails (fn := Tryd.f36) (s := s') (hx.trans (by simp only [he, bnd_error])) rfl rfl))
  simp only [h14, bnd_ok] at hx
  have g14 := expr_up i13 h14
  have i14 := g14.1
  have r14 := g14.rem
  obtain ⟨eo, ei, ⟨e1, e2, e3⟩, en, ea⟩ := e
  simp only [↓EJ, EX, FA, simprocAttr, exV_mk, MS, exsV_sc]
  try simp only [EQ, reduceIte, Nat.reduceEqDiff]
  refine hK1 _ ?_; try clear hK1 K1
  refine WC.zs [1] (by simp only [cutZ, List.drop_zero, List.drop_succ_cons, List.take_zero, List.take_succ_cons, Option.map_some]; rfl) fun K hK => ?_
  simp only [↓EJ, EX, FA, simprocAttr, EZ]
  refine CallX.mk (CallW.par (enc := fun _ => .tuple []) (expect_sem ts [[59]] s14 i14 (by decide)) rfl rfl (by simp only [CL, List.map_cons, List.map_nil, and_self]) (fun v => by simp only [CL]) (fun u15 s15 h15 => ?_) (fun e s' he => by intros; exact PSem.fails (fn := Tryd.f36) (s := s') (hx.trans (by simp only [he, bnd_error])) rfl rfl))
  simp only [h15, bnd_ok] at hx
  have g15 := exp_up i14 h15
  have i15 := g15.1
  have r15 := g15.rem
  simp only [↓EJ, EX, FA, simprocAttr, EZ]
  refine hK _ ?_; try clear hK K
  refine WC.trim [0, 2, 3, 4, 5, 6, 7, 8, 9, 10, 20, 25, 35, 45, 55, 86, 96, 107] ?_
  simp only [ET, simprocAttr]
  refine WC.rs fun K hK => ?_
  simp only [↓EJ, EX, FA, simprocAttr, MS]
  refine hK _ ?_; try clear hK K
  refine WC.trim [0, 2, 3, 4, 5, 6, 7, 8, 9, 10, 20, 25, 35, 45, 55, 86, 96, 107] ?_
  simp only [ET, simprocAttr]
  refine WC.ret ?_
  simp only [↓EJ, EX, FA, simprocAttr, EQ, FnQ, Tryd.results36, wResL, tup, List.reverse_cons, List.reverse_nil, true_and, MS]
  exact PSem.done (fn := Tryd.f36) (s := s15) (v := (.mk 1 w [] 0 (.mk eo ei (e1, e2, e3) en ea) [] zd [] [])) hx rfl (of_eq_true (by simp only [CL, PCL, TCL, DCL, FCL, RCL, MCL, and_self])) rfl
end Go.LexSem
-- CLOSERS: PCL, TCL, DCL, FCL, RCL, MCL
set_option maxHeartbeats 32000000
set_option maxRecDepth 8000
namespace Go.LexSem
open Go Go.V Go.Proofs Go.Num

theorem body_step (ts : List Tok) (n : Nat) (H : ∀ m, m ≤ n → MAll ts m) (s0 : PS) (i0 : PInv ts s0) (hn : 3 * rem ts s0 ≤ n + 1) : PSem 47 [] ts s0 (bodyF ts (n + 1) s0) smsV := by
 have X := sInv ts n
 obtain ⟨x, hx⟩ : ∃ x, x = bodyF ts (n + 1) s0 := ⟨_, rfl⟩
 rw [← hx]
 rw [bodyF] at hx
 unfold PSem
 refine FSem.enter' (C := C) (n := 19) Tryd.func47 rfl rfl ok_47 (by simp) ?_
 simp only [argEnv]
 refine WC.rs fun K hK => ?_
 simp only [↓EJ, EX, FA, simprocAttr]
 refine hK _ ?_; try clear hK K
 refine WC.trim [0, 2, 3, 9] ?_
 simp only [ET, simprocAttr]
 refine WC.rs fun K hK => ?_
 simp only [↓EJ, EX, FA, simprocAttr]
 refine hK _ ?_; try clear hK K
 refine WC.trim [0, 2, 3, 9] ?_
 simp only [ET, simprocAttr]
 refine WC.zs [1] (by simp only [cutZ, List.drop_zero, List.drop_succ_cons, List.take_zero, List.take_succ_cons, Option.map_some]; rfl) fun K hK => ?_
 simp only [↓EJ, EX, FA, simprocAttr, EZ]
 refine CallX.mk (CallW.par (enc := fun _ => .tuple []) (expect_sem ts [[123]] s0 i0 (by decide)) rfl rfl (by simp only [CL, List.map_cons, List.map_nil, and_self]) (fun v => by simp only [CL]) (fun u1 s1 h1 => ?_) (fun e s' he => by intros; exact PSem.fails (fn := Tryd.f47) (s := s') (hx.trans (by simp only [he, bnd_error])) rfl rfl))
 simp only [h1, bnd_ok] at hx
 have g1 := exp_up i0 h1
 have i1 := g1.1
 have r1 := g1.rem
 simp only [↓EJ, EX, FA, simprocAttr, EZ]
 refine hK _ ?_; try clear hK K
 refine WC.trim [0, 2, 3, 9] ?_
 simp only [ET, simprocAttr]
 refine WC.bs fun K0 hK0 => ?_
 refine WC.loop (X := Nat × List Sm × PS) (fun y => if y.2.1 = [] then ⟨[(3, .nils), (0, .ptr (.o 0) 0 0)], [pblk ts y.2.2], [], []⟩ else ⟨[(3, .ref (.l 0) 0 y.2.1.length), (0, .ptr (.o 0) 0 0)], [pblk ts y.2.2], [.row (y.2.1.map smV) 25 55], []⟩)
  (fun y => y.1 ≤ n ∧ PInv ts y.2.2 ∧ 3 * rem ts y.2.2 + 2 ≤ y.1 ∧ y.2.1.length ≤ y.2.2.at_ ∧ x = bnd (stmtsF ts [125] y.1 y.2.1 y.2.2) (fun l s => bnd (expectF ts [[125]] s) fun _ s => .ok (l, s))) (fun y => y.1) (n, [], s1) [] ⟨Nat.le_refl _, i1, by dsimp only; omega, Nat.zero_le _, hx⟩ ?_ ?_
 ·dsimp only
  rw [if_pos rfl]
  refine ⟨by simp, by simp only [EV, EB, EL, ER, ET, and_self, true_and, and_true, Nat.reduceEqDiff, reduceCtorEq, reduceIte, PRN], by simp only [EV, EB, EL, ER, ET, and_self, true_and, and_true, Nat.reduceEqDiff, reduceCtorEq, reduceIte, PRN], by simp only [EV, EB, EL, ER, ET, and_self, true_and, and_true, Nat.reduceEqDiff, reduceCtorEq, reduceIte, PRN, pick], rfl⟩
 clear hx r1 g1 h1 i1
 rintro ⟨m, acc, s1⟩ ⟨hm, i1, hr, hlen, hx⟩
 dsimp only at hm i1 hr hlen hx ⊢
 have hle := i1.le
 have hlt := i1.lt
 obtain ⟨m, rfl⟩ : ∃ k, m = k + 1 := ⟨m - 1, by omega⟩
 have Xm := sInv ts m
 rw [stmtsF] at hx
 by_cases hne : acc = []
 ·skip
  subst hne
  rw [if_pos rfl]
  refine WC.sK fun K3 hK3 => ?_
  cases hp : isP ts s1 [125] with
  | true =>
    simp only [hp, bnd_ok] at hx
    refine WC.rs fun K hK => ?_
    simp only [↓EJ, EX, FA, simprocAttr]
    refine CallX.mk (CallW.one (r := .o 0) (is_sem ts s1 i1 [125]) rfl (pblk_closed ts s1) (pblk_closed ts s1) (by simp only [CL]) (by simp [renL, ren, fCall]) ?_)
    rw [hp]
    simp only [↓EJ, EX, FA, simprocAttr]
    refine hK _ ?_; try clear hK K
    refine WC.trim [0, 2, 3, 9] ?_
    simp only [ET, simprocAttr]
    refine WC.cond (c := .tmp 9) rfl (fun h => ?_) (fun h => ?_)
    ·simp at h
    refine WC.exit ?_
    simp only [EQ, reduceIte, Nat.reduceEqDiff]
    try simp only [EQ, reduceIte, Nat.reduceEqDiff]
    refine hK0 _ ?_; try clear hK0 K0
    refine WC.zs [1] (by simp only [cutZ, List.drop_zero, List.drop_succ_cons, List.take_zero, List.take_succ_cons, Option.map_some]; rfl) fun K hK => ?_
    simp only [↓EJ, EX, FA, simprocAttr, EZ]
    refine CallX.mk (CallW.par (enc := fun _ => .tuple []) (expect_sem ts [[125]] s1 i1 (by decide)) rfl rfl (by simp only [CL, List.map_cons, List.map_nil, and_self]) (fun v => by simp only [CL]) (fun u2 s2 h2 => ?_) (fun e s' he => by intros; exact PSem.fails (fn := Tryd.f47) (s := s') (hx.trans (by simp only [he, bnd_error])) rfl rfl))
    simp only [h2, bnd_ok] at hx
    have g2 := exp_up i1 h2
    have i2 := g2.1
    simp only [↓EJ, EX, FA, simprocAttr, EZ]
    refine hK _ ?_; try clear hK K
    refine WC.trim [0, 2, 3, 9] ?_
    simp only [ET, simprocAttr]
    refine WC.rs fun K hK => ?_
    simp only [↓EJ, EX, FA, simprocAttr]
    refine hK _ ?_; try clear hK K
    refine WC.trim [0, 2, 3, 9] ?_
    simp only [ET, simprocAttr]
    refine WC.ret ?_
    simp only [↓EJ, EX, FA, simprocAttr, EQ, FnQ, Tryd.results47, wResL, tup, List.reverse_cons, List.reverse_nil, true_and]
    exact PSem.done (fn := Tryd.f47) (s := s2) (v := []) hx rfl (of_eq_true (by simp only [CL, PCL, TCL, DCL, FCL, RCL, MCL, and_self])) rfl
  | false =>
    simp only [hp] at hx
    refine WC.rs fun K hK => ?_
    simp only [↓EJ, EX, FA, simprocAttr]
    refine CallX.mk (CallW.one (r := .o 0) (is_sem ts s1 i1 [125]) rfl (pblk_closed ts s1) (pblk_closed ts s1) (by simp only [CL]) (by simp [renL, ren, fCall]) ?_)
    rw [hp]
    simp only [↓EJ, EX, FA, simprocAttr]
    refine hK _ ?_; try clear hK K
    refine WC.trim [0, 2, 3, 9] ?_
    simp only [ET, simprocAttr]
    refine WC.cond (c := .tmp 9) rfl (fun h => ?_) (fun h => ?_)
    rotate_left
    ·simp at h
    refine WC.skip ?_
    try simp only [EQ, reduceIte, Nat.reduceEqDiff]
    refine hK3 _ ?_; try clear hK3 K3
    refine WC.b1 ?_
    refine WC.z1 [3] (by simp only [cutZ, List.drop_zero, List.drop_succ_cons, List.take_zero, List.take_succ_cons, Option.map_some]; rfl) ?_
    simp only [↓EJ, EX, FA, simprocAttr, EZ]
    refine CallX.mk (CallW.par (enc := smV) ((H m (by omega)).stmt s1 i1 (by omega)) rfl rfl (by simp only [CL, PCL, TCL, DCL, FCL, RCL, MCL, and_self]) (fun v => by simp only [CL, PCL, TCL, DCL, FCL, RCL, MCL, and_self]) (fun t s3 h3 => ?_) (fun e s' he => by intros; exact PSem.fails (fn := Tryd.f47) (s := s') (hx.trans (by simp only [he, bnd_error])) rfl rfl))
    simp only [h3, bnd_ok] at hx
    have g3 := Xm.stmt i1 h3
    have i3 := g3.1
    have r3 := g3.rem
    have a3 := g3.2
    simp only [↓EJ, EX, FA, simprocAttr, EZ, MS]
    try simp only [EQ, reduceIte, Nat.reduceEqDiff]
    refine ⟨(m, [t], s3), [0], ⟨by dsimp only; omega, i3, by dsimp only; omega, by simp only [List.length_append, List.length_cons, List.length_nil]; omega, hx⟩, by dsimp only; omega, ?_⟩
    dsimp only
    rw [if_neg (by simp)]
    refine ⟨by simp, by simp only [EV, EB, EL, ER, ET, and_self, true_and, and_true, Nat.reduceEqDiff, reduceCtorEq, reduceIte, PRN, MRN, MS, exVs_append, List.map_append, List.map_cons, List.map_nil, List.length_append, List.length_cons, List.length_nil], by simp only [EV, EB, EL, ER, ET, and_self, true_and, and_true, Nat.reduceEqDiff, reduceCtorEq, reduceIte, PRN, MRN, MS, exVs_append, List.map_append, List.map_cons, List.map_nil, List.length_append, List.length_cons, List.length_nil], by simp only [EV, EB, EL, ER, ET, and_self, true_and, and_true, Nat.reduceEqDiff, reduceCtorEq, reduceIte, PRN, MRN, MS, exVs_append, List.map_append, List.map_cons, List.map_nil, List.length_append, List.length_cons, List.length_nil, pick], rfl⟩
 ·skip
  rw [if_neg hne]
  refine WC.sK fun K3 hK3 => ?_
  cases hp : isP ts s1 [125] with
  | true =>
    simp only [hp, bnd_ok] at hx
    refine WC.rs fun K hK => ?_
    simp only [↓EJ, EX, FA, simprocAttr]
    refine CallX.mk (CallW.one (r := .o 0) (is_sem ts s1 i1 [125]) rfl (pblk_closed ts s1) (pblk_closed ts s1) (by simp only [CL]) (by simp [renL, ren, fCall]) ?_)
    rw [hp]
    simp only [↓EJ, EX, FA, simprocAttr]
    refine hK _ ?_; try clear hK K
    refine WC.trim [0, 2, 3, 9] ?_
    simp only [ET, simprocAttr]
    refine WC.cond (c := .tmp 9) rfl (fun h => ?_) (fun h => ?_)
    ·simp at h
    refine WC.exit ?_
    simp only [EQ, reduceIte, Nat.reduceEqDiff]
    try simp only [EQ, reduceIte, Nat.reduceEqDiff]
    refine hK0 _ ?_; try clear hK0 K0
    refine WC.zs [1] (by simp only [cutZ, List.drop_zero, List.drop_succ_cons, List.take_zero, List.take_succ_cons, Option.map_some]; rfl) fun K hK => ?_
    simp only [↓EJ, EX, FA, simprocAttr, EZ]
    refine CallX.mk (CallW.par (enc := fun _ => .tuple []) (expect_sem ts [[125]] s1 i1 (by decide)) rfl rfl (by simp only [CL, List.map_cons, List.map_nil, and_self]) (fun v => by simp only [CL]) (fun u2 s2 h2 => ?_) (fun e s' he => by intros; exact PSem.fails (fn := Tryd.f47) (s := s') (hx.trans (by simp only [he, bnd_error])) rfl rfl))
    simp only [h2, bnd_ok] at hx
    have g2 := exp_up i1 h2
    have i2 := g2.1
    simp only [↓EJ, EX, FA, simprocAttr, EZ]
    refine hK _ ?_; try clear hK K
    refine WC.trim [0, 2, 3, 9] ?_
    simp only [ET, simprocAttr]
    refine WC.frz 3 0 rfl rfl (by simp) ?_
    refine WC.rs fun K hK => ?_
    simp only [↓EJ, EX, FA, simprocAttr]
    refine hK _ ?_; try clear hK K
    refine WC.trim [0, 2, 3, 9] ?_
    simp only [ET, simprocAttr]
    refine WC.ret ?_
    simp only [↓EJ, EX, FA, simprocAttr, EQ, FnQ, Tryd.results47, wResL, tup, List.reverse_cons, List.reverse_nil, true_and]
    have hp : PVal.slc (List.take acc.length (List.map smV acc)) = smsV acc := by rw [smsV_ne hne, List.take_of_length_le (by simp)]
    rw [hp]
    exact PSem.done (fn := Tryd.f47) (s := s2) (v := acc) hx rfl (of_eq_true (by simp only [CL, PCL, TCL, DCL, FCL, RCL, MCL, and_self])) rfl
  | false =>
    simp only [hp] at hx
    refine WC.rs fun K hK => ?_
    simp only [↓EJ, EX, FA, simprocAttr]
    refine CallX.mk (CallW.one (r := .o 0) (is_sem ts s1 i1 [125]) rfl (pblk_closed ts s1) (pblk_closed ts s1) (by simp only [CL]) (by simp [renL, ren, fCall]) ?_)
    rw [hp]
    simp only [↓EJ, EX, FA, simprocAttr]
    refine hK _ ?_; try clear hK K
    refine WC.trim [0, 2, 3, 9] ?_
    simp only [ET, simprocAttr]
    refine WC.cond (c := .tmp 9) rfl (fun h => ?_) (fun h => ?_)
    rotate_left
    ·simp at h
    refine WC.skip ?_
    try simp only [EQ, reduceIte, Nat.reduceEqDiff]
    refine hK3 _ ?_; try clear hK3 K3
    refine WC.b1 ?_
    refine WC.z1 [3] (by simp only [cutZ, List.drop_zero, List.drop_succ_cons, List.take_zero, List.take_succ_cons, Option.map_some]; rfl) ?_
    simp only [↓EJ, EX, FA, simprocAttr, EZ]
    refine CallX.mk (CallW.par (enc := smV) ((H m (by omega)).stmt s1 i1 (by omega)) rfl rfl (by simp only [CL, PCL, TCL, DCL, FCL, RCL, MCL, and_self]) (fun v => by simp only [CL, PCL, TCL, DCL, FCL, RCL, MCL, and_self]) (fun t s3 h3 => ?_) (fun e s' he => by intros; exact PSem.fails (fn := Tryd.f47) (s := s') (hx.trans (by simp only [he, bnd_error])) rfl rfl))
    simp only [h3, bnd_ok] at hx
    have g3 := Xm.stmt i1 h3
    have i3 := g3.1
    have r3 := g3.rem
    have a3 := g3.2
    simp only [↓EJ, EX, FA, simprocAttr, EZ, MS]
    refine ⟨by rw [List.length_map], by omega, by omega, ?_⟩
    try simp only [EQ, reduceIte, Nat.reduceEqDiff]
    refine ⟨(m, acc ++ [t], s3), [1], ⟨by dsimp only; omega, i3, by dsimp only; omega, by simp only [List.length_append, List.length_cons, List.length_nil]; omega, hx⟩, by dsimp only; omega, ?_⟩
    dsimp only
    rw [if_neg (by simp)]
    refine ⟨by simp, by simp only [EV, EB, EL, ER, ET, and_self, true_and, and_true, Nat.reduceEqDiff, reduceCtorEq, reduceIte, PRN, MRN, MS, exVs_append, List.map_append, List.map_cons, List.map_nil, List.length_append, List.length_cons, List.length_nil], by simp only [EV, EB, EL, ER, ET, and_self, true_and, and_true, Nat.reduceEqDiff, reduceCtorEq, reduceIte, PRN, MRN, MS, exVs_append, List.map_append, List.map_cons, List.map_nil, List.length_append, List.length_cons, List.length_nil], by simp only [EV, EB, EL, ER, ET, and_self, true_and, and_true, Nat.reduceEqDiff, reduceCtorEq, reduceIte, PRN, MRN, MS, exVs_append, List.map_append, List.map_cons, List.map_nil, List.length_append, List.length_cons, List.length_nil, pick], rfl⟩
theorem mAll (ts : List Tok) : ∀ n, MAll ts n := fun n => by
 induction n using Nat.strongRecOn with
 | _ n ih =>
   cases n with
   | zero => exact ⟨fun s _ h => by omega, fun s i h => by have := i.lt; unfold rem at h; omega⟩
   | succ n => exact ⟨fun s i h => stmt_step ts n (ih n (by omega)) s i h, fun s i h => body_step ts n (fun m hm => ih m (by omega)) s i h⟩
def sfuel (ts : List Tok) (s : PS) : Nat := 3 * rem ts s + 2
def stmtG (ts : List Tok) (s : PS) : PR Sm := stmtF ts (sfuel ts s) s
theorem stmt_sem (ts : List Tok) (s : PS) (i : PInv ts s) (m : Nat) (hm : 3 * rem ts s + 1 ≤ m) : PSem 36 [] ts s (stmtF ts m s) smV := (mAll ts m).stmt s i hm
end Go.LexSem
-- CLOSERS: PCL, TCL, DCL, FCL, RCL, MCL, BCL
set_option maxHeartbeats 32000000
set_option maxRecDepth 8000
namespace Go.LexSem
open Go Go.V Go.Proofs Go.Num

/-! ### Blocks -/
def desV (l : List De) : PVal := if l = [] then .nils else .slc (l.map deV)
theorem desV_nil : desV [] = .nils := rfl
theorem desV_ne {l : List De} (h : l ≠ []) : desV l = .slc (l.map deV) := if_neg h
theorem desV_closed (l : List De) : Closed (desV l) := by
 unfold desV
 split
 ·exact fun _ => rfl
 ·exact .slc (ClosedL.map (fun d => deV_closed d) l)
theorem des_ren (f : Ref → Ref) (l : List De) : ren f (desV l) = desV l := desV_closed l f
structure Bl where
 vars : List De
 body : List Sm
 result : List UInt8
def blV (b : Bl) : PVal := .tuple [desV b.vars, smsV b.body, .str b.result]
theorem BCL : (∀ l, Closed (desV l) = True) ∧ (∀ b, Closed (blV b) = True) :=
 ⟨fun l => eq_true (desV_closed l), fun b => by simp only [blV, CL, eq_true (desV_closed _), MCL, and_self]⟩
def varsF (ts : List Tok) : Nat → List De → PS → PR (List De)
 | 0, _, _ => .error noEr
 | n + 1, acc, s => bnd (acceptF ts [118, 97, 114] s) fun b s => match b with
   | false => .ok (acc, s)
   | true => bnd (argF ts s) fun d s => bnd (expectF ts [[59]] s) fun _ s => varsF ts n (acc ++ [d]) s
def blockK2 (ts : List Tok) (vs : List De) (l : List Sm) (s : PS) : PR Bl := bnd (expectF ts [[114, 101, 116, 117, 114, 110]] s) fun _ s => bnd (nameF ts s) fun w s => bnd (expectF ts [[59]] s) fun _ s => .ok (⟨vs, l, w⟩, s)
def blockK1 (ts : List Tok) (vs : List De) (s : PS) : PR Bl := bnd (stmtsF ts [114, 101, 116, 117, 114, 110] (sfuel ts s) [] s) (blockK2 ts vs)
def blockF (ts : List Tok) (s : PS) : PR Bl := bnd (varsF ts (rem ts s + 1) [] s) (blockK1 ts)
theorem varsF_ge {ts : List Tok} : ∀ {n : Nat} {a l : List De} {s s' : PS}, PInv ts s → varsF ts n a s = .ok (l, s') → Ge ts s s'
 | 0, _, _, _, _, _, h => by simp only [varsF] at h; cases h
 | n + 1, a, l, s, s', i, h => by
   rw [varsF] at h
   obtain ⟨b, s1, h1, h⟩ := bnd_inv h
   have g1 := acc_ge i h1
   cases b
   ·cases h; exact g1
   ·obtain ⟨_, s2, h2, h⟩ := bnd_inv h
    obtain ⟨_, s3, h3, h⟩ := bnd_inv h
    have g2 := arg_up g1.1 h2
    have g3 := exp_up g2.1 h3
    exact g1.trans (g2.ge.trans (g3.ge.trans (varsF_ge g3.1 h)))
theorem block_up {ts : List Tok} {s s' : PS} {b : Bl} (i : PInv ts s) (h : blockF ts s = .ok (b, s')) : Up ts s s' := by
 unfold blockF at h
 obtain ⟨_, s1, h1, h⟩ := bnd_inv h
 unfold blockK1 at h
 obtain ⟨_, s2, h2, h⟩ := bnd_inv h
 unfold blockK2 at h
 obtain ⟨_, s3, h3, h⟩ := bnd_inv h
 obtain ⟨_, s4, h4, h⟩ := bnd_inv h
 obtain ⟨_, s5, h5, h⟩ := bnd_inv h
 cases h
 have g1 := varsF_ge i h1
 have g2 := (sInv ts _).stmts g1.1 h2
 have g3 := exp_up g2.1 h3
 have g4 := name_up g3.1 h4
 exact g1.up (g2.up (g3.trans (g4.ge.trans (exp_up g4.1 h5).ge)))
theorem block_sem (ts : List Tok) (s0 : PS) (i0 : PInv ts s0) : PSem 23 [] ts s0 (blockF ts s0) blV := by
 obtain ⟨x, hx⟩ : ∃ x, x = blockF ts s0 := ⟨_, rfl⟩
 rw [← hx]
 unfold blockF at hx
 unfold PSem
 refine FSem.enter' (C := C) (n := 34) Tryd.func23 rfl rfl ok_23 (by simp) ?_
 simp only [argEnv]
 refine WC.rs fun K hK => ?_
 simp only [↓EJ, EX, FA, simprocAttr]
 refine hK _ ?_; try clear hK K
 refine WC.trim [0, 2, 3, 4, 6, 17] ?_
 simp only [ET, simprocAttr]
 refine WC.sx (X := List De × PS) (fun y => PInv ts y.2 ∧ x = blockK1 ts y.1 y.2) (fun y => ⟨[(2, desV y.1), (3, .nils), (4, .str []), (0, .ptr (.o 0) 0 0)], [pblk ts y.2], [], []⟩) ?_ ?_
 ·refine WC.b1 ?_
  refine WC.loop (X := Nat × List De × PS) (fun y => if y.2.1 = [] then ⟨[(2, .nils), (3, .nils), (4, .str []), (0, .ptr (.o 0) 0 0)], [pblk ts y.2.2], [], []⟩ else ⟨[(2, .ref (.l 0) 0 y.2.1.length), (3, .nils), (4, .str []), (0, .ptr (.o 0) 0 0)], [pblk ts y.2.2], [.row (y.2.1.map deV) 6 76], []⟩)
   (fun y => PInv ts y.2.2 ∧ rem ts y.2.2 + 1 ≤ y.1 ∧ y.2.1.length ≤ y.2.2.at_ ∧ x = bnd (varsF ts y.1 y.2.1 y.2.2) (blockK1 ts)) (fun y => y.1) (rem ts s0 + 1, [], s0) [] ⟨i0, Nat.le_refl _, Nat.zero_le _, hx⟩ ?_ ?_
  ·dsimp only
   rw [if_pos rfl]
   refine ⟨by simp, by simp only [EV, EB, EL, ER, ET, and_self, true_and, and_true, Nat.reduceEqDiff, reduceCtorEq, reduceIte, PRN], by simp only [EV, EB, EL, ER, ET, and_self, true_and, and_true, Nat.reduceEqDiff, reduceCtorEq, reduceIte, PRN], by simp only [EV, EB, EL, ER, ET, and_self, true_and, and_true, Nat.reduceEqDiff, reduceCtorEq, reduceIte, PRN, pick], rfl⟩
  clear hx
  rintro ⟨m, acc, s1⟩ ⟨i1, hr, hlen, hx⟩
  dsimp only at i1 hr hlen hx ⊢
  have hle := i1.le
  have hlt := i1.lt
  obtain ⟨m, rfl⟩ : ∃ k, m = k + 1 := ⟨m - 1, by omega⟩
  rw [varsF] at hx
  by_cases hne : acc = []
  ·skip
   subst hne
   rw [if_pos rfl]
   refine WC.sK fun K3 hK3 => ?_
   refine WC.rs fun K hK => ?_
   simp only [↓EJ, EX, FA, simprocAttr]
   refine CallX.mk (CallW.par (enc := .bool) (accept_sem ts s1 i1 [118, 97, 114]) rfl rfl (by simp only [CL, and_self]) (fun v => by simp only [CL]) (fun b2 s2 h2 => ?_) (fun e s' he => by intros; exact PSem.fails (fn := Tryd.f23) (s := s') (hx.trans (by simp only [he, bnd_error])) rfl rfl))
   simp only [h2, bnd_ok] at hx
   have g2 := acc_ge i1 h2
   have i2 := g2.1
   have r2 := g2.rem
   have a2 := g2.2
   simp only [↓EJ, EX, FA, simprocAttr]
   refine hK _ ?_; try clear hK K
   refine WC.trim [0, 2, 3, 4, 6, 17] ?_
   simp only [ET, simprocAttr]
   refine WC.cond (c := .tmp 6) rfl (fun h => ?_) (fun h => ?_)
   ·obtain rfl : b2 = true := by simpa using h
    dsimp only at hx
    have q2 := (acc_up i1 h2).rem
    refine WC.skip ?_
    try simp only [EQ, reduceIte, Nat.reduceEqDiff]
    refine hK3 _ ?_; try clear hK3 K3
    refine WC.b1 ?_
    refine WC.zs [3] (by simp only [cutZ, List.drop_zero, List.drop_succ_cons, List.take_zero, List.take_succ_cons, Option.map_some]; rfl) fun K hK => ?_
    simp only [↓EJ, EX, FA, simprocAttr, EZ]
    refine CallX.mk (CallW.par (enc := deV) (arg_sem ts s2 i2) rfl rfl (by simp only [CL, PCL, TCL, DCL, FCL, RCL, MCL, BCL, and_self]) (fun v => by simp only [CL, PCL, TCL, DCL, FCL, RCL, MCL, BCL, and_self]) (fun t s3 h3 => ?_) (fun e s' he => by intros; exact PSem.fails (fn := Tryd.f23) (s := s') (hx.trans (by simp only [he, bnd_error])) rfl rfl))
    simp only [h3, bnd_ok] at hx
    have g3 := arg_up i2 h3
    have i3 := g3.1
    have r3 := g3.rem
    have a3 := g3.2
    simp only [↓EJ, EX, FA, simprocAttr, EZ, DS, MS]
    refine hK _ ?_; try clear hK K
    refine WC.trim [0, 2, 3, 4, 6, 17] ?_
    simp only [ET, simprocAttr]
    refine WC.z1 [1] (by simp only [cutZ, List.drop_zero, List.drop_succ_cons, List.take_zero, List.take_succ_cons, Option.map_some]; rfl) ?_
    simp only [↓EJ, EX, FA, simprocAttr, EZ]
    refine CallX.mk (CallW.par (enc := fun _ => .tuple []) (expect_sem ts [[59]] s3 i3 (by decide)) rfl rfl (by simp only [CL, List.map_cons, List.map_nil, and_self]) (fun v => by simp only [CL]) (fun u4 s4 h4 => ?_) (fun e s' he => by intros; exact PSem.fails (fn := Tryd.f23) (s := s') (hx.trans (by simp only [he, bnd_error])) rfl rfl))
    simp only [h4, bnd_ok] at hx
    have g4 := exp_up i3 h4
    have i4 := g4.1
    have r4 := g4.rem
    have a4 := g4.2
    simp only [↓EJ, EX, FA, simprocAttr, EZ]
    try simp only [EQ, reduceIte, Nat.reduceEqDiff]
    refine ⟨(m, [t], s4), [0], ⟨i4, by dsimp only; omega, by simp only [List.length_append, List.length_cons, List.length_nil]; omega, hx⟩, by dsimp only; omega, ?_⟩
    dsimp only
    rw [if_neg (by simp)]
    refine ⟨by simp, by simp only [EV, EB, EL, ER, ET, and_self, true_and, and_true, Nat.reduceEqDiff, reduceCtorEq, reduceIte, PRN, MRN, DRN, DS, exVs_append, List.map_append, List.map_cons, List.map_nil, List.length_append, List.length_cons, List.length_nil], by simp only [EV, EB, EL, ER, ET, and_self, true_and, and_true, Nat.reduceEqDiff, reduceCtorEq, reduceIte, PRN, MRN, DRN, DS, exVs_append, List.map_append, List.map_cons, List.map_nil, List.length_append, List.length_cons, List.length_nil], by simp only [EV, EB, EL, ER, ET, and_self, true_and, and_true, Nat.reduceEqDiff, reduceCtorEq, reduceIte, PRN, MRN, DRN, DS, exVs_append, List.map_append, List.map_cons, List.map_nil, List.length_append, List.length_cons, List.length_nil, pick], rfl⟩
   ·obtain rfl : b2 = false := by simpa using h
    dsimp only at hx
    simp only [bnd_ok] at hx
    refine WC.exit ?_
    simp only [EQ, reduceIte, Nat.reduceEqDiff]
    try simp only [EQ, reduceIte, Nat.reduceEqDiff]
    refine ⟨([], s2), [], ⟨i2, hx⟩, ?_⟩
    dsimp only
    rw [desV_nil]
    refine ⟨by simp, by simp only [EV, EB, EL, ER, ET, and_self, true_and, and_true, Nat.reduceEqDiff, reduceCtorEq, reduceIte, PRN], by simp only [EV, EB, EL, ER, ET, and_self, true_and, and_true, Nat.reduceEqDiff, reduceCtorEq, reduceIte, PRN], by simp only [EV, EB, EL, ER, ET, and_self, true_and, and_true, Nat.reduceEqDiff, reduceCtorEq, reduceIte, PRN, pick], rfl⟩
  ·skip
   rw [if_neg hne]
   refine WC.sK fun K3 hK3 => ?_
   refine WC.rs fun K hK => ?_
   simp only [↓EJ, EX, FA, simprocAttr]
   refine CallX.mk (CallW.par (enc := .bool) (accept_sem ts s1 i1 [118, 97, 114]) rfl rfl (by simp only [CL, and_self]) (fun v => by simp only [CL]) (fun b2 s2 h2 => ?_) (fun e s' he => by intros; exact PSem.fails (fn := Tryd.f23) (s := s') (hx.trans (by simp only [he, bnd_error])) rfl rfl))
   simp only [h2, bnd_ok] at hx
   have g2 := acc_ge i1 h2
   have i2 := g2.1
   have r2 := g2.rem
   have a2 := g2.2
   simp only [↓EJ, EX, FA, simprocAttr]
   refine hK _ ?_; try clear hK K
   refine WC.trim [0, 2, 3, 4, 6, 17] ?_
   simp only [ET, simprocAttr]
   refine WC.cond (c := .tmp 6) rfl (fun h => ?_) (fun h => ?_)
   ·obtain rfl : b2 = true := by simpa using h
    dsimp only at hx
    have q2 := (acc_up i1 h2).rem
    refine WC.skip ?_
    try simp only [EQ, reduceIte, Nat.reduceEqDiff]
    refine hK3 _ ?_; try clear hK3 K3
    refine WC.b1 ?_
    refine WC.zs [3] (by simp only [cutZ, List.drop_zero, List.drop_succ_cons, List.take_zero, List.take_succ_cons, Option.map_some]; rfl) fun K hK => ?_
    simp only [↓EJ, EX, FA, simprocAttr, EZ]
    refine CallX.mk (CallW.par (enc := deV) (arg_sem ts s2 i2) rfl rfl (by simp only [CL, PCL, TCL, DCL, FCL, RCL, MCL, BCL, and_self]) (fun v => by simp only [CL, PCL, TCL, DCL, FCL, RCL, MCL, BCL, and_self]) (fun t s3 h3 => ?_) (fun e s' he => by intros; exact PSem.fails (fn := Tryd.f23) (s := s') (hx.trans (by simp only [he, bnd_error])) rfl rfl))
    simp only [h3, bnd_ok] at hx
    have g3 := arg_up i2 h3
    have i3 := g3.1
    have r3 := g3.rem
    have a3 := g3.2
    simp only [↓EJ, EX, FA, simprocAttr, EZ, DS, MS]
    refine ⟨by rw [List.length_map], by omega, by omega, ?_⟩
    refine hK _ ?_; try clear hK K
    refine WC.trim [0, 2, 3, 4, 6, 17] ?_
    simp only [ET, simprocAttr]
    refine WC.z1 [1] (by simp only [cutZ, List.drop_zero, List.drop_succ_cons, List.take_zero, List.take_succ_cons, Option.map_some]; rfl) ?_
    simp only [↓EJ, EX, FA, simprocAttr, EZ]
    refine CallX.mk (CallW.par (enc := fun _ => .tuple []) (expect_sem ts [[59]] s3 i3 (by decide)) rfl rfl (by simp only [CL, List.map_cons, List.map_nil, and_self]) (fun v => by simp only [CL]) (fun u4 s4 h4 => ?_) (fun e s' he => by intros; exact PSem.fails (fn := Tryd.f23) (s := s') (hx.trans (by simp only [he, bnd_error])) rfl rfl))
    simp only [h4, bnd_ok] at hx
    have g4 := exp_up i3 h4
    have i4 := g4.1
    have r4 := g4.rem
    have a4 := g4.2
    simp only [↓EJ, EX, FA, simprocAttr, EZ]
    try simp only [EQ, reduceIte, Nat.reduceEqDiff]
    refine ⟨(m, acc ++ [t], s4), [1], ⟨i4, by dsimp only; omega, by simp only [List.length_append, List.length_cons, List.length_nil]; omega, hx⟩, by dsimp only; omega, ?_⟩
    dsimp only
    rw [if_neg (by simp)]
    refine ⟨by simp, by simp only [EV, EB, EL, ER, ET, and_self, true_and, and_true, Nat.reduceEqDiff, reduceCtorEq, reduceIte, PRN, MRN, DRN, DS, exVs_append, List.map_append, List.map_cons, List.map_nil, List.length_append, List.length_cons, List.length_nil], by simp only [EV, EB, EL, ER, ET, and_self, true_and, and_true, Nat.reduceEqDiff, reduceCtorEq, reduceIte, PRN, MRN, DRN, DS, exVs_append, List.map_append, List.map_cons, List.map_nil, List.length_append, List.length_cons, List.length_nil], by simp only [EV, EB, EL, ER, ET, and_self, true_and, and_true, Nat.reduceEqDiff, reduceCtorEq, reduceIte, PRN, MRN, DRN, DS, exVs_append, List.map_append, List.map_cons, List.map_nil, List.length_append, List.length_cons, List.length_nil, pick], rfl⟩
   ·obtain rfl : b2 = false := by simpa using h
    dsimp only at hx
    simp only [bnd_ok] at hx
    refine WC.frz 2 0 rfl rfl (by simp) ?_
    refine WC.exit ?_
    simp only [EQ, reduceIte, Nat.reduceEqDiff]
    try simp only [EQ, reduceIte, Nat.reduceEqDiff]
    refine ⟨(acc, s2), [], ⟨i2, hx⟩, ?_⟩
    dsimp only
    rw [desV_ne hne]
    have ht : List.take acc.length (List.drop 0 (List.map deV acc)) = List.map deV acc := by rw [List.drop_zero, List.take_of_length_le (by simp)]
    rw [ht]
    refine ⟨by simp, by simp only [EV, EB, EL, ER, ET, and_self, true_and, and_true, Nat.reduceEqDiff, reduceCtorEq, reduceIte, PRN, DRN], by simp only [EV, EB, EL, ER, ET, and_self, true_and, and_true, Nat.reduceEqDiff, reduceCtorEq, reduceIte, PRN, DRN], by simp only [EV, EB, EL, ER, ET, and_self, true_and, and_true, Nat.reduceEqDiff, reduceCtorEq, reduceIte, PRN, DRN, pick], rfl⟩
 ·rintro ⟨vs, s1⟩ ⟨i1, hx1⟩
  dsimp only at i1 hx1 ⊢
  clear hx
  rename x = _ => hx
  unfold blockK1 at hx
  refine WC.sx (X := List Sm × PS) (fun y => PInv ts y.2 ∧ x = blockK2 ts vs y.1 y.2) (fun y => ⟨[(3, smsV y.1), (2, desV vs), (4, .str []), (0, .ptr (.o 0) 0 0)], [pblk ts y.2], [], []⟩) ?_ ?_
  ·refine WC.b1 ?_
   refine WC.loop (X := Nat × List Sm × PS) (fun y => if y.2.1 = [] then ⟨[(3, .nils), (2, desV vs), (4, .str []), (0, .ptr (.o 0) 0 0)], [pblk ts y.2.2], [], []⟩ else ⟨[(3, .ref (.l 0) 0 y.2.1.length), (2, desV vs), (4, .str []), (0, .ptr (.o 0) 0 0)], [pblk ts y.2.2], [.row (y.2.1.map smV) 25 55], []⟩)
    (fun y => PInv ts y.2.2 ∧ 3 * rem ts y.2.2 + 2 ≤ y.1 ∧ y.2.1.length ≤ y.2.2.at_ ∧ x = bnd (stmtsF ts [114, 101, 116, 117, 114, 110] y.1 y.2.1 y.2.2) (blockK2 ts vs)) (fun y => y.1) (sfuel ts s1, [], s1) [] ⟨i1, Nat.le_refl _, Nat.zero_le _, hx⟩ ?_ ?_
   ·dsimp only
    rw [if_pos rfl]
    refine ⟨by simp, by simp only [EV, EB, EL, ER, ET, and_self, true_and, and_true, Nat.reduceEqDiff, reduceCtorEq, reduceIte, PRN, des_ren], by simp only [EV, EB, EL, ER, ET, and_self, true_and, and_true, Nat.reduceEqDiff, reduceCtorEq, reduceIte, PRN, des_ren], by simp only [EV, EB, EL, ER, ET, and_self, true_and, and_true, Nat.reduceEqDiff, reduceCtorEq, reduceIte, PRN, des_ren, pick], rfl⟩
   clear hx i1
   rintro ⟨m, acc, s1⟩ ⟨i1, hr, hlen, hx⟩
   dsimp only at i1 hr hlen hx ⊢
   have hle := i1.le
   have hlt := i1.lt
   obtain ⟨m, rfl⟩ : ∃ k, m = k + 1 := ⟨m - 1, by omega⟩
   have Xm := sInv ts m
   rw [stmtsF] at hx
   by_cases hne : acc = []
   ·skip
    subst hne
    rw [if_pos rfl]
    refine WC.sK fun K3 hK3 => ?_
    cases hp : isP ts s1 [114, 101, 116, 117, 114, 110] with
    | true =>
      simp only [hp, bnd_ok] at hx
      refine WC.rs fun K hK => ?_
      simp only [↓EJ, EX, FA, simprocAttr]
      refine CallX.mk (CallW.one (r := .o 0) (is_sem ts s1 i1 [114, 101, 116, 117, 114, 110]) rfl (pblk_closed ts s1) (pblk_closed ts s1) (by simp only [CL]) (by simp [renL, ren, fCall]) ?_)
      rw [hp]
      simp only [↓EJ, EX, FA, simprocAttr]
      refine hK _ ?_; try clear hK K
      refine WC.trim [0, 2, 3, 4, 6, 17] ?_
      simp only [ET, simprocAttr]
      refine WC.cond (c := .tmp 17) rfl (fun h => ?_) (fun h => ?_)
      ·simp at h
      refine WC.exit ?_
      simp only [EQ, reduceIte, Nat.reduceEqDiff]
      try simp only [EQ, reduceIte, Nat.reduceEqDiff]
      refine ⟨([], s1), [], ⟨i1, hx⟩, ?_⟩
      dsimp only
      rw [smsV_nil]
      refine ⟨by simp, by simp only [EV, EB, EL, ER, ET, and_self, true_and, and_true, Nat.reduceEqDiff, reduceCtorEq, reduceIte, PRN, des_ren], by simp only [EV, EB, EL, ER, ET, and_self, true_and, and_true, Nat.reduceEqDiff, reduceCtorEq, reduceIte, PRN, des_ren], by simp only [EV, EB, EL, ER, ET, and_self, true_and, and_true, Nat.reduceEqDiff, reduceCtorEq, reduceIte, PRN, des_ren, pick], rfl⟩
    | false =>
      simp only [hp] at hx
      refine WC.rs fun K hK => ?_
      simp only [↓EJ, EX, FA, simprocAttr]
      refine CallX.mk (CallW.one (r := .o 0) (is_sem ts s1 i1 [114, 101, 116, 117, 114, 110]) rfl (pblk_closed ts s1) (pblk_closed ts s1) (by simp only [CL]) (by simp [renL, ren, fCall]) ?_)
      rw [hp]
      simp only [↓EJ, EX, FA, simprocAttr]
      refine hK _ ?_; try clear hK K
      refine WC.trim [0, 2, 3, 4, 6, 17] ?_
      simp only [ET, simprocAttr]
      refine WC.cond (c := .tmp 17) rfl (fun h => ?_) (fun h => ?_)
      rotate_left
      ·simp at h
      refine WC.skip ?_
      try simp only [EQ, reduceIte, Nat.reduceEqDiff]
      refine hK3 _ ?_; try clear hK3 K3
      refine WC.b1 ?_
      refine WC.z1 [3] (by simp only [cutZ, List.drop_zero, List.drop_succ_cons, List.take_zero, List.take_succ_cons, Option.map_some]; rfl) ?_
      simp only [↓EJ, EX, FA, simprocAttr, EZ]
      refine CallX.mk (CallW.par (enc := smV) (stmt_sem ts s1 i1 m (by omega)) rfl rfl (by simp only [CL, PCL, TCL, DCL, FCL, RCL, MCL, BCL, and_self]) (fun v => by simp only [CL, PCL, TCL, DCL, FCL, RCL, MCL, BCL, and_self]) (fun t s3 h3 => ?_) (fun e s' he => by intros; exact PSem.fails (fn := Tryd.f23) (s := s') (hx.trans (by simp only [he, bnd_error])) rfl rfl))
      simp only [h3, bnd_ok] at hx
      have g3 := Xm.stmt i1 h3
      have i3 := g3.1
      have r3 := g3.rem
      have a3 := g3.2
      simp only [↓EJ, EX, FA, simprocAttr, EZ, MS]
      try simp only [EQ, reduceIte, Nat.reduceEqDiff]
      refine ⟨(m, [t], s3), [0], ⟨i3, by dsimp only; omega, by simp only [List.length_append, List.length_cons, List.length_nil]; omega, hx⟩, by dsimp only; omega, ?_⟩
      dsimp only
      rw [if_neg (by simp)]
      refine ⟨by simp, by simp only [EV, EB, EL, ER, ET, and_self, true_and, and_true, Nat.reduceEqDiff, reduceCtorEq, reduceIte, PRN, MRN, MS, des_ren, exVs_append, List.map_append, List.map_cons, List.map_nil, List.length_append, List.length_cons, List.length_nil], by simp only [EV, EB, EL, ER, ET, and_self, true_and, and_true, Nat.reduceEqDiff, reduceCtorEq, reduceIte, PRN, MRN, MS, des_ren, exVs_append, List.map_append, List.map_cons, List.map_nil, List.length_append, List.length_cons, List.length_nil], by simp only [EV, EB, EL, ER, ET, and_self, true_and, and_true, Nat.reduceEqDiff, reduceCtorEq, reduceIte, PRN, MRN, MS, des_ren, exVs_append, List.map_append, List.map_cons, List.map_nil, List.length_append, List.length_cons, List.length_nil, pick], rfl⟩
   ·skip
    rw [if_neg hne]
    refine WC.sK fun K3 hK3 => ?_
    cases hp : isP ts s1 [114, 101, 116, 117, 114, 110] with
    | true =>
      simp only [hp, bnd_ok] at hx
      refine WC.rs fun K hK => ?_
      simp only [↓EJ, EX, FA, simprocAttr]
      refine CallX.mk (CallW.one (r := .o 0) (is_sem ts s1 i1 [114, 101, 116, 117, 114, 110]) rfl (pblk_closed ts s1) (pblk_closed ts s1) (by simp only [CL]) (by simp [renL, ren, fCall]) ?_)
      rw [hp]
      simp only [↓EJ, EX, FA, simprocAttr]
      refine hK _ ?_; try clear hK K
      refine WC.trim [0, 2, 3, 4, 6, 17] ?_
      simp only [ET, simprocAttr]
      refine WC.cond (c := .tmp 17) rfl (fun h => ?_) (fun h => ?_)
      ·simp at h
      refine WC.frz 3 0 rfl rfl (by simp) ?_
      refine WC.exit ?_
      simp only [EQ, reduceIte, Nat.reduceEqDiff]
      try simp only [EQ, reduceIte, Nat.reduceEqDiff]
      refine ⟨(acc, s1), [], ⟨i1, hx⟩, ?_⟩
      dsimp only
      rw [smsV_ne hne]
      have ht : List.take acc.length (List.drop 0 (List.map smV acc)) = List.map smV acc := by rw [List.drop_zero, List.take_of_length_le (by simp)]
      rw [ht]
      refine ⟨by simp, by simp only [EV, EB, EL, ER, ET, and_self, true_and, and_true, Nat.reduceEqDiff, reduceCtorEq, reduceIte, PRN, MRN, des_ren], by simp only [EV, EB, EL, ER, ET, and_self, true_and, and_true, Nat.reduceEqDiff, reduceCtorEq, reduceIte, PRN, MRN, des_ren], by simp only [EV, EB, EL, ER, ET, and_self, true_and, and_true, Nat.reduceEqDiff, reduceCtorEq, reduceIte, PRN, MRN, des_ren, pick], rfl⟩
    | false =>
      simp only [hp] at hx
      refine WC.rs fun K hK => ?_
      simp only [↓EJ, EX, FA, simprocAttr]
      refine CallX.mk (CallW.one (r := .o 0) (is_sem ts s1 i1 [114, 101, 116, 117, 114, 110]) rfl (pblk_closed ts s1) (pblk_closed ts s1) (by simp only [CL]) (by simp [renL, ren, fCall]) ?_)
      rw [hp]
      simp only [↓EJ, EX, FA, simprocAttr]
      refine hK _ ?_; try clear hK K
      refine WC.trim [0, 2, 3, 4, 6, 17] ?_
      simp only [ET, simprocAttr]
      refine WC.cond (c := .tmp 17) rfl (fun h => ?_) (fun h => ?_)
      rotate_left
      ·simp at h
      refine WC.skip ?_
      try simp only [EQ, reduceIte, Nat.reduceEqDiff]
      refine hK3 _ ?_; try clear hK3 K3
      refine WC.b1 ?_
      refine WC.z1 [3] (by simp only [cutZ, List.drop_zero, List.drop_succ_cons, List.take_zero, List.take_succ_cons, Option.map_some]; rfl) ?_
      simp only [↓EJ, EX, FA, simprocAttr, EZ]
      refine CallX.mk (CallW.par (enc := smV) (stmt_sem ts s1 i1 m (by omega)) rfl rfl (by simp only [CL, PCL, TCL, DCL, FCL, RCL, MCL, BCL, and_self]) (fun v => by simp only [CL, PCL, TCL, DCL, FCL, RCL, MCL, BCL, and_self]) (fun t s3 h3 => ?_) (fun e s' he => by intros; exact PSem.fails (fn := Tryd.f23) (s := s') (hx.trans (by simp only [he, bnd_error])) rfl rfl))
      simp only [h3, bnd_ok] at hx
      have g3 := Xm.stmt i1 h3
      have i3 := g3.1
      have r3 := g3.rem
      have a3 := g3.2
      simp only [↓EJ, EX, FA, simprocAttr, EZ, MS]
      refine ⟨by rw [List.length_map], by omega, by omega, ?_⟩
      try simp only [EQ, reduceIte, Nat.reduceEqDiff]
      refine ⟨(m, acc ++ [t], s3), [1], ⟨i3, by dsimp only; omega, by simp only [List.length_append, List.length_cons, List.length_nil]; omega, hx⟩, by dsimp only; omega, ?_⟩
      dsimp only
      rw [if_neg (by simp)]
      refine ⟨by simp, by simp only [EV, EB, EL, ER, ET, and_self, true_and, and_true, Nat.reduceEqDiff, reduceCtorEq, reduceIte, PRN, MRN, MS, des_ren, exVs_append, List.map_append, List.map_cons, List.map_nil, List.length_append, List.length_cons, List.length_nil], by simp only [EV, EB, EL, ER, ET, and_self, true_and, and_true, Nat.reduceEqDiff, reduceCtorEq, reduceIte, PRN, MRN, MS, des_ren, exVs_append, List.map_append, List.map_cons, List.map_nil, List.length_append, List.length_cons, List.length_nil], by simp only [EV, EB, EL, ER, ET, and_self, true_and, and_true, Nat.reduceEqDiff, reduceCtorEq, reduceIte, PRN, MRN, MS, des_ren, exVs_append, List.map_append, List.map_cons, List.map_nil, List.length_append, List.length_cons, List.length_nil, pick], rfl⟩
  ·rintro ⟨l, s2⟩ ⟨i2, hx2⟩
   dsimp only at i2 hx2 ⊢
   clear hx
   rename x = _ => hx
   unfold blockK2 at hx
   refine WC.zs [1] (by simp only [cutZ, List.drop_zero, List.drop_succ_cons, List.take_zero, List.take_succ_cons, Option.map_some]; rfl) fun K hK => ?_
   simp only [↓EJ, EX, FA, simprocAttr, EZ]
   refine CallX.mk (CallW.par (enc := fun _ => .tuple []) (expect_sem ts [[114, 101, 116, 117, 114, 110]] s2 i2 (by decide)) rfl rfl (by simp only [CL, List.map_cons, List.map_nil, and_self]) (fun v => by simp only [CL]) (fun u3 s3 h3 => ?_) (fun e s' he => by intros; exact PSem.fails (fn := Tryd.f23) (s := s') (hx.trans (by simp only [he, bnd_error])) rfl rfl))
   simp only [h3, bnd_ok] at hx
   have g3 := exp_up i2 h3
   have i3 := g3.1
   simp only [↓EJ, EX, FA, simprocAttr, EZ]
   refine hK _ ?_; try clear hK K
   refine WC.trim [0, 2, 3, 4, 6, 17] ?_
   simp only [ET, simprocAttr]
   refine WC.rs fun K hK => ?_
   simp only [↓EJ, EX, FA, simprocAttr]
   refine CallX.mk (CallW.par (enc := .str) (name_sem ts s3 i3) rfl rfl (by simp only [CL, PCL, TCL, DCL, FCL, RCL, MCL, BCL, and_self]) (fun v => by simp only [CL, PCL, TCL, DCL, FCL, RCL, MCL, BCL, and_self]) (fun w s4 h4 => ?_) (fun e s' he => by intros; exact PSem.fails (fn := Tryd.f23) (s := s') (hx.trans (by simp only [he, bnd_error])) rfl rfl))
   simp only [h4, bnd_ok] at hx
   have g4 := name_up i3 h4
   have i4 := g4.1
   simp only [↓EJ, EX, FA, simprocAttr]
   refine hK _ ?_; try clear hK K
   refine WC.trim [0, 2, 3, 4, 6, 17] ?_
   simp only [ET, simprocAttr]
   refine WC.zs [1] (by simp only [cutZ, List.drop_zero, List.drop_succ_cons, List.take_zero, List.take_succ_cons, Option.map_some]; rfl) fun K hK => ?_
   simp only [↓EJ, EX, FA, simprocAttr, EZ]
   refine CallX.mk (CallW.par (enc := fun _ => .tuple []) (expect_sem ts [[59]] s4 i4 (by decide)) rfl rfl (by simp only [CL, List.map_cons, List.map_nil, and_self]) (fun v => by simp only [CL]) (fun u5 s5 h5 => ?_) (fun e s' he => by intros; exact PSem.fails (fn := Tryd.f23) (s := s') (hx.trans (by simp only [he, bnd_error])) rfl rfl))
   simp only [h5, bnd_ok] at hx
   have g5 := exp_up i4 h5
   have i5 := g5.1
   simp only [↓EJ, EX, FA, simprocAttr, EZ]
   refine hK _ ?_; try clear hK K
   refine WC.trim [0, 2, 3, 4, 6, 17] ?_
   simp only [ET, simprocAttr]
   refine WC.rs fun K hK => ?_
   simp only [↓EJ, EX, FA, simprocAttr]
   refine hK _ ?_; try clear hK K
   refine WC.trim [0, 2, 3, 4, 6, 17] ?_
   simp only [ET, simprocAttr]
   refine WC.ret ?_
   simp only [↓EJ, EX, FA, simprocAttr, EQ, FnQ, Tryd.results23, wResL, tup, List.reverse_cons, List.reverse_nil, true_and]
   exact PSem.done (fn := Tryd.f23) (s := s5) (v := ⟨vs, l, w⟩) hx rfl (of_eq_true (by simp only [CL, PCL, TCL, DCL, FCL, RCL, MCL, BCL, and_self])) rfl
end Go.LexSem
-- CLOSERS: PCL, TCL, DCL, FCL, RCL, MCL, BCL, GCL
set_option maxHeartbeats 64000000
set_option maxRecDepth 8000
namespace Go.LexSem
open Go Go.V Go.Proofs Go.Num

/-! ### Programs -/
structure Fn where
 name : List UInt8
 args : List De
 vars : List De
 body : List Sm
 result : List UInt8
def fnC (f : Fn) : List PVal := [.str f.name, desV f.args, desV f.vars, smsV f.body, .str f.result]
def fnV (f : Fn) : PVal := .agg (fnC f)
def fnsV (l : List Fn) : PVal := if l = [] then .nils else .slc (l.map fnV)
def strsV (l : List (List UInt8)) : PVal := if l = [] then .nils else .slc (l.map .str)
theorem fnsV_nil : fnsV [] = .nils := rfl
theorem fnsV_ne {l : List Fn} (h : l ≠ []) : fnsV l = .slc (l.map fnV) := if_neg h
theorem strsV_nil : strsV [] = .nils := rfl
theorem strsV_ne {l : List (List UInt8)} (h : l ≠ []) : strsV l = .slc (l.map .str) := if_neg h
theorem fnV_closed (f : Fn) : Closed (fnV f) := of_eq_true (by simp only [fnV, fnC, CL, BCL, MCL, and_self])
theorem fnVs_closed (l : List Fn) : ClosedL (l.map fnV) := ClosedL.map (fun d => fnV_closed d) l
theorem fnsV_closed (l : List Fn) : Closed (fnsV l) := by
 unfold fnsV
 split
 ·exact fun _ => rfl
 ·exact .slc (fnVs_closed l)
theorem strsV_closed (l : List (List UInt8)) : Closed (strsV l) := by
 unfold strsV
 split
 ·exact fun _ => rfl
 ·exact .slc (ClosedL.map (fun t => fun _ => rfl) l)
theorem desV_sc : (∀ l, (desV l).solid = true) ∧ (∀ l, (desV l).cells = [desV l]) := by
 constructor <;> intro l <;> unfold desV <;> split <;> rfl
theorem PGR : (∀ f l, ren f (fnsV l) = fnsV l) ∧ (∀ f l, ren f (strsV l) = strsV l) ∧ (∀ f (l : List Fn), renL f (l.map fnV) = l.map fnV) := ⟨fun f l => fnsV_closed l f, fun f l => strsV_closed l f, fun f l => fnVs_closed l f⟩
theorem PGS : (∀ d, fnV d = .agg (fnC d)) ∧ (∀ d, fnC d = [.str d.name, desV d.args, desV d.vars, smsV d.body, .str d.result]) := ⟨fun _ => rfl, fun _ => rfl⟩
structure Pg where
 params : List (List UInt8)
 funcs : List Fn
 queries : List Fn
 vars : List De
 body : List Sm
 result : List UInt8
def pgC (p : Pg) : List PVal := [strsV p.params, fnsV p.funcs, fnsV p.queries, desV p.vars, smsV p.body, .str p.result]
def pgV (p : Pg) : PVal := .agg (pgC p)
theorem GCL : (∀ l, Closed (fnsV l) = True) ∧ (∀ l, Closed (strsV l) = True) ∧ (∀ p, Closed (pgV p) = True) :=
 ⟨fun l => eq_true (fnsV_closed l), fun l => eq_true (strsV_closed l), fun p => by simp only [pgV, pgC, CL, eq_true (fnsV_closed _), eq_true (strsV_closed _), BCL, MCL, and_self]⟩
def argsF (ts : List Tok) : Nat → List De → PS → PR (List De)
 | 0, _, _ => .error noEr
 | n + 1, acc, s => bnd (acceptF ts [44] s) fun b s => match b with
   | false => .ok (acc, s)
   | true => bnd (argF ts s) fun d s => argsF ts n (acc ++ [d]) s
def funcK (ts : List Tok) (w : List UInt8) (al : List De) (s : PS) : PR Fn := bnd (expectF ts [[41], [123]] s) fun _ s => bnd (blockF ts s) fun b s => bnd (expectF ts [[125]] s) fun _ s => .ok (⟨w, al, b.vars, b.body, b.result⟩, s)
def funcF (ts : List Tok) (s : PS) : PR Fn := bnd (nameF ts s) fun w s => bnd (expectF ts [[40]] s) fun _ s => match isP ts s [41] with
 | true => funcK ts w [] s
 | false => bnd (bnd (argF ts s) fun d s => argsF ts (rem ts s + 1) [d] s) (funcK ts w)
def queryF (ts : List Tok) (s : PS) : PR Fn := bnd (nameF ts s) fun w s => bnd (expectF ts [[123]] s) fun _ s => bnd (blockF ts s) fun b s => bnd (expectF ts [[125]] s) fun _ s => .ok (⟨w, [], b.vars, b.body, b.result⟩, s)
def defsF (ts : List Tok) : Nat → List Fn → List Fn → PS → PR (List Fn × List Fn)
 | 0, _, _, _ => .error noEr
 | n + 1, F, Q, s => bnd (acceptF ts [102, 117, 110, 99] s) fun b s => match b with
   | true => bnd (funcF ts s) fun f s => defsF ts n (F ++ [f]) Q s
   | false => bnd (acceptF ts [113, 117, 101, 114, 121] s) fun b s => match b with
     | true => bnd (queryF ts s) fun f s => defsF ts n F (Q ++ [f]) s
     | false => .ok ((F, Q), s)
def paramsF (ts : List Tok) : Nat → List (List UInt8) → PS → PR (List (List UInt8))
 | 0, _, _ => .error noEr
 | n + 1, acc, s => bnd (acceptF ts [112, 97, 114, 97, 109] s) fun b s => match b with
   | false => .ok (acc, s)
   | true => bnd (nameF ts s) fun w s => bnd (expectF ts [[59]] s) fun _ s => paramsF ts n (acc ++ [w]) s
def progK2 (ts : List Tok) (ps : List (List UInt8)) (FQ : List Fn × List Fn) (s : PS) : PR Pg := bnd (blockF ts s) fun b s => if (cur ts s).1 ≠ 5 then .error (erAt (cur ts s) 4) else .ok (⟨ps, FQ.1, FQ.2, b.vars, b.body, b.result⟩, s)
def progK1 (ts : List Tok) (ps : List (List UInt8)) (s : PS) : PR Pg := bnd (defsF ts (rem ts s + 1) [] [] s) (progK2 ts ps)
def progF (ts : List Tok) (s : PS) : PR Pg := bnd (paramsF ts (rem ts s + 1) [] s) (progK1 ts)
end Go.LexSem
