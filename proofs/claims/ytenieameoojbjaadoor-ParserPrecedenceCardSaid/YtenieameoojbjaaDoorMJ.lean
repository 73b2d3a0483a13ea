/-
 Texts joined: ParH ParI ParJ ParK ParL ParM ParN ParO.
-/
import Derived.Test.YtenieameoojbjaaDoorMI
import Derived.Test.YtenieameoojbjaaDoorMD
set_option linter.unusedVariables false
set_option linter.unusedSimpArgs false
set_option linter.loopingSimpArgs false
set_option maxHeartbeats 4000000
set_option maxRecDepth 8000
namespace Go.LexSem
open Go Go.V Go.Proofs Go.Num

/-! ### Expressions al trees -/
abbrev Rt := Bool × Nat × Nat
inductive Ex where
 | mk (op : Nat) (int : Int) (rat : Rt) (name : List UInt8) (args : List Ex)
instance : Inhabited Ex := ⟨.mk 0 0 (false, 0, 0) [] []⟩
mutual
def exC : Ex → List PVal
 | .mk op i r nm al => [.int .i64 op, .int .i64 i, .bool r.1, numV r.2.1, numV r.2.2, .str nm, exsV al]
def exL : List Ex → List PVal
 | [] => []
 | e :: es => .agg (exC e) :: exL es
def exsV : List Ex → PVal
 | [] => .nils
 | e :: es => .slc (.agg (exC e) :: exL es)
end
def exV (e : Ex) : PVal := .agg (exC e)
theorem exV_def (e : Ex) : exV e = .agg (exC e) := rfl
theorem exL_map : ∀ es : List Ex, exL es = es.map exV
 | [] => by simp [exL]
 | e :: es => by simp [exL, exL_map es, exV]
theorem exsV_nil : exsV [] = .nils := by simp [exsV]
theorem exsV_ne {es : List Ex} (h : es ≠ []) : exsV es = .slc (es.map exV) := by
 cases es with
 | nil => exact absurd rfl h
 | cons e es => simp [exsV, exL_map, exV]
theorem exV_mk (op : Nat) (i : Int) (r : Rt) (nm : List UInt8) (al : List Ex) : exV (.mk op i r nm al) = .agg [.int .i64 op, .int .i64 i, .bool r.1, numV r.2.1, numV r.2.2, .str nm, exsV al] := by simp [exV, exC]
theorem exC_len (e : Ex) : (exC e).length = 7 := by cases e; simp [exC]
theorem exV_len (e : Ex) : (exV e).cells.length = 7 := exC_len e
mutual
theorem exC_closed : ∀ e : Ex, ClosedL (exC e)
 | .mk op i r nm al => by
   have h := exsV_closed al
   have : ClosedL (exC (.mk op i r nm al)) = True := by simp only [exC, CL, numV_closed, eq_true h, and_self]
   exact of_eq_true this
theorem exL_closed : ∀ es : List Ex, ClosedL (exL es)
 | [] => by simp only [exL]; exact .nil
 | e :: es => by
   simp only [exL]
   exact .cons (.agg (exC_closed e)) (exL_closed es)
theorem exsV_closed : ∀ es : List Ex, Closed (exsV es)
 | [] => by simp only [exsV]; exact fun _ => rfl
 | e :: es => by
   simp only [exsV]
   exact .slc (.cons (.agg (exC_closed e)) (exL_closed es))
end
theorem exV_closed (e : Ex) : Closed (exV e) := .agg (exC_closed e)
theorem exV_cl (e : Ex) : Closed (exV e) = True := eq_true (exV_closed e)
theorem exV_ren (f : Ref → Ref) (e : Ex) : ren f (exV e) = exV e := exV_closed e f
theorem exsV_cl (es : List Ex) : Closed (exsV es) = True := eq_true (exsV_closed es)
theorem exsV_ren (f : Ref → Ref) (es : List Ex) : ren f (exsV es) = exsV es := exsV_closed es f
theorem exVs_closedL (es : List Ex) : ClosedL (es.map exV) := ClosedL.map (fun e => exV_closed e) es
theorem exVs_ren (f : Ref → Ref) (es : List Ex) : renL f (es.map exV) = es.map exV := exVs_closedL es f

/-! ### What the parser computes of expressions -/
abbrev PR (α : Type) := Except Er (α × PS)
/-- One step behind the other. -/
def bnd {α β : Type} (x : PR α) (f : α → PS → PR β) : PR β :=
 match x with
 | .error e => .error e
 | .ok (v, s) => f v s
theorem bnd_ok {α β : Type} (v : α) (s : PS) (f : α → PS → PR β) : bnd (.ok (v, s)) f = f v s := rfl
theorem bnd_error {α β : Type} (e : Er) (f : α → PS → PR β) : bnd (.error e) f = .error e := rfl
theorem bnd_inv {α β : Type} {x : PR α} {f : α → PS → PR β} {v : β} {s' : PS} (h : bnd x f = .ok (v, s')) : ∃ a s1, x = .ok (a, s1) ∧ f a s1 = .ok (v, s') := by
 unfold bnd at h
 split at h
 ·cases h
 ·exact ⟨_, _, rfl, h⟩
def zr : Rt := (false, 0, 0)
def exN (op : Nat) (al : List Ex) : Ex := .mk op 0 zr [] al
/-- The operators of a level. -/
def lvs (l : Nat) : List (List UInt8 × Nat) :=
 match l with
 | 0 => [([124, 124], 7)]
 | 1 => [([38, 38], 6)]
 | 2 => [([43], 12), ([45], 13)]
 | _ => [([42], 14)]
def opAt (l : Nat) (t : Tok) : Option Nat := if t.1 = 4 then (lvs l).lookup t.2.1 else none
def isDiv (t : Tok) : Bool := decide (t.1 = 4) && decide (t.2.1 = [47])
def noEr : Er := ((0, 0), 0)
def goS (s : PS) : PS := ⟨s.at_ + 1, s.opn⟩
mutual
def exprF (ts : List Tok) : Nat → PS → PR Ex
 | 0, _ => .error noEr
 | n + 1, s => bnd (leftF ts n 0 s) fun e s1 => bnd (acceptF ts [63] s1) fun b s2 => match b with
   | false => .ok (e, s2)
   | true => bnd (exprF ts n s2) fun y s3 => bnd (expectF ts [[58]] s3) fun _ s4 => bnd (exprF ts n s4) fun z s5 => .ok (exN 15 [e, y, z], s5)
def leftF (ts : List Tok) : Nat → Nat → PS → PR Ex
 | 0, _, _ => .error noEr
 | n + 1, l, s => bnd (operandF ts n l s) fun e s1 => loopF ts n l e s1
def loopF (ts : List Tok) : Nat → Nat → Ex → PS → PR Ex
 | 0, _, _, _ => .error noEr
 | n + 1, l, e, s => match opAt l (cur ts s) with
   | none => .ok (e, s)
   | some op => bnd (operandF ts n l (goS s)) fun a s2 => loopF ts n l (exN op [e, a]) s2
def operandF (ts : List Tok) : Nat → Nat → PS → PR Ex
 | 0, _, _ => .error noEr
 | n + 1, l, s => if l = 1 then cmpF ts n s else if l = 3 then unaryF ts n s else leftF ts n (l + 1) s
def cmpF (ts : List Tok) : Nat → PS → PR Ex
 | 0, _ => .error noEr
 | n + 1, s => bnd (leftF ts n 2 s) fun a s1 => bnd (acceptF ts [61, 61] s1) fun b s2 => match b with
   | true => bnd (leftF ts n 2 s2) fun c s3 => .ok (exN 8 [a, c], s3)
   | false => bnd (acceptF ts [33, 61] s2) fun b s2 => match b with
     | true => bnd (leftF ts n 2 s2) fun c s3 => .ok (exN 5 [exN 8 [a, c]], s3)
     | false => bnd (acceptF ts [60] s2) fun b s2 => match b with
       | true => bnd (leftF ts n 2 s2) fun c s3 => .ok (exN 9 [a, c], s3)
       | false => bnd (acceptF ts [60, 61] s2) fun b s2 => match b with
         | true => bnd (leftF ts n 2 s2) fun c s3 => .ok (exN 10 [a, c], s3)
         | false => bnd (acceptF ts [62] s2) fun b s2 => match b with
           | true => bnd (leftF ts n 2 s2) fun c s3 => .ok (exN 9 [c, a], s3)
           | false => bnd (acceptF ts [62, 61] s2) fun b s2 => match b with
             | true => bnd (leftF ts n 2 s2) fun c s3 => .ok (exN 10 [c, a], s3)
             | false => .ok (a, s2)
def unaryF (ts : List Tok) : Nat → PS → PR Ex
 | 0, _ => .error noEr
 | n + 1, s => bnd (acceptF ts [33] s) fun b s1 => match b with
   | true => bnd (unaryF ts n s1) fun e s2 => .ok (exN 5 [e], s2)
   | false => bnd (acceptF ts [45] s1) fun b s1 => match b with
     | true => bnd (unaryF ts n s1) fun e s2 => .ok (exN 11 [e], s2)
     | false => bnd (primaryF ts n s1) fun e s2 => postF ts n e s2
def postF (ts : List Tok) : Nat → Ex → PS → PR Ex
 | 0, _, _ => .error noEr
 | n + 1, e, s => bnd (acceptF ts [46] s) fun b s1 => match b with
   | true => bnd (numberF ts s1) fun k s2 => postF ts n (.mk 17 k zr [] [e]) s2
   | false => bnd (acceptF ts [91] s1) fun b s1 => match b with
     | true => bnd (exprF ts n s1) fun i s2 => bnd (expectF ts [[93]] s2) fun _ s3 => postF ts n (exN 21 [e, i]) s3
     | false => .ok (e, s1)
def primaryF (ts : List Tok) : Nat → PS → PR Ex
 | 0, _ => .error noEr
 | n + 1, s => match (cur ts s).1 with
   | 1 => bnd (nameF ts s) fun x s1 => .ok (.mk 4 0 zr x [], s1)
   | 2 => bnd (limbsF ts s) fun x s1 => match isDiv (nxt ts s1) with
     | false => bnd (numberF ts s1) fun k s2 => .ok (.mk 2 k zr [] [], s2)
     | true => bnd (denomF ts (goS (goS s1))) fun d s2 => .ok (.mk 3 0 (fracN false x d) [] [], s2)
   | _ => bnd (acceptF ts [116, 114, 117, 101] s) fun b s1 => match b with
     | true => .ok (.mk 1 1 zr [] [], s1)
     | false => bnd (acceptF ts [102, 97, 108, 115, 101] s1) fun b s1 => match b with
       | true => .ok (.mk 1 0 zr [] [], s1)
       | false => bnd (acceptF ts [108, 101, 110] s1) fun b s1 => match b with
         | true => bnd (expectF ts [[40]] s1) fun _ s2 => bnd (exprF ts n s2) fun e s3 => bnd (expectF ts [[41]] s3) fun _ s4 => .ok (exN 20 [e], s4)
         | false => bnd (acceptF ts [112, 117, 115, 104] s1) fun b s1 => match b with
           | true => bnd (expectF ts [[40]] s1) fun _ s2 => bnd (exprF ts n s2) fun l s3 => bnd (expectF ts [[44]] s3) fun _ s4 => bnd (exprF ts n s4) fun e s5 => bnd (expectF ts [[41]] s5) fun _ s6 => .ok (exN 19 [l, e], s6)
           | false => bnd (acceptF ts [91] s1) fun b s1 => match b with
             | true => match isP ts s1 [93] with
               | true => bnd (expectF ts [[93]] s1) fun _ s2 => .ok (exN 18 [], s2)
               | false => bnd (exprsF ts n s1) fun l s2 => bnd (expectF ts [[93]] s2) fun _ s3 => .ok (exN 18 l, s3)
             | false => bnd (expectF ts [[40]] s1) fun _ s2 => bnd (exprsF ts n s2) fun l s3 => bnd (expectF ts [[41]] s3) fun _ s4 => .ok (match l with
               | [e] => e
               | _ => exN 16 l, s4)
def exprsF (ts : List Tok) : Nat → PS → PR (List Ex)
 | 0, _ => .error noEr
 | n + 1, s => bnd (exprF ts n s) fun e s1 => moreF ts n [e] s1
def moreF (ts : List Tok) : Nat → List Ex → PS → PR (List Ex)
 | 0, _, _ => .error noEr
 | n + 1, acc, s => bnd (acceptF ts [44] s) fun b s1 => match b with
   | false => .ok (acc, s1)
   | true => bnd (exprF ts n s1) fun e s2 => moreF ts n (acc ++ [e]) s2
end
end Go.LexSem
set_option maxHeartbeats 4000000
set_option maxRecDepth 8000
namespace Go.LexSem
open Go Go.V Go.Proofs Go.Num

/-! ### Whatever is read, the parser is further on -/
def Up (ts : List Tok) (s s' : PS) : Prop := PInv ts s' ∧ s.at_ < s'.at_
def Ge (ts : List Tok) (s s' : PS) : Prop := PInv ts s' ∧ s.at_ ≤ s'.at_
theorem Up.ge {ts : List Tok} {s s' : PS} (h : Up ts s s') : Ge ts s s' := ⟨h.1, Nat.le_of_lt h.2⟩
theorem Up.trans {ts : List Tok} {a b c : PS} (h : Up ts a b) (k : Ge ts b c) : Up ts a c := ⟨k.1, Nat.lt_of_lt_of_le h.2 k.2⟩
theorem Ge.trans {ts : List Tok} {a b c : PS} (h : Ge ts a b) (k : Ge ts b c) : Ge ts a c := ⟨k.1, Nat.le_trans h.2 k.2⟩
theorem Ge.up {ts : List Tok} {a b c : PS} (h : Ge ts a b) (k : Up ts b c) : Up ts a c := ⟨k.1, Nat.lt_of_le_of_lt h.2 k.2⟩
theorem Ge.refl {ts : List Tok} {s : PS} (h : PInv ts s) : Ge ts s s := ⟨h, Nat.le_refl _⟩
theorem acc_ge {ts : List Tok} {t : List UInt8} {s s' : PS} {b : Bool} (h : PInv ts s) (hx : acceptF ts t s = .ok (b, s')) : Ge ts s s' := ⟨(acceptF_inv h hx).1, (acceptF_inv h hx).2.1⟩
theorem acc_up {ts : List Tok} {t : List UInt8} {s s' : PS} (h : PInv ts s) (hx : acceptF ts t s = .ok (true, s')) : Up ts s s' := ⟨(acceptF_inv h hx).1, by have := (acceptF_inv h hx).2.2 rfl; omega⟩
theorem exp_up {ts : List Tok} {t : List UInt8} {l : List (List UInt8)} {s s' : PS} {u : Unit} (h : PInv ts s) (hx : expectF ts (t :: l) s = .ok (u, s')) : Up ts s s' := ⟨(expectF_inv h hx).1, by have := (expectF_inv h hx).2; simp at this; omega⟩
theorem num_up {ts : List Tok} {s s' : PS} {v : Nat} (h : PInv ts s) (hx : numberF ts s = .ok (v, s')) : Up ts s s' := ⟨(numberF_inv h hx).1, by have := (numberF_inv h hx).2.1; omega⟩
theorem name_up {ts : List Tok} {s s' : PS} {v : List UInt8} (h : PInv ts s) (hx : nameF ts s = .ok (v, s')) : Up ts s s' := ⟨(nameF_inv h hx).1, by have := (nameF_inv h hx).2; omega⟩
theorem goS_up {ts : List Tok} {s : PS} (h : PInv ts s) (hk : (cur ts s).1 ≠ 5) : Up ts s (goS s) := ⟨h.go hk (by omega) (by omega), by simp [goS]⟩
theorem nxt_cur {ts : List Tok} {s : PS} (h : PInv ts s) (hk : (nxt ts s).1 ≠ 5) : PInv ts (goS s) ∧ cur ts (goS s) = nxt ts s := by
 have hlt := h.lt
 have hc : ¬ ts.length - 1 ≤ s.at_ + 1 ∨ s.at_ + 1 < ts.length := by
  rcases Nat.lt_or_ge (s.at_ + 1) ts.length with h' | h'
  ·exact .inr h'
  ·refine absurd ?_ hk
   unfold nxt
   rw [Nat.min_eq_right (by omega)]
   exact h.fin
 have hlt2 : s.at_ + 1 < ts.length := by omega
 have o1 := h.o1
 have o2 := h.o2
 refine ⟨⟨hlt2, h.le, by simp only [goS]; omega, by simp only [goS]; omega, h.fin, h.num⟩, ?_⟩
 unfold cur nxt goS
 rw [Nat.min_eq_left (by omega)]
theorem isDiv_kind {t : Tok} (h : isDiv t = true) : t.1 = 4 := by
 simp [isDiv] at h; exact h.1
theorem opAt_kind {l : Nat} {t : Tok} {op : Nat} (h : opAt l t = some op) : t.1 = 4 := by
 unfold opAt at h
 split at h
 ·assumption
 ·cases h
structure XInv (ts : List Tok) (n : Nat) : Prop where
 expr : ∀ {s e s'}, PInv ts s → exprF ts n s = .ok (e, s') → Up ts s s'
 left : ∀ {l s e s'}, PInv ts s → leftF ts n l s = .ok (e, s') → Up ts s s'
 loop : ∀ {l a s e s'}, PInv ts s → loopF ts n l a s = .ok (e, s') → Ge ts s s'
 operand : ∀ {l s e s'}, PInv ts s → operandF ts n l s = .ok (e, s') → Up ts s s'
 cmp : ∀ {s e s'}, PInv ts s → cmpF ts n s = .ok (e, s') → Up ts s s'
 unary : ∀ {s e s'}, PInv ts s → unaryF ts n s = .ok (e, s') → Up ts s s'
 post : ∀ {a s e s'}, PInv ts s → postF ts n a s = .ok (e, s') → Ge ts s s'
 primary : ∀ {s e s'}, PInv ts s → primaryF ts n s = .ok (e, s') → Up ts s s'
 exprs : ∀ {s e s'}, PInv ts s → exprsF ts n s = .ok (e, s') → Up ts s s' ∧ e ≠ [] ∧ e.length ≤ s'.at_ - s.at_
 more : ∀ {a s e s'}, PInv ts s → moreF ts n a s = .ok (e, s') → Ge ts s s' ∧ (a ≠ [] → e ≠ []) ∧ e.length ≤ a.length + (s'.at_ - s.at_)
theorem xInv (ts : List Tok) : ∀ n, XInv ts n
 | 0 => by
   constructor <;> intros <;> rename_i h <;> simp only [exprF, leftF, loopF, operandF, cmpF, unaryF, postF, primaryF, exprsF, moreF] at h <;> cases h
 | n + 1 => by
   have H := xInv ts n
   constructor
   ·intro s e s' hI h
    rw [exprF] at h
    obtain ⟨a, s1, h1, h⟩ := bnd_inv h
    obtain ⟨b, s2, h2, h⟩ := bnd_inv h
    have u1 := H.left hI h1
    have u2 := acc_ge u1.1 h2
    cases b
    ·cases h; exact u1.trans u2
    ·obtain ⟨y, s3, h3, h⟩ := bnd_inv h
     obtain ⟨_, s4, h4, h⟩ := bnd_inv h
     obtain ⟨z, s5, h5, h⟩ := bnd_inv h
     have u3 := H.expr u2.1 h3
     have u4 := exp_up u3.1 h4
     have u5 := H.expr u4.1 h5
     cases h
     exact u1.trans (u2.trans (u3.trans (u4.trans u5.ge).ge).ge)
   ·intro l s e s' hI h
    rw [leftF] at h
    obtain ⟨a, s1, h1, h⟩ := bnd_inv h
    have u1 := H.operand hI h1
    exact u1.trans (H.loop u1.1 h)
   ·intro l a s e s' hI h
    rw [loopF] at h
    cases ho : opAt l (cur ts s) with
    | none => rw [ho] at h; cases h; exact Ge.refl hI
    | some op =>
      rw [ho] at h
      dsimp only at h
      have u0 := goS_up hI (by rw [opAt_kind ho]; decide)
      obtain ⟨b, s1, h1, h⟩ := bnd_inv h
      have u1 := H.operand u0.1 h1
      exact (u0.trans (u1.trans (H.loop u1.1 h)).ge).ge
   ·intro l s e s' hI h
    rw [operandF] at h
    split at h
    ·exact H.cmp hI h
    ·split at h
     ·exact H.unary hI h
     ·exact H.left hI h
   ·intro s e s' hI h
    rw [cmpF] at h
    obtain ⟨a, s1, h1, h⟩ := bnd_inv h
    have u1 := H.left hI h1
    refine u1.trans ?_
    replace hI := u1.1
    have go : ∀ {s1 s2 : PS} {t : List UInt8} {f : Ex → Ex} {e : Ex} {s' : PS}, PInv ts s1 → acceptF ts t s1 = .ok (true, s2) → bnd (leftF ts n 2 s2) (fun c s3 => .ok (f c, s3)) = .ok (e, s') → Ge ts s1 s' := fun hI h2 h => by
     obtain ⟨c, s3, h3, h⟩ := bnd_inv h
     cases h
     have u2 := acc_up hI h2
     exact (u2.trans (H.left u2.1 h3).ge).ge
    obtain ⟨b, s2, h2, h⟩ := bnd_inv h
    cases b
    rotate_left
    ·exact go (f := fun c => exN 8 [a, c]) hI h2 h
    refine (acc_ge hI h2).trans ?_
    replace hI := (acc_ge hI h2).1
    obtain ⟨b, s3, h2, h⟩ := bnd_inv h
    cases b
    rotate_left
    ·exact go (f := fun c => exN 5 [exN 8 [a, c]]) hI h2 h
    refine (acc_ge hI h2).trans ?_
    replace hI := (acc_ge hI h2).1
    obtain ⟨b, s4, h2, h⟩ := bnd_inv h
    cases b
    rotate_left
    ·exact go (f := fun c => exN 9 [a, c]) hI h2 h
    refine (acc_ge hI h2).trans ?_
    replace hI := (acc_ge hI h2).1
    obtain ⟨b, s5, h2, h⟩ := bnd_inv h
    cases b
    rotate_left
    ·exact go (f := fun c => exN 10 [a, c]) hI h2 h
    refine (acc_ge hI h2).trans ?_
    replace hI := (acc_ge hI h2).1
    obtain ⟨b, s6, h2, h⟩ := bnd_inv h
    cases b
    rotate_left
    ·exact go (f := fun c => exN 9 [c, a]) hI h2 h
    refine (acc_ge hI h2).trans ?_
    replace hI := (acc_ge hI h2).1
    obtain ⟨b, s7, h2, h⟩ := bnd_inv h
    cases b
    rotate_left
    ·exact go (f := fun c => exN 10 [c, a]) hI h2 h
    cases h
    exact acc_ge hI h2
   ·intro s e s' hI h
    rw [unaryF] at h
    obtain ⟨b, s1, h1, h⟩ := bnd_inv h
    have u1 := acc_ge hI h1
    cases b
    ·obtain ⟨b, s2, h2, h⟩ := bnd_inv h
     have u2 := acc_ge u1.1 h2
     cases b
     ·obtain ⟨a, s3, h3, h⟩ := bnd_inv h
      have u3 := H.primary u2.1 h3
      exact u1.up (u2.up (u3.trans (H.post u3.1 h)))
     ·obtain ⟨a, s3, h3, h⟩ := bnd_inv h
      cases h
      exact u1.up (u2.up (H.unary u2.1 h3))
    ·obtain ⟨a, s3, h3, h⟩ := bnd_inv h
     cases h
     exact u1.up (H.unary u1.1 h3)
   ·intro a s e s' hI h
    rw [postF] at h
    obtain ⟨b, s1, h1, h⟩ := bnd_inv h
    have u1 := acc_ge hI h1
    cases b
    ·obtain ⟨b, s2, h2, h⟩ := bnd_inv h
     have u2 := acc_ge u1.1 h2
     cases b
     ·cases h; exact u1.trans u2
     ·obtain ⟨i, s3, h3, h⟩ := bnd_inv h
      obtain ⟨_, s4, h4, h⟩ := bnd_inv h
      have u3 := H.expr u2.1 h3
      have u4 := exp_up u3.1 h4
      exact u1.trans (u2.trans (u3.ge.trans (u4.ge.trans (H.post u4.1 h))))
    ·obtain ⟨k, s2, h2, h⟩ := bnd_inv h
     have u2 := num_up u1.1 h2
     exact u1.trans (u2.ge.trans (H.post u2.1 h))
   ·intro s e s' hI h
    rw [primaryF] at h
    split at h
    ·obtain ⟨x, s1, h1, h⟩ := bnd_inv h
     cases h
     exact name_up hI h1
    ·obtain ⟨x, s1, h1, h'⟩ := bnd_inv h
     clear h
     obtain ⟨rfl, hk, _, _⟩ := limbsF_ok hI h1
     split at h'
     ·obtain ⟨k, s2, h2, h⟩ := bnd_inv h'
      cases h
      exact num_up hI h2
     ·rename_i hd
      obtain ⟨d, s2, h2, h⟩ := bnd_inv h'
      cases h
      obtain ⟨hI1, hc1⟩ := nxt_cur hI (by rw [isDiv_kind hd]; decide)
      have u1 := goS_up hI1 (by rw [hc1, isDiv_kind hd]; decide)
      obtain ⟨hI3, ha, _⟩ := denomF_inv u1.1 h2
      exact ⟨hI3, by simp only [goS] at ha; omega⟩
    ·obtain ⟨b, s1, h1, h⟩ := bnd_inv h
     cases b
     rotate_left
     ·cases h; exact acc_up hI h1
     refine (acc_ge hI h1).up ?_
     replace hI := (acc_ge hI h1).1
     obtain ⟨b, s2, h1, h⟩ := bnd_inv h
     cases b
     rotate_left
     ·cases h; exact acc_up hI h1
     refine (acc_ge hI h1).up ?_
     replace hI := (acc_ge hI h1).1
     obtain ⟨b, s3, h1, h⟩ := bnd_inv h
     cases b
     rotate_left
     ·obtain ⟨_, s4, h4, h⟩ := bnd_inv h
      obtain ⟨y, s5, h5, h⟩ := bnd_inv h
      obtain ⟨_, s6, h6, h⟩ := bnd_inv h
      cases h
      have u1 := acc_up hI h1
      have u4 := exp_up u1.1 h4
      have u5 := H.expr u4.1 h5
      exact u1.trans (u4.ge.trans (u5.ge.trans (exp_up u5.1 h6).ge))
     refine (acc_ge hI h1).up ?_
     replace hI := (acc_ge hI h1).1
     obtain ⟨b, s4, h1, h⟩ := bnd_inv h
     cases b
     rotate_left
     ·obtain ⟨_, s4, h4, h⟩ := bnd_inv h
      obtain ⟨y, s5, h5, h⟩ := bnd_inv h
      obtain ⟨_, s6, h6, h⟩ := bnd_inv h
      obtain ⟨_, s7, h7, h⟩ := bnd_inv h
      obtain ⟨_, s8, h8, h⟩ := bnd_inv h
      cases h
      have u1 := acc_up hI h1
      have u4 := exp_up u1.1 h4
      have u5 := H.expr u4.1 h5
      have u6 := exp_up u5.1 h6
      have u7 := H.expr u6.1 h7
      exact u1.trans (u4.ge.trans (u5.ge.trans (u6.ge.trans (u7.ge.trans (exp_up u7.1 h8).ge))))
     refine (acc_ge hI h1).up ?_
     replace hI := (acc_ge hI h1).1
     obtain ⟨b, s5, h1, h⟩ := bnd_inv h
     cases b
     rotate_left
     ·have u1 := acc_up hI h1
      dsimp only at h
      split at h
      ·obtain ⟨_, s6, h6, h⟩ := bnd_inv h
       cases h
       exact u1.trans (exp_up u1.1 h6).ge
      ·obtain ⟨l, s6, h6, h⟩ := bnd_inv h
       obtain ⟨_, s7, h7, h⟩ := bnd_inv h
       cases h
       have u2 := (H.exprs u1.1 h6).1
       exact u1.trans (u2.ge.trans (exp_up u2.1 h7).ge)
     refine (acc_ge hI h1).up ?_
     replace hI := (acc_ge hI h1).1
     obtain ⟨_, s6, h6, h⟩ := bnd_inv h
     obtain ⟨l, s7, h7, h⟩ := bnd_inv h
     obtain ⟨_, s8, h8, h⟩ := bnd_inv h
     cases h
     have u1 := exp_up hI h6
     have u2 := (H.exprs u1.1 h7).1
     exact u1.trans (u2.ge.trans (exp_up u2.1 h8).ge)
   ·intro s e s' hI h
    rw [exprsF] at h
    obtain ⟨a, s1, h1, h⟩ := bnd_inv h
    have u1 := H.expr hI h1
    obtain ⟨u2, h2, h3⟩ := H.more u1.1 h
    refine ⟨u1.trans u2, h2 (by simp), ?_⟩
    have := u1.2
    have := u2.2
    simp at h3
    omega
   ·intro a s e s' hI h
    rw [moreF] at h
    obtain ⟨b, s1, h1, h⟩ := bnd_inv h
    have u1 := acc_ge hI h1
    cases b
    ·cases h; exact ⟨u1, fun h => h, Nat.le_add_right _ _⟩
    ·obtain ⟨x, s2, h2, h⟩ := bnd_inv h
     have u2 := H.expr u1.1 h2
     obtain ⟨u3, h3, h4⟩ := H.more u2.1 h
     refine ⟨u1.trans (u2.ge.trans u3), fun _ => h3 (by simp), ?_⟩
     have := u1.2
     have := u2.2
     have := u3.2
     simp at h4
     omega
end Go.LexSem
set_option maxHeartbeats 4000000
set_option maxRecDepth 8000
namespace Go.LexSem
open Go Go.V Go.Proofs Go.Num

theorem exC_clL (e : Ex) : ClosedL (exC e) = True := eq_true (exC_closed e)
theorem exC_ren (f : Ref → Ref) (e : Ex) : renL f (exC e) = exC e := exC_closed e f
/-- What is closed of the parser's values. -/
theorem PCL : (∀ e, Closed (exV e) = True) ∧ (∀ e, ClosedL (exC e) = True) ∧ (∀ es, Closed (exsV es) = True) ∧ (∀ n, Closed (nv n) = True) ∧ (∀ n, Closed (numV n) = True) ∧ (∀ es : List Ex, ClosedL (es.map exV) = True) :=
 ⟨exV_cl, exC_clL, exsV_cl, nv_closed, numV_closed, fun es => eq_true (exVs_closedL es)⟩
theorem PRN : (∀ f e, renL f (exC e) = exC e) ∧ (∀ f es, ren f (exsV es) = exsV es) ∧ (∀ f n, ren f (nv n) = nv n) ∧ (∀ f n, ren f (numV n) = numV n) ∧ (∀ f (es : List Ex), renL f (es.map exV) = es.map exV) ∧ (∀ f ts s, renB f (pblk ts s) = pblk ts s) :=
 ⟨exC_ren, exsV_ren, nv_ren, fun f n => of_eq_true (numV_closed n) f, exVs_ren, pblk_ren⟩
theorem XS : (∀ e, exV e = .agg (exC e)) ∧ (∀ e, (exC e).length = 7) ∧ (∀ e, List.take 7 (exC e) = exC e) ∧ (∀ e, List.drop 7 (exC e) = []) ∧ (∀ cs, (PVal.agg cs).solid = true) :=
 ⟨exV_def, exC_len, fun e => List.take_of_length_le (by rw [exC_len]; exact Nat.le_refl _), fun e => List.drop_of_length_le (by rw [exC_len]; exact Nat.le_refl _), fun _ => rfl⟩
theorem exN_def (op : Nat) (l : List Ex) : exV (exN op l) = .agg [.int .i64 op, .int .i64 0, .bool false, .nils, .nils, .str [], exsV l] := by
 rw [exN, exV_mk]; simp [zr, numV]
theorem binary_sem (op : Nat) (a b : Ex) : FSem C 64 [.int .i64 op, exV a, exV b] [] fun r st => r = .ret (exV (exN op [a, b])) ∧ st = [] := by
 rw [exN_def, exsV_ne (by simp)]
 refine FSem.enter' (C := C) (n := 12) Tryd.func64 rfl rfl ok_64 (by simp) ?_
 simp only [argEnv]
 refine WC.rs fun K hK => ?_
 simp only [↓EJ, EX, FA, simprocAttr, XS]
 refine hK _ ?_; try clear hK K
 refine WC.trim [0, 1, 2, 4, 5, 6] ?_
 simp only [ET, simprocAttr]
 refine WC.zs [3] (by simp only [cutZ, List.drop_zero, List.drop_succ_cons, List.take_zero, List.take_succ_cons, Option.map_some]; rfl) fun K hK => ?_
 simp only [↓EJ, EX, FA, simprocAttr, EZ, XS]
 refine hK _ ?_; try clear hK K
 refine WC.trim [0, 1, 2, 4, 5, 6] ?_
 simp only [ET, simprocAttr]
 refine WC.ret ?_
 simp only [↓EJ, EX, FA, simprocAttr, EQ, FnQ, Tryd.results64, wResL, tup, List.reverse_cons, List.reverse_nil, true_and]
 refine EndsIn.plain (by simp only [CL, PCL, and_self]) (fun k hk => by simp at hk) ⟨by simp [XS.1], rfl⟩
/-! ### The induction -/
def rem (ts : List Tok) (s : PS) : Nat := ts.length - s.at_
theorem Up.rem {ts : List Tok} {s s' : PS} (h : Up ts s s') : rem ts s' + 1 ≤ rem ts s := by
 have := h.1.lt
 have := h.2
 unfold LexSem.rem
 omega
theorem Ge.rem {ts : List Tok} {s s' : PS} (h : Ge ts s s') : rem ts s' ≤ rem ts s := by
 have := h.2
 unfold LexSem.rem
 omega
structure PAll (ts : List Tok) (n : Nat) : Prop where
 expr : ∀ s, PInv ts s → 40 * rem ts s + 35 ≤ n → PSem 46 [] ts s (exprF ts n s) exV
 left : ∀ l s, l ≤ 3 → PInv ts s → 40 * rem ts s + 34 - 8 * l ≤ n → PSem 56 [.int .i64 (l : Nat)] ts s (leftF ts n l s) exV
 operand : ∀ l s, l ≤ 3 → PInv ts s → 40 * rem ts s + 33 - 8 * l ≤ n → PSem 63 [.int .i64 (l : Nat)] ts s (operandF ts n l s) exV
 cmp : ∀ s, PInv ts s → 40 * rem ts s + 22 ≤ n → PSem 71 [] ts s (cmpF ts n s) exV
 unary : ∀ s, PInv ts s → 40 * rem ts s + 5 ≤ n → PSem 72 [] ts s (unaryF ts n s) exV
 primary : ∀ s, PInv ts s → 40 * rem ts s + 4 ≤ n → PSem 78 [] ts s (primaryF ts n s) exV
 exprs : ∀ s, PInv ts s → 40 * rem ts s + 36 ≤ n → PSem 50 [] ts s (exprsF ts n s) exsV
theorem expr_step (ts : List Tok) (n : Nat) (H : PAll ts n) (s : PS) (i : PInv ts s) (hn : 40 * rem ts s + 35 ≤ n + 1) : PSem 46 [] ts s (exprF ts (n + 1) s) exV := by
 have X := xInv ts n
 obtain ⟨x, hx⟩ : ∃ x, x = exprF ts (n + 1) s := ⟨_, rfl⟩
 rw [← hx]
 rw [exprF] at hx
 unfold PSem
 refine FSem.enter' (C := C) (n := 22) Tryd.func46 rfl rfl ok_46 (by simp) ?_
 simp only [argEnv]
 refine WC.rs fun K hK => ?_
 simp only [↓EJ, EX, FA, simprocAttr]
 refine hK _ ?_; try clear hK K
 refine WC.trim [0, 2, 3, 4, 9] ?_
 simp only [ET, simprocAttr]
 refine WC.rs fun K hK => ?_
 simp only [↓EJ, EX, FA, simprocAttr]
 refine CallX.mk (CallW.par (enc := exV) (H.left 0 s (by omega) i (by omega)) rfl rfl (by simp only [CL, PCL, and_self]) (fun v => by simp only [CL, PCL, and_self]) (fun e s1 h1 => ?_) (fun e s' he => by intros; exact PSem.fails (fn := Tryd.f46) (s := s') (hx.trans (by simp only [he, bnd_error])) rfl rfl))
 simp only [h1, bnd_ok] at hx
 have g1 := X.left i h1
 have i1 := g1.1
 have r1 := g1.rem
 simp only [↓EJ, EX, FA, simprocAttr, XS]
 refine hK _ ?_; try clear hK K
 refine WC.trim [0, 2, 3, 4, 9] ?_
 simp only [ET, simprocAttr]
 refine WC.sK fun K1 hK1 => ?_
 refine WC.rs fun K hK => ?_
 simp only [↓EJ, EX, FA, simprocAttr]
 refine CallX.mk (CallW.par (enc := .bool) (accept_sem ts s1 i1 [63]) rfl rfl (by simp only [CL, and_self]) (fun v => by simp only [CL]) (fun b2 s2 h2 => ?_) (fun e s' he => by intros; exact PSem.fails (fn := Tryd.f46) (s := s') (hx.trans (by simp only [he, bnd_error])) rfl rfl))
 simp only [h2, bnd_ok] at hx
 have g2 := acc_ge i1 h2
 have i2 := g2.1
 have r2 := g2.rem
 simp only [↓EJ, EX, FA, simprocAttr]
 refine hK _ ?_; try clear hK K
 refine WC.trim [0, 2, 3, 4, 9] ?_
 simp only [ET, simprocAttr]
 refine WC.cond (c := .tmp 9) rfl (fun h => ?_) (fun h => ?_)
 ·obtain rfl : b2 = false := by simpa using h
  dsimp only at hx
  refine WC.rs fun K hK => ?_
  simp only [↓EJ, EX, FA, simprocAttr, XS]
  refine hK _ ?_; try clear hK K
  refine WC.trim [0, 2, 3, 4, 9] ?_
  simp only [ET, simprocAttr]
  refine WC.ret ?_
  simp only [↓EJ, EX, FA, simprocAttr, EQ, FnQ, Tryd.results46, wResL, tup, List.reverse_cons, List.reverse_nil, true_and, XS]
  exact PSem.done (fn := Tryd.f46) (s := s2) (v := e) hx rfl (of_eq_true (by simp only [CL, PCL, and_self])) rfl
 ·obtain rfl : b2 = true := by simpa using h
  dsimp only at hx
  refine WC.skip ?_
  try simp only [EQ, reduceIte, Nat.reduceEqDiff]
  refine hK1 _ ?_; try clear hK1 K1
  refine WC.rs fun K hK => ?_
  simp only [↓EJ, EX, FA, simprocAttr]
  refine CallX.mk (CallW.par (enc := exV) (H.expr s2 i2 (by omega)) rfl rfl (by simp only [CL, PCL, and_self]) (fun v => by simp only [CL, PCL, and_self]) (fun y s3 h3 => ?_) (fun e s' he => by intros; exact PSem.fails (fn := Tryd.f46) (s := s') (hx.trans (by simp only [he, bnd_error])) rfl rfl))
  simp only [h3, bnd_ok] at hx
  have g3 := X.expr i2 h3
  have i3 := g3.1
  have r3 := g3.rem
  simp only [↓EJ, EX, FA, simprocAttr, XS]
  refine hK _ ?_; try clear hK K
  refine WC.trim [0, 2, 3, 4, 9] ?_
  simp only [ET, simprocAttr]
  refine WC.zs [1] (by simp only [cutZ, List.drop_zero, List.drop_succ_cons, List.take_zero, List.take_succ_cons, Option.map_some]; rfl) fun K hK => ?_
  simp only [↓EJ, EX, FA, simprocAttr, EZ]
  refine CallX.mk (CallW.par (enc := fun _ => .tuple []) (expect_sem ts [[58]] s3 i3 (by decide)) rfl rfl (by simp only [CL, List.map_cons, List.map_nil, and_self]) (fun v => by simp only [CL]) (fun u4 s4 h4 => ?_) (fun e s' he => by intros; exact PSem.fails (fn := Tryd.f46) (s := s') (hx.trans (by simp only [he, bnd_error])) rfl rfl))
  simp only [h4, bnd_ok] at hx
  have g4 := exp_up i3 h4
  have i4 := g4.1
  have r4 := g4.rem
  simp only [↓EJ, EX, FA, simprocAttr, EZ]
  refine hK _ ?_; try clear hK K
  refine WC.trim [0, 2, 3, 4, 9] ?_
  simp only [ET, simprocAttr]
  refine WC.ds [⟨0, 0, true, []⟩, ⟨1, 0, true, []⟩, ⟨2, 0, false, []⟩, ⟨3, 1, false, [0, 1]⟩, ⟨4, 2, false, []⟩, ⟨5, 0, false, []⟩, ⟨6, 1, false, []⟩] [0, 0, 0, 4, 15, 31, 63] mo (by kernel_rfl) (by simp only [EPl, List.getElem?_cons_zero, List.getElem?_cons_succ]; rfl) fun K hK => ?_
  simp only [↓EJ, EX, FA, simprocAttr, XS]
  refine CallX.mk (CallW.par (enc := exV) (H.expr s4 i4 (by omega)) rfl rfl (by simp only [CL, PCL, and_self]) (fun v => by simp only [CL, PCL, and_self]) (fun z s5 h5 => ?_) (fun e s' he => by intros; exact PSem.fails (fn := Tryd.f46) (s := s') (hx.trans (by simp only [he, bnd_error])) rfl rfl))
  simp only [h5, bnd_ok] at hx
  have g5 := X.expr i4 h5
  have i5 := g5.1
  simp only [↓EJ, EX, FA, simprocAttr, XS]
  refine hK _ ?_; try clear hK K
  refine WC.trim [0, 2, 3, 4, 9] ?_
  simp only [ET, simprocAttr]
  refine WC.ret ?_
  simp only [↓EJ, EX, FA, simprocAttr, EQ, FnQ, Tryd.results46, wResL, tup, List.reverse_cons, List.reverse_nil, true_and, XS]
  exact PSem.done (fn := Tryd.f46) (s := s5) (v := (exN 15 [e, y, z])) hx rfl (of_eq_true (by simp only [CL, PCL, and_self])) rfl
end Go.LexSem
set_option maxHeartbeats 4000000
set_option maxRecDepth 8000
namespace Go.LexSem
open Go Go.V Go.Proofs Go.Num

/-! ### The levels as a table -/
def lvK (l : Nat) : List PVal := (lvs l).map fun x => .str x.1
def lvV (l : Nat) : List PVal := (lvs l).map fun x => .int .i64 (x.2 : Nat)
theorem lv_all (l : Nat) : keysOk (lvK l) = true := by
 unfold lvK lvs
 split <;> decide
theorem look_lv (t : List UInt8) : ∀ m : List (List UInt8 × Nat), lookB t (m.map fun x => .str x.1) = (m.lookup t).isSome ∧
 lookR t (.int .i64 0) (m.map fun x => .str x.1) (m.map fun x => .int .i64 (x.2 : Nat)) = .int .i64 ((m.lookup t).getD 0 : Nat)
 | [] => ⟨rfl, rfl⟩
 | (k, v) :: m => by
   obtain ⟨h1, h2⟩ := look_lv t m
   simp only [List.map_cons, lookB, lookR, isK, h1, h2, List.lookup_cons]
   by_cases e : t = k
   ·subst e; simp
   ·have : (t == k) = false := by simpa using e
    simp [e, this]
theorem lv_gi {l : Nat} (h : l ≤ 3) : gi [PVal.fmap [.str [124, 124]] [.int .i64 7], .fmap [.str [38, 38]] [.int .i64 6], .fmap [.str [43], .str [45]] [.int .i64 12, .int .i64 13], .fmap [.str [42]] [.int .i64 14]] l = .fmap (lvK l) (lvV l) := by
 match l, h with
 | 0, _ => rfl
 | 1, _ => rfl
 | 2, _ => rfl
 | 3, _ => rfl
theorem lv_B (l : Nat) (t : List UInt8) : lookB t (lvK l) = ((lvs l).lookup t).isSome := (look_lv t (lvs l)).1
theorem lv_R (l : Nat) (t : List UInt8) : lookR t (.int .i64 0) (lvK l) (lvV l) = .int .i64 (((lvs l).lookup t).getD 0 : Nat) := (look_lv t (lvs l)).2
theorem cells_fmap (ks vs : List PVal) : (PVal.fmap ks vs).cells = [.fmap ks vs] := rfl
theorem w3b : IntKind.wrap .i64 3 = 3 := by decide
theorem w3 : IntKind.wrap .i64 (((4 : Nat) : Int) - 1) = 3 := by decide
theorem G2 : C.G 2 = some [levelsV] := rfl
theorem operand_step (ts : List Tok) (n : Nat) (H : PAll ts n) (l : Nat) (hl : l ≤ 3) (s : PS) (i : PInv ts s) (hn : 40 * rem ts s + 33 - 8 * l ≤ n + 1) : PSem 63 [.int .i64 (l : Nat)] ts s (operandF ts (n + 1) l s) exV := by
 have X := xInv ts n
 obtain ⟨x, hx⟩ : ∃ x, x = operandF ts (n + 1) l s := ⟨_, rfl⟩
 rw [← hx]
 rw [operandF] at hx
 replace hx : x = bnd (if l = 1 then cmpF ts n s else if l = 3 then unaryF ts n s else leftF ts n (l + 1) s) (fun e s1 => .ok (e, s1)) := by
  rw [hx]
  generalize (if l = 1 then cmpF ts n s else if l = 3 then unaryF ts n s else leftF ts n (l + 1) s) = y
  rcases y with e | ⟨v, s⟩ <;> rfl
 unfold PSem
 refine FSem.enter' (C := C) (n := 21) Tryd.func63 rfl rfl ok_63 (by simp) ?_
 simp only [argEnv]
 refine WC.rs fun K hK => ?_
 simp only [↓EJ, EX, FA, simprocAttr]
 refine hK _ ?_; try clear hK K
 refine WC.trim [0, 1, 4, 5, 6, 10] ?_
 simp only [ET, simprocAttr]
 refine WC.sK fun K1 hK1 => ?_
 refine WC.rs fun K hK => ?_
 simp only [↓EJ, EX, FA, simprocAttr]
 refine hK _ ?_; try clear hK K
 refine WC.trim [0, 1, 4, 5, 6, 10] ?_
 simp only [ET, simprocAttr]
 refine WC.b1 ?_
 refine WC.rs fun K hK => ?_
 simp only [↓EJ, EX, FA, simprocAttr]
 refine hK _ ?_; try clear hK K
 refine WC.trim [0, 1, 4, 5, 6, 10] ?_
 simp only [ET, simprocAttr]
 refine WC.cond (c := .tmp 6) rfl (fun h => ?_) (fun h => ?_)
 ·have h1 : l = 1 := by simp at h; omega
  rw [if_pos h1] at hx
  refine WC.rs fun K hK => ?_
  simp only [↓EJ, EX, FA, simprocAttr]
  refine CallX.mk (CallW.par (enc := exV) (H.cmp s i (by omega)) rfl rfl (by simp only [CL, PCL, and_self]) (fun v => by simp only [CL, PCL, and_self]) (fun e s1 h1 => ?_) (fun e s' he => by intros; exact PSem.fails (fn := Tryd.f63) (s := s') (hx.trans (by simp only [he, bnd_error])) rfl rfl))
  simp only [h1, bnd_ok] at hx
  have g1 := X.cmp i h1
  have i1 := g1.1
  simp only [↓EJ, EX, FA, simprocAttr, XS]
  refine hK _ ?_; try clear hK K
  refine WC.trim [0, 1, 4, 5, 6, 10] ?_
  simp only [ET, simprocAttr]
  refine WC.ret ?_
  simp only [↓EJ, EX, FA, simprocAttr, EQ, FnQ, Tryd.results63, wResL, tup, List.reverse_cons, List.reverse_nil, true_and, XS]
  exact PSem.done (fn := Tryd.f63) (s := s1) (v := e) hx rfl (of_eq_true (by simp only [CL, PCL, and_self])) rfl
 ·have h1 : l ≠ 1 := by simp at h; omega
  rw [if_neg h1] at hx
  refine WC.rs fun K hK => ?_
  simp only [↓EJ, EX, FA, simprocAttr, G2, levelsV]
  refine hK _ ?_; try clear hK K
  refine WC.trim [0, 1, 4, 5, 6, 10] ?_
  simp only [ET, simprocAttr]
  refine WC.cond (c := .tmp 10) rfl (fun h => ?_) (fun h => ?_)
  ·have h3 : l = 3 := by (try simp only [w3] at h); (try simp only [w3b] at h); simp at h; omega
   rw [if_pos h3] at hx
   refine WC.rs fun K hK => ?_
   simp only [↓EJ, EX, FA, simprocAttr]
   refine CallX.mk (CallW.par (enc := exV) (H.unary s i (by omega)) rfl rfl (by simp only [CL, PCL, and_self]) (fun v => by simp only [CL, PCL, and_self]) (fun e s1 h1 => ?_) (fun e s' he => by intros; exact PSem.fails (fn := Tryd.f63) (s := s') (hx.trans (by simp only [he, bnd_error])) rfl rfl))
   simp only [h1, bnd_ok] at hx
   have g1 := X.unary i h1
   have i1 := g1.1
   simp only [↓EJ, EX, FA, simprocAttr, XS]
   refine hK _ ?_; try clear hK K
   refine WC.trim [0, 1, 4, 5, 6, 10] ?_
   simp only [ET, simprocAttr]
   refine WC.ret ?_
   simp only [↓EJ, EX, FA, simprocAttr, EQ, FnQ, Tryd.results63, wResL, tup, List.reverse_cons, List.reverse_nil, true_and, XS]
   exact PSem.done (fn := Tryd.f63) (s := s1) (v := e) hx rfl (of_eq_true (by simp only [CL, PCL, and_self])) rfl
  ·have h3 : l ≠ 3 := by (try simp only [w3] at h); (try simp only [w3b] at h); simp at h; omega
   rw [if_neg h3] at hx
   refine WC.skip ?_
   try simp only [EQ, reduceIte, Nat.reduceEqDiff]
   refine hK1 _ ?_; try clear hK1 K1
   refine WC.rs fun K hK => ?_
   simp (maxSteps := 1000000) (disch := omega) only [↓EJ, EX, FA, simprocAttr, w64, wu64]
   refine CallX.mk (CallW.par (enc := exV) (H.left (l + 1) s (by omega) i (by omega)) rfl rfl (by simp only [CL, PCL, and_self]) (fun v => by simp only [CL, PCL, and_self]) (fun e s1 h1 => ?_) (fun e s' he => by intros; exact PSem.fails (fn := Tryd.f63) (s := s') (hx.trans (by simp only [he, bnd_error])) rfl rfl))
   simp only [h1, bnd_ok] at hx
   have g1 := X.left i h1
   have i1 := g1.1
   simp only [↓EJ, EX, FA, simprocAttr, XS]
   refine hK _ ?_; try clear hK K
   refine WC.trim [0, 1, 4, 5, 6, 10] ?_
   simp only [ET, simprocAttr]
   refine WC.ret ?_
   simp only [↓EJ, EX, FA, simprocAttr, EQ, FnQ, Tryd.results63, wResL, tup, List.reverse_cons, List.reverse_nil, true_and, XS]
   exact PSem.done (fn := Tryd.f63) (s := s1) (v := e) hx rfl (of_eq_true (by simp only [CL, PCL, and_self])) rfl
theorem left_step (ts : List Tok) (n : Nat) (H : ∀ m, m ≤ n → PAll ts m) (l : Nat) (hl : l ≤ 3) (s : PS) (i : PInv ts s) (hn : 40 * rem ts s + 34 - 8 * l ≤ n + 1) : PSem 56 [.int .i64 (l : Nat)] ts s (leftF ts (n + 1) l s) exV := by
 have X := xInv ts n
 obtain ⟨x, hx⟩ : ∃ x, x = leftF ts (n + 1) l s := ⟨_, rfl⟩
 rw [← hx]
 rw [leftF] at hx
 unfold PSem
 refine FSem.enter' (C := C) (n := 44) Tryd.func56 rfl rfl ok_56 (by simp) ?_
 simp only [argEnv]
 refine WC.rs fun K hK => ?_
 simp only [↓EJ, EX, FA, simprocAttr]
 refine hK _ ?_; try clear hK K
 refine WC.trim [0, 1, 4, 5, 6, 7, 29] ?_
 simp only [ET, simprocAttr]
 refine WC.rs fun K hK => ?_
 simp only [↓EJ, EX, FA, simprocAttr]
 refine CallX.mk (CallW.par (enc := exV) ((H n (Nat.le_refl n)).operand l s hl i (by omega)) rfl rfl (by simp only [CL, PCL, and_self]) (fun v => by simp only [CL, PCL, and_self]) (fun e s1 h1 => ?_) (fun e s' he => by intros; exact PSem.fails (fn := Tryd.f56) (s := s') (hx.trans (by simp only [he, bnd_error])) rfl rfl))
 simp only [h1, bnd_ok] at hx
 have g1 := X.operand i h1
 have i1 := g1.1
 have r1 := g1.rem
 simp only [↓EJ, EX, FA, simprocAttr, XS]
 refine hK _ ?_; try clear hK K
 refine WC.trim [0, 1, 4, 5, 6, 7, 29] ?_
 simp only [ET, simprocAttr]
 refine WC.b1 ?_
 refine WC.loop (X := Nat × Ex × PS) (fun x => ⟨[(5, .ptr (.l 1) 0 0), (4, .ptr (.l 0) 0 0), (0, .ptr (.o 0) 0 0), (1, .int .i64 (l : Nat))], [pblk ts x.2.2], [.row [.agg [.int .i64 0, .int .i64 0, .bool false, .nils, .nils, .str [], .nils]] 7 51, .row [.agg (exC x.2.1)] 7 51], []⟩) (fun y => y.1 ≤ n ∧ PInv ts y.2.2 ∧ 40 * rem ts y.2.2 + 34 ≤ y.1 ∧ x = loopF ts y.1 l y.2.1 y.2.2) (fun x => x.1) (n, e, s1) [0, 1] ⟨Nat.le_refl _, i1, by dsimp only; omega, hx⟩ ?_ ?_
 ·refine ⟨by simp, by simp only [EV, EB, EL, ER, ET, and_self, true_and, and_true, Nat.reduceEqDiff, reduceCtorEq, reduceIte, PRN], by simp only [EV, EB, EL, ER, ET, and_self, true_and, and_true, Nat.reduceEqDiff, reduceCtorEq, reduceIte, PRN], by simp only [EV, EB, EL, ER, ET, and_self, true_and, and_true, Nat.reduceEqDiff, reduceCtorEq, reduceIte, PRN, pick], rfl⟩
 clear hx r1 g1 h1 i1 e s1
 rintro ⟨m, e, s1⟩ ⟨hm, i1, hr, hx⟩
 dsimp only at hm i1 hr hx ⊢
 obtain ⟨m, rfl⟩ : ∃ k, m = k + 1 := ⟨m - 1, by omega⟩
 rw [loopF] at hx
 refine WC.b1 ?_
 have hz : lkq C.P 127 = some (.int .i64 0) := by kernel_rfl
 refine WC.ds [⟨0, 0, true, []⟩, ⟨1, 0, true, []⟩, ⟨2, 0, true, []⟩, ⟨3, 0, true, []⟩, ⟨4, 0, false, []⟩, ⟨5, 1, false, [0, 1, 2, 3]⟩, ⟨6, 0, false, []⟩, ⟨7, 0, false, []⟩, ⟨8, 0, false, []⟩, ⟨9, 0, false, []⟩, ⟨10, 0, false, []⟩, ⟨11, 0, false, []⟩, ⟨12, 0, false, []⟩] [0, 0, 3, 7, 0, 16, 48, 127, 255, 511, 511, 1023, 4095] mo (by kernel_rfl) (by simp only [EPl, List.getElem?_cons_zero, List.getElem?_cons_succ]; rfl) fun K hK => ?_
 simp only [↓EJ, EX, FA, simprocAttr, ELk, G2, levelsV, lv_gi hl, cells_fmap, hz, lv_all, lv_B, lv_R]
 refine ⟨by omega, by omega, ?_⟩
 refine CallX.mk (CallW.one (r := .o 0) (now_sem ts s1 i1) rfl (pblk_closed ts s1) (pblk_closed ts s1) (tkv_closed1 _) (by simp [renL, ren, fCall]) ?_)
 simp only [↓EJ, EX, FA, simprocAttr, ELk, G2, levelsV, lv_gi hl, cells_fmap, hz, lv_all, lv_B, lv_R, tkv_cells, tkv, tk]
 refine ⟨⟨by omega, by omega⟩, ?_⟩
 refine hK _ ?_; try clear hK K
 refine WC.trim [0, 1, 4, 5, 6, 7, 29] ?_
 simp only [ET, simprocAttr]
 rw [opAt] at hx
 refine WC.sK fun K3 hK3 => ?_
 cases hlk : List.lookup (cur ts s1).2.1 (lvs l) with
 | none =>
   rw [hlk] at hx
   replace hx : x = .ok (e, s1) := by rw [hx]; split <;> simp_all
   refine WC.rs fun K hK => ?_
   simp only [↓EJ, EX, FA, simprocAttr, Option.isSome_none, Option.isSome_some, Option.getD_none, Option.getD_some, Bool.not_false, Bool.not_true]
   refine hK _ ?_; try clear hK K
   refine WC.trim [0, 1, 4, 5, 6, 7, 29] ?_
   simp only [ET, simprocAttr]
   refine WC.cond (c := .tmp 29) rfl (fun h => ?_) (fun h => ?_)
   rotate_left
   ·simp at h
   refine WC.rs fun K hK => ?_
   simp only [↓EJ, EX, FA, simprocAttr, XS]
   refine hK _ ?_; try clear hK K
   refine WC.trim [0, 1, 4, 5, 6, 7, 29] ?_
   simp only [ET, simprocAttr]
   refine WC.ret ?_
   simp only [↓EJ, EX, FA, simprocAttr, EQ, FnQ, Tryd.results56, wResL, tup, List.reverse_cons, List.reverse_nil, true_and, XS]
   exact PSem.done (fn := Tryd.f56) (s := s1) (v := e) hx rfl (of_eq_true (by simp only [CL, PCL, and_self])) rfl
 | some op =>
   rw [hlk] at hx
   refine WC.rs fun K hK => ?_
   simp only [↓EJ, EX, FA, simprocAttr, Option.isSome_none, Option.isSome_some, Option.getD_none, Option.getD_some, Bool.not_false, Bool.not_true]
   refine CallX.mk (CallW.one (r := .o 0) (now_sem ts s1 i1) rfl (pblk_closed ts s1) (pblk_closed ts s1) (tkv_closed1 _) (by simp [renL, ren, fCall]) ?_)
   simp only [↓EJ, EX, FA, simprocAttr, tkv_cells, tkv, tk]
   refine hK _ ?_; try clear hK K
   refine WC.trim [0, 1, 4, 5, 6, 7, 29] ?_
   simp only [ET, simprocAttr]
   refine WC.cond (c := .tmp 29) rfl (fun h => ?_) (fun h => ?_)
   ·have hk : (cur ts s1).1 ≠ 4 := by simp at h; omega
    rw [if_neg hk] at hx
    refine WC.rs fun K hK => ?_
    simp only [↓EJ, EX, FA, simprocAttr, XS]
    refine hK _ ?_; try clear hK K
    refine WC.trim [0, 1, 4, 5, 6, 7, 29] ?_
    simp only [ET, simprocAttr]
    refine WC.ret ?_
    simp only [↓EJ, EX, FA, simprocAttr, EQ, FnQ, Tryd.results56, wResL, tup, List.reverse_cons, List.reverse_nil, true_and, XS]
    exact PSem.done (fn := Tryd.f56) (s := s1) (v := e) hx rfl (of_eq_true (by simp only [CL, PCL, and_self])) rfl
   ·have hk : (cur ts s1).1 = 4 := by simp at h; omega
    rw [if_pos hk] at hx
    dsimp only at hx
    refine WC.skip ?_
    try simp only [EQ, reduceIte, Nat.reduceEqDiff]
    refine hK3 _ ?_; try clear hK3 K3
    have hlt := i1.lt
    have hle := i1.le
    refine WC.rs fun K hK => ?_
    simp (maxSteps := 1000000) (disch := omega) only [↓EJ, EX, FA, simprocAttr, w64, wu64, pblk, pcell]
    refine hK _ ?_; try clear hK K
    refine WC.trim [0, 1, 4, 5, 6, 7, 29] ?_
    simp only [ET, simprocAttr]
    have g2 := goS_up i1 (by rw [hk]; decide)
    have r2 := g2.rem
    have i2 := g2.1
    have hb : Blk.row [.agg [tks ts, .int .i64 ((s1.at_ : Int) + 1), .int .i64 s1.opn]] 3 44 = pblk ts (goS s1) := by simp only [pblk, pcell, goS, Int.natCast_add]; rfl
    rw [hb]
    refine WC.d1 [⟨0, 0, true, []⟩, ⟨1, 0, true, []⟩, ⟨2, 0, false, []⟩, ⟨3, 0, false, []⟩, ⟨4, 1, false, [0, 1]⟩, ⟨5, 1, false, []⟩, ⟨6, 1, false, []⟩] [0, 0, 0, 0, 12, 31, 63] mo (by kernel_rfl) (by simp only [EPl, List.getElem?_cons_zero, List.getElem?_cons_succ]; rfl) ?_
    simp only [↓EJ, EX, FA, simprocAttr, XS]
    refine CallX.mk (CallW.par (enc := exV) ((H m (by omega)).operand l (goS s1) hl i2 (by omega)) rfl rfl (by simp only [CL, PCL, and_self]) (fun v => by simp only [CL, PCL, and_self]) (fun a s3 h3 => ?_) (fun e s' he => by intros; exact PSem.fails (fn := Tryd.f56) (s := s') (hx.trans (by simp only [he, bnd_error])) rfl rfl))
    simp only [h3, bnd_ok] at hx
    have g3 := (xInv ts m).operand i2 h3
    have i3 := g3.1
    have r3 := g3.rem
    simp only [↓EJ, EX, FA, simprocAttr, XS]
    refine CallX.mk (CallW.pure (binary_sem op e a) (by simp only [CL, PCL, and_self]) (by simp only [CL, PCL, and_self]) ?_)
    simp only [↓EJ, EX, FA, simprocAttr, XS]
    try simp only [EQ, reduceIte, Nat.reduceEqDiff]
    refine ⟨(m, exN op [e, a], s3), [0, 1], ⟨by dsimp only; omega, i3, by dsimp only; omega, hx⟩, by dsimp only; omega, ?_⟩
    refine ⟨by simp, by simp only [EV, EB, EL, ER, ET, and_self, true_and, and_true, Nat.reduceEqDiff, reduceCtorEq, reduceIte, PRN, XS], by simp only [EV, EB, EL, ER, ET, and_self, true_and, and_true, Nat.reduceEqDiff, reduceCtorEq, reduceIte, PRN, XS], by simp only [EV, EB, EL, ER, ET, and_self, true_and, and_true, Nat.reduceEqDiff, reduceCtorEq, reduceIte, PRN, XS, pick], rfl⟩
end Go.LexSem
set_option maxHeartbeats 8000000
set_option maxRecDepth 8000
namespace Go.LexSem
open Go Go.V Go.Proofs Go.Num

theorem cmp_step (ts : List Tok) (n : Nat) (H : PAll ts n) (s : PS) (i : PInv ts s) (hn : 40 * rem ts s + 22 ≤ n + 1) : PSem 71 [] ts s (cmpF ts (n + 1) s) exV := by
 have X := xInv ts n
 obtain ⟨x, hx⟩ : ∃ x, x = cmpF ts (n + 1) s := ⟨_, rfl⟩
 rw [← hx]
 rw [cmpF] at hx
 unfold PSem
 refine FSem.enter' (C := C) (n := 51) Tryd.func71 rfl rfl ok_71 (by simp) ?_
 simp only [argEnv]
 refine WC.rs fun K hK => ?_
 simp only [↓EJ, EX, FA, simprocAttr]
 refine hK _ ?_; try clear hK K
 refine WC.trim [0, 2, 3, 6, 13, 22, 29, 36, 43] ?_
 simp only [ET, simprocAttr]
 refine WC.rs fun K hK => ?_
 simp only [↓EJ, EX, FA, simprocAttr]
 refine CallX.mk (CallW.par (enc := exV) (H.left 2 s (by omega) i (by omega)) rfl rfl (by simp only [CL, PCL, and_self]) (fun v => by simp only [CL, PCL, and_self]) (fun a s1 h1 => ?_) (fun e s' he => by intros; exact PSem.fails (fn := Tryd.f71) (s := s') (hx.trans (by simp only [he, bnd_error])) rfl rfl))
 simp only [h1, bnd_ok] at hx
 have g1 := X.left i h1
 have i1 := g1.1
 have r1 := g1.rem
 simp only [↓EJ, EX, FA, simprocAttr, XS]
 refine hK _ ?_; try clear hK K
 refine WC.trim [0, 2, 3, 6, 13, 22, 29, 36, 43] ?_
 simp only [ET, simprocAttr]
 refine WC.bs fun K0 hK0 => ?_
 refine WC.rs fun K hK => ?_
 simp only [↓EJ, EX, FA, simprocAttr]
 refine CallX.mk (CallW.par (enc := .bool) (accept_sem ts s1 i1 [61, 61]) rfl rfl (by simp only [CL, and_self]) (fun v => by simp only [CL]) (fun b2 s2 h2 => ?_) (fun e s' he => by intros; exact PSem.fails (fn := Tryd.f71) (s := s') (hx.trans (by simp only [he, bnd_error])) rfl rfl))
 simp only [h2, bnd_ok] at hx
 have g2 := acc_ge i1 h2
 have i2 := g2.1
 have r2 := g2.rem
 simp only [↓EJ, EX, FA, simprocAttr]
 refine hK _ ?_; try clear hK K
 refine WC.trim [0, 2, 3, 6, 13, 22, 29, 36, 43] ?_
 simp only [ET, simprocAttr]
 refine WC.cond (c := .tmp 6) rfl (fun h => ?_) (fun h => ?_)
 ·obtain rfl : b2 = true := by simpa using h
  dsimp only at hx
  refine WC.ds [⟨0, 0, true, []⟩, ⟨1, 0, false, []⟩, ⟨2, 1, false, [0]⟩, ⟨3, 1, false, []⟩, ⟨4, 1, false, []⟩] [0, 0, 2, 7, 15] mo (by kernel_rfl) (by simp only [EPl, List.getElem?_cons_zero, List.getElem?_cons_succ]; rfl) fun K hK => ?_
  simp only [↓EJ, EX, FA, simprocAttr, XS]
  refine CallX.mk (CallW.par (enc := exV) (H.left 2 s2 (by omega) i2 (by omega)) rfl rfl (by simp only [CL, PCL, and_self]) (fun v => by simp only [CL, PCL, and_self]) (fun c s9 h9 => ?_) (fun e s' he => by intros; exact PSem.fails (fn := Tryd.f71) (s := s') (hx.trans (by simp only [he, bnd_error])) rfl rfl))
  simp only [h9, bnd_ok] at hx
  have g9 := X.left i2 h9
  have i9 := g9.1
  simp only [↓EJ, EX, FA, simprocAttr, XS]
  refine CallX.mk (CallW.pure (binary_sem 8 a c) (by simp only [CL, PCL, and_self]) (by simp only [CL, PCL, and_self]) ?_)
  simp only [↓EJ, EX, FA, simprocAttr, XS]
  refine hK _ ?_; try clear hK K
  refine WC.trim [0, 2, 3, 6, 13, 22, 29, 36, 43] ?_
  simp only [ET, simprocAttr]
  refine WC.ret ?_
  simp only [↓EJ, EX, FA, simprocAttr, EQ, FnQ, Tryd.results71, wResL, tup, List.reverse_cons, List.reverse_nil, true_and, XS]
  exact PSem.done (fn := Tryd.f71) (s := s9) (v := (exN 8 [a, c])) hx rfl (of_eq_true (by simp only [CL, PCL, and_self])) rfl
 ·obtain rfl : b2 = false := by simpa using h
  dsimp only at hx
  refine WC.rs fun K hK => ?_
  simp only [↓EJ, EX, FA, simprocAttr]
  refine CallX.mk (CallW.par (enc := .bool) (accept_sem ts s2 i2 [33, 61]) rfl rfl (by simp only [CL, and_self]) (fun v => by simp only [CL]) (fun b3 s3 h3 => ?_) (fun e s' he => by intros; exact PSem.fails (fn := Tryd.f71) (s := s') (hx.trans (by simp only [he, bnd_error])) rfl rfl))
  simp only [h3, bnd_ok] at hx
  have g3 := acc_ge i2 h3
  have i3 := g3.1
  have r3 := g3.rem
  simp only [↓EJ, EX, FA, simprocAttr]
  refine hK _ ?_; try clear hK K
  refine WC.trim [0, 2, 3, 6, 13, 22, 29, 36, 43] ?_
  simp only [ET, simprocAttr]
  refine WC.cond (c := .tmp 13) rfl (fun h => ?_) (fun h => ?_)
  ·obtain rfl : b3 = true := by simpa using h
   dsimp only at hx
   refine WC.ds [⟨0, 0, true, []⟩, ⟨1, 0, false, []⟩, ⟨2, 1, false, [0]⟩, ⟨3, 1, false, []⟩, ⟨4, 2, false, []⟩, ⟨5, 0, false, []⟩, ⟨6, 1, false, []⟩] [0, 0, 2, 7, 15, 31, 63] mo (by kernel_rfl) (by simp only [EPl, List.getElem?_cons_zero, List.getElem?_cons_succ]; rfl) fun K hK => ?_
   simp only [↓EJ, EX, FA, simprocAttr, XS]
   refine CallX.mk (CallW.par (enc := exV) (H.left 2 s3 (by omega) i3 (by omega)) rfl rfl (by simp only [CL, PCL, and_self]) (fun v => by simp only [CL, PCL, and_self]) (fun c s9 h9 => ?_) (fun e s' he => by intros; exact PSem.fails (fn := Tryd.f71) (s := s') (hx.trans (by simp only [he, bnd_error])) rfl rfl))
   simp only [h9, bnd_ok] at hx
   have g9 := X.left i3 h9
   have i9 := g9.1
   simp only [↓EJ, EX, FA, simprocAttr, XS]
   refine CallX.mk (CallW.pure (binary_sem 8 a c) (by simp only [CL, PCL, and_self]) (by simp only [CL, PCL, and_self]) ?_)
   simp only [↓EJ, EX, FA, simprocAttr, XS]
   refine hK _ ?_; try clear hK K
   refine WC.trim [0, 2, 3, 6, 13, 22, 29, 36, 43] ?_
   simp only [ET, simprocAttr]
   refine WC.ret ?_
   simp only [↓EJ, EX, FA, simprocAttr, EQ, FnQ, Tryd.results71, wResL, tup, List.reverse_cons, List.reverse_nil, true_and, XS]
   exact PSem.done (fn := Tryd.f71) (s := s9) (v := (exN 5 [exN 8 [a, c]])) hx rfl (of_eq_true (by simp only [CL, PCL, and_self])) rfl
  ·obtain rfl : b3 = false := by simpa using h
   dsimp only at hx
   refine WC.rs fun K hK => ?_
   simp only [↓EJ, EX, FA, simprocAttr]
   refine CallX.mk (CallW.par (enc := .bool) (accept_sem ts s3 i3 [60]) rfl rfl (by simp only [CL, and_self]) (fun v => by simp only [CL]) (fun b4 s4 h4 => ?_) (fun e s' he => by intros; exact PSem.fails (fn := Tryd.f71) (s := s') (hx.trans (by simp only [he, bnd_error])) rfl rfl))
   simp only [h4, bnd_ok] at hx
   have g4 := acc_ge i3 h4
   have i4 := g4.1
   have r4 := g4.rem
   simp only [↓EJ, EX, FA, simprocAttr]
   refine hK _ ?_; try clear hK K
   refine WC.trim [0, 2, 3, 6, 13, 22, 29, 36, 43] ?_
   simp only [ET, simprocAttr]
   refine WC.cond (c := .tmp 22) rfl (fun h => ?_) (fun h => ?_)
   ·obtain rfl : b4 = true := by simpa using h
    dsimp only at hx
    refine WC.ds [⟨0, 0, true, []⟩, ⟨1, 0, false, []⟩, ⟨2, 1, false, [0]⟩, ⟨3, 1, false, []⟩, ⟨4, 1, false, []⟩] [0, 0, 2, 7, 15] mo (by kernel_rfl) (by simp only [EPl, List.getElem?_cons_zero, List.getElem?_cons_succ]; rfl) fun K hK => ?_
    simp only [↓EJ, EX, FA, simprocAttr, XS]
    refine CallX.mk (CallW.par (enc := exV) (H.left 2 s4 (by omega) i4 (by omega)) rfl rfl (by simp only [CL, PCL, and_self]) (fun v => by simp only [CL, PCL, and_self]) (fun c s9 h9 => ?_) (fun e s' he => by intros; exact PSem.fails (fn := Tryd.f71) (s := s') (hx.trans (by simp only [he, bnd_error])) rfl rfl))
    simp only [h9, bnd_ok] at hx
    have g9 := X.left i4 h9
    have i9 := g9.1
    simp only [↓EJ, EX, FA, simprocAttr, XS]
    refine CallX.mk (CallW.pure (binary_sem 9 a c) (by simp only [CL, PCL, and_self]) (by simp only [CL, PCL, and_self]) ?_)
    simp only [↓EJ, EX, FA, simprocAttr, XS]
    refine hK _ ?_; try clear hK K
    refine WC.trim [0, 2, 3, 6, 13, 22, 29, 36, 43] ?_
    simp only [ET, simprocAttr]
    refine WC.ret ?_
    simp only [↓EJ, EX, FA, simprocAttr, EQ, FnQ, Tryd.results71, wResL, tup, List.reverse_cons, List.reverse_nil, true_and, XS]
    exact PSem.done (fn := Tryd.f71) (s := s9) (v := (exN 9 [a, c])) hx rfl (of_eq_true (by simp only [CL, PCL, and_self])) rfl
   ·obtain rfl : b4 = false := by simpa using h
    dsimp only at hx
    refine WC.rs fun K hK => ?_
    simp only [↓EJ, EX, FA, simprocAttr]
    refine CallX.mk (CallW.par (enc := .bool) (accept_sem ts s4 i4 [60, 61]) rfl rfl (by simp only [CL, and_self]) (fun v => by simp only [CL]) (fun b5 s5 h5 => ?_) (fun e s' he => by intros; exact PSem.fails (fn := Tryd.f71) (s := s') (hx.trans (by simp only [he, bnd_error])) rfl rfl))
    simp only [h5, bnd_ok] at hx
    have g5 := acc_ge i4 h5
    have i5 := g5.1
    have r5 := g5.rem
    simp only [↓EJ, EX, FA, simprocAttr]
    refine hK _ ?_; try clear hK K
    refine WC.trim [0, 2, 3, 6, 13, 22, 29, 36, 43] ?_
    simp only [ET, simprocAttr]
    refine WC.cond (c := .tmp 29) rfl (fun h => ?_) (fun h => ?_)
    ·obtain rfl : b5 = true := by simpa using h
     dsimp only at hx
     refine WC.ds [⟨0, 0, true, []⟩, ⟨1, 0, false, []⟩, ⟨2, 1, false, [0]⟩, ⟨3, 1, false, []⟩, ⟨4, 1, false, []⟩] [0, 0, 2, 7, 15] mo (by kernel_rfl) (by simp only [EPl, List.getElem?_cons_zero, List.getElem?_cons_succ]; rfl) fun K hK => ?_
     simp only [↓EJ, EX, FA, simprocAttr, XS]
     refine CallX.mk (CallW.par (enc := exV) (H.left 2 s5 (by omega) i5 (by omega)) rfl rfl (by simp only [CL, PCL, and_self]) (fun v => by simp only [CL, PCL, and_self]) (fun c s9 h9 => ?_) (fun e s' he => by intros; exact PSem.fails (fn := Tryd.f71) (s := s') (hx.trans (by simp only [he, bnd_error])) rfl rfl))
     simp only [h9, bnd_ok] at hx
     have g9 := X.left i5 h9
     have i9 := g9.1
     simp only [↓EJ, EX, FA, simprocAttr, XS]
     refine CallX.mk (CallW.pure (binary_sem 10 a c) (by simp only [CL, PCL, and_self]) (by simp only [CL, PCL, and_self]) ?_)
     simp only [↓EJ, EX, FA, simprocAttr, XS]
     refine hK _ ?_; try clear hK K
     refine WC.trim [0, 2, 3, 6, 13, 22, 29, 36, 43] ?_
     simp only [ET, simprocAttr]
     refine WC.ret ?_
     simp only [↓EJ, EX, FA, simprocAttr, EQ, FnQ, Tryd.results71, wResL, tup, List.reverse_cons, List.reverse_nil, true_and, XS]
     exact PSem.done (fn := Tryd.f71) (s := s9) (v := (exN 10 [a, c])) hx rfl (of_eq_true (by simp only [CL, PCL, and_self])) rfl
    ·obtain rfl : b5 = false := by simpa using h
     dsimp only at hx
     refine WC.rs fun K hK => ?_
     simp only [↓EJ, EX, FA, simprocAttr]
     refine CallX.mk (CallW.par (enc := .bool) (accept_sem ts s5 i5 [62]) rfl rfl (by simp only [CL, and_self]) (fun v => by simp only [CL]) (fun b6 s6 h6 => ?_) (fun e s' he => by intros; exact PSem.fails (fn := Tryd.f71) (s := s') (hx.trans (by simp only [he, bnd_error])) rfl rfl))
     simp only [h6, bnd_ok] at hx
     have g6 := acc_ge i5 h6
     have i6 := g6.1
     have r6 := g6.rem
     simp only [↓EJ, EX, FA, simprocAttr]
     refine hK _ ?_; try clear hK K
     refine WC.trim [0, 2, 3, 6, 13, 22, 29, 36, 43] ?_
     simp only [ET, simprocAttr]
     refine WC.cond (c := .tmp 36) rfl (fun h => ?_) (fun h => ?_)
     ·obtain rfl : b6 = true := by simpa using h
      dsimp only at hx
      refine WC.ds [⟨0, 0, false, []⟩, ⟨2, 0, true, []⟩, ⟨1, 1, false, [2]⟩, ⟨3, 1, false, []⟩, ⟨4, 1, false, []⟩] [0, 1, 0, 7, 15] mo (by kernel_rfl) (by simp only [EPl, List.getElem?_cons_zero, List.getElem?_cons_succ]; rfl) fun K hK => ?_
      simp only [↓EJ, EX, FA, simprocAttr, XS]
      refine CallX.mk (CallW.par (enc := exV) (H.left 2 s6 (by omega) i6 (by omega)) rfl rfl (by simp only [CL, PCL, and_self]) (fun v => by simp only [CL, PCL, and_self]) (fun c s9 h9 => ?_) (fun e s' he => by intros; exact PSem.fails (fn := Tryd.f71) (s := s') (hx.trans (by simp only [he, bnd_error])) rfl rfl))
      simp only [h9, bnd_ok] at hx
      have g9 := X.left i6 h9
      have i9 := g9.1
      simp only [↓EJ, EX, FA, simprocAttr, XS]
      refine CallX.mk (CallW.pure (binary_sem 9 c a) (by simp only [CL, PCL, and_self]) (by simp only [CL, PCL, and_self]) ?_)
      simp only [↓EJ, EX, FA, simprocAttr, XS]
      refine hK _ ?_; try clear hK K
      refine WC.trim [0, 2, 3, 6, 13, 22, 29, 36, 43] ?_
      simp only [ET, simprocAttr]
      refine WC.ret ?_
      simp only [↓EJ, EX, FA, simprocAttr, EQ, FnQ, Tryd.results71, wResL, tup, List.reverse_cons, List.reverse_nil, true_and, XS]
      exact PSem.done (fn := Tryd.f71) (s := s9) (v := (exN 9 [c, a])) hx rfl (of_eq_true (by simp only [CL, PCL, and_self])) rfl
     ·obtain rfl : b6 = false := by simpa using h
      dsimp only at hx
      refine WC.rs fun K hK => ?_
      simp only [↓EJ, EX, FA, simprocAttr]
      refine CallX.mk (CallW.par (enc := .bool) (accept_sem ts s6 i6 [62, 61]) rfl rfl (by simp only [CL, and_self]) (fun v => by simp only [CL]) (fun b7 s7 h7 => ?_) (fun e s' he => by intros; exact PSem.fails (fn := Tryd.f71) (s := s') (hx.trans (by simp only [he, bnd_error])) rfl rfl))
      simp only [h7, bnd_ok] at hx
      have g7 := acc_ge i6 h7
      have i7 := g7.1
      have r7 := g7.rem
      simp only [↓EJ, EX, FA, simprocAttr]
      refine hK _ ?_; try clear hK K
      refine WC.trim [0, 2, 3, 6, 13, 22, 29, 36, 43] ?_
      simp only [ET, simprocAttr]
      refine WC.cond (c := .tmp 43) rfl (fun h => ?_) (fun h => ?_)
      ·obtain rfl : b7 = true := by simpa using h
       dsimp only at hx
       refine WC.ds [⟨0, 0, false, []⟩, ⟨2, 0, true, []⟩, ⟨1, 1, false, [2]⟩, ⟨3, 1, false, []⟩, ⟨4, 1, false, []⟩] [0, 1, 0, 7, 15] mo (by kernel_rfl) (by simp only [EPl, List.getElem?_cons_zero, List.getElem?_cons_succ]; rfl) fun K hK => ?_
       simp only [↓EJ, EX, FA, simprocAttr, XS]
       refine CallX.mk (CallW.par (enc := exV) (H.left 2 s7 (by omega) i7 (by omega)) rfl rfl (by simp only [CL, PCL, and_self]) (fun v => by simp only [CL, PCL, and_self]) (fun c s9 h9 => ?_) (fun e s' he => by intros; exact PSem.fails (fn := Tryd.f71) (s := s') (hx.trans (by simp only [he, bnd_error])) rfl rfl))
       simp only [h9, bnd_ok] at hx
       have g9 := X.left i7 h9
       have i9 := g9.1
       simp only [↓EJ, EX, FA, simprocAttr, XS]
       refine CallX.mk (CallW.pure (binary_sem 10 c a) (by simp only [CL, PCL, and_self]) (by simp only [CL, PCL, and_self]) ?_)
       simp only [↓EJ, EX, FA, simprocAttr, XS]
       refine hK _ ?_; try clear hK K
       refine WC.trim [0, 2, 3, 6, 13, 22, 29, 36, 43] ?_
       simp only [ET, simprocAttr]
       refine WC.ret ?_
       simp only [↓EJ, EX, FA, simprocAttr, EQ, FnQ, Tryd.results71, wResL, tup, List.reverse_cons, List.reverse_nil, true_and, XS]
       exact PSem.done (fn := Tryd.f71) (s := s9) (v := (exN 10 [c, a])) hx rfl (of_eq_true (by simp only [CL, PCL, and_self])) rfl
      ·obtain rfl : b7 = false := by simpa using h
       dsimp only at hx
       refine WC.skip ?_
       try simp only [EQ, reduceIte, Nat.reduceEqDiff]
       refine hK0 _ ?_; try clear hK0 K0
       refine WC.rs fun K hK => ?_
       simp only [↓EJ, EX, FA, simprocAttr, XS]
       refine hK _ ?_; try clear hK K
       refine WC.trim [0, 2, 3, 6, 13, 22, 29, 36, 43] ?_
       simp only [ET, simprocAttr]
       refine WC.ret ?_
       simp only [↓EJ, EX, FA, simprocAttr, EQ, FnQ, Tryd.results71, wResL, tup, List.reverse_cons, List.reverse_nil, true_and, XS]
       exact PSem.done (fn := Tryd.f71) (s := s7) (v := a) hx rfl (of_eq_true (by simp only [CL, PCL, and_self])) rfl
end Go.LexSem
set_option maxHeartbeats 8000000
set_option maxRecDepth 8000
namespace Go.LexSem
open Go Go.V Go.Proofs Go.Num

theorem exV_proj (k : Nat) (e : Ex) : exV (.mk 17 k zr [] [e]) = .agg [.int .i64 17, .int .i64 k, .bool false, .nils, .nils, .str [], .slc [.agg (exC e)]] := by
 rw [exV_mk, exsV_ne (by simp)]; simp [zr, numV, exV]
theorem unary_step (ts : List Tok) (n : Nat) (H : ∀ m, m ≤ n → PAll ts m) (s0 : PS) (i0 : PInv ts s0) (hn : 40 * rem ts s0 + 5 ≤ n + 1) : PSem 72 [] ts s0 (unaryF ts (n + 1) s0) exV := by
 have X := xInv ts n
 have Hn := H n (Nat.le_refl n)
 obtain ⟨x, hx⟩ : ∃ x, x = unaryF ts (n + 1) s0 := ⟨_, rfl⟩
 rw [← hx]
 rw [unaryF] at hx
 unfold PSem
 refine FSem.enter' (C := C) (n := 39) Tryd.func72 rfl rfl ok_72 (by simp) ?_
 simp only [argEnv]
 refine WC.rs fun K hK => ?_
 simp only [↓EJ, EX, FA, simprocAttr]
 refine hK _ ?_; try clear hK K
 refine WC.trim [0, 2, 3, 4, 11, 21, 29] ?_
 simp only [ET, simprocAttr]
 refine WC.bs fun K0 hK0 => ?_
 refine WC.rs fun K hK => ?_
 simp only [↓EJ, EX, FA, simprocAttr]
 refine CallX.mk (CallW.par (enc := .bool) (accept_sem ts s0 i0 [33]) rfl rfl (by simp only [CL, and_self]) (fun v => by simp only [CL]) (fun b1 s1 h1 => ?_) (fun e s' he => by intros; exact PSem.fails (fn := Tryd.f72) (s := s') (hx.trans (by simp only [he, bnd_error])) rfl rfl))
 simp only [h1, bnd_ok] at hx
 have g1 := acc_ge i0 h1
 have i1 := g1.1
 have r1 := g1.rem
 simp only [↓EJ, EX, FA, simprocAttr]
 refine hK _ ?_; try clear hK K
 refine WC.trim [0, 2, 3, 4, 11, 21, 29] ?_
 simp only [ET, simprocAttr]
 refine WC.cond (c := .tmp 4) rfl (fun h => ?_) (fun h => ?_)
 ·obtain rfl : b1 = true := by simpa using h
  dsimp only at hx
  refine WC.zs [2] (by simp only [cutZ, List.drop_zero, List.drop_succ_cons, List.take_zero, List.take_succ_cons, Option.map_some]; rfl) fun K hK => ?_
  simp only [↓EJ, EX, FA, simprocAttr, EZ]
  refine CallX.mk (CallW.par (enc := exV) (Hn.unary s1 i1 (by have := (acc_up i0 h1).rem; omega)) rfl rfl (by simp only [CL, PCL, and_self]) (fun v => by simp only [CL, PCL, and_self]) (fun e s2 h2 => ?_) (fun e s' he => by intros; exact PSem.fails (fn := Tryd.f72) (s := s') (hx.trans (by simp only [he, bnd_error])) rfl rfl))
  simp only [h2, bnd_ok] at hx
  have g2 := X.unary i1 h2
  have i2 := g2.1
  simp only [↓EJ, EX, FA, simprocAttr, EZ, XS]
  refine hK _ ?_; try clear hK K
  refine WC.trim [0, 2, 3, 4, 11, 21, 29] ?_
  simp only [ET, simprocAttr]
  refine WC.ret ?_
  simp only [↓EJ, EX, FA, simprocAttr, EQ, FnQ, Tryd.results72, wResL, tup, List.reverse_cons, List.reverse_nil, true_and, XS]
  exact PSem.done (fn := Tryd.f72) (s := s2) (v := (exN 5 [e])) hx rfl (of_eq_true (by simp only [CL, PCL, and_self])) rfl
 obtain rfl : b1 = false := by simpa using h
 dsimp only at hx
 refine WC.rs fun K hK => ?_
 simp only [↓EJ, EX, FA, simprocAttr]
 refine CallX.mk (CallW.par (enc := .bool) (accept_sem ts s1 i1 [45]) rfl rfl (by simp only [CL, and_self]) (fun v => by simp only [CL]) (fun b2 s2 h2 => ?_) (fun e s' he => by intros; exact PSem.fails (fn := Tryd.f72) (s := s') (hx.trans (by simp only [he, bnd_error])) rfl rfl))
 simp only [h2, bnd_ok] at hx
 have g2 := acc_ge i1 h2
 have i2 := g2.1
 have r2 := g2.rem
 simp only [↓EJ, EX, FA, simprocAttr]
 refine hK _ ?_; try clear hK K
 refine WC.trim [0, 2, 3, 4, 11, 21, 29] ?_
 simp only [ET, simprocAttr]
 refine WC.cond (c := .tmp 11) rfl (fun h => ?_) (fun h => ?_)
 ·obtain rfl : b2 = true := by simpa using h
  dsimp only at hx
  refine WC.zs [2] (by simp only [cutZ, List.drop_zero, List.drop_succ_cons, List.take_zero, List.take_succ_cons, Option.map_some]; rfl) fun K hK => ?_
  simp only [↓EJ, EX, FA, simprocAttr, EZ]
  refine CallX.mk (CallW.par (enc := exV) (Hn.unary s2 i2 (by have := (acc_up i1 h2).rem; omega)) rfl rfl (by simp only [CL, PCL, and_self]) (fun v => by simp only [CL, PCL, and_self]) (fun e s3 h3 => ?_) (fun e s' he => by intros; exact PSem.fails (fn := Tryd.f72) (s := s') (hx.trans (by simp only [he, bnd_error])) rfl rfl))
  simp only [h3, bnd_ok] at hx
  have g3 := X.unary i2 h3
  have i3 := g3.1
  simp only [↓EJ, EX, FA, simprocAttr, EZ, XS]
  refine hK _ ?_; try clear hK K
  refine WC.trim [0, 2, 3, 4, 11, 21, 29] ?_
  simp only [ET, simprocAttr]
  refine WC.ret ?_
  simp only [↓EJ, EX, FA, simprocAttr, EQ, FnQ, Tryd.results72, wResL, tup, List.reverse_cons, List.reverse_nil, true_and, XS]
  exact PSem.done (fn := Tryd.f72) (s := s3) (v := (exN 11 [e])) hx rfl (of_eq_true (by simp only [CL, PCL, and_self])) rfl
 obtain rfl : b2 = false := by simpa using h
 dsimp only at hx
 refine WC.skip ?_
 try simp only [EQ, reduceIte, Nat.reduceEqDiff]
 refine hK0 _ ?_; try clear hK0 K0
 refine WC.rs fun K hK => ?_
 simp only [↓EJ, EX, FA, simprocAttr]
 refine CallX.mk (CallW.par (enc := exV) (Hn.primary s2 i2 (by omega)) rfl rfl (by simp only [CL, PCL, and_self]) (fun v => by simp only [CL, PCL, and_self]) (fun e s3 h3 => ?_) (fun e s' he => by intros; exact PSem.fails (fn := Tryd.f72) (s := s') (hx.trans (by simp only [he, bnd_error])) rfl rfl))
 simp only [h3, bnd_ok] at hx
 have g3 := X.primary i2 h3
 have i3 := g3.1
 have r3 := g3.rem
 simp only [↓EJ, EX, FA, simprocAttr, XS]
 refine hK _ ?_; try clear hK K
 refine WC.trim [0, 2, 3, 4, 11, 21, 29] ?_
 simp only [ET, simprocAttr]
 refine WC.b1 ?_
 refine WC.loop (X := Nat × Ex × PS) (fun x => ⟨[(3, .ptr (.l 1) 0 0), (2, .ptr (.l 0) 0 0), (0, .ptr (.o 0) 0 0)], [pblk ts x.2.2], [.row [.agg [.int .i64 0, .int .i64 0, .bool false, .nils, .nils, .str [], .nils]] 7 51, .row [.agg (exC x.2.1)] 7 51], []⟩) (fun y => y.1 ≤ n ∧ PInv ts y.2.2 ∧ 40 * rem ts y.2.2 + 4 ≤ y.1 ∧ x = postF ts y.1 y.2.1 y.2.2) (fun x => x.1) (n, e, s3) [0, 1] ⟨Nat.le_refl _, i3, by dsimp only; omega, hx⟩ ?_ ?_
 ·refine ⟨by simp, by simp only [EV, EB, EL, ER, ET, and_self, true_and, and_true, Nat.reduceEqDiff, reduceCtorEq, reduceIte, PRN], by simp only [EV, EB, EL, ER, ET, and_self, true_and, and_true, Nat.reduceEqDiff, reduceCtorEq, reduceIte, PRN], by simp only [EV, EB, EL, ER, ET, and_self, true_and, and_true, Nat.reduceEqDiff, reduceCtorEq, reduceIte, PRN, pick], rfl⟩
 clear hx r1 g1 h1 i1 r2 g2 h2 i2 r3 g3 h3 i3 e s1 s2 s3
 rintro ⟨m, e, s1⟩ ⟨hm, i1, hr, hx⟩
 dsimp only at hm i1 hr hx ⊢
 obtain ⟨m, rfl⟩ : ∃ k, m = k + 1 := ⟨m - 1, by omega⟩
 have Xm := xInv ts m
 rw [postF] at hx
 refine WC.b1 ?_
 refine WC.b1 ?_
 refine WC.rs fun K hK => ?_
 simp only [↓EJ, EX, FA, simprocAttr]
 refine CallX.mk (CallW.par (enc := .bool) (accept_sem ts s1 i1 [46]) rfl rfl (by simp only [CL, and_self]) (fun v => by simp only [CL]) (fun b2 s2 h2 => ?_) (fun e s' he => by intros; exact PSem.fails (fn := Tryd.f72) (s := s') (hx.trans (by simp only [he, bnd_error])) rfl rfl))
 simp only [h2, bnd_ok] at hx
 have g2 := acc_ge i1 h2
 have i2 := g2.1
 have r2 := g2.rem
 simp only [↓EJ, EX, FA, simprocAttr]
 refine hK _ ?_; try clear hK K
 refine WC.trim [0, 2, 3, 4, 11, 21, 29] ?_
 simp only [ET, simprocAttr]
 refine WC.cond (c := .tmp 21) rfl (fun h => ?_) (fun h => ?_)
 ·obtain rfl : b2 = true := by simpa using h
  dsimp only at hx
  refine WC.d1 [⟨0, 0, false, []⟩, ⟨2, 0, true, []⟩, ⟨3, 2, true, []⟩, ⟨1, 1, false, [2, 3]⟩, ⟨4, 0, false, []⟩, ⟨5, 1, false, []⟩] [0, 1, 0, 4, 15, 31] mo (by kernel_rfl) (by simp only [EPl, List.getElem?_cons_zero, List.getElem?_cons_succ]; rfl) ?_
  simp only [↓EJ, EX, FA, simprocAttr, XS, EDz]

  refine CallX.mk (CallW.par (enc := (fun k : Nat => .int .i64 (k : Int))) (number_sem ts s2 i2) rfl rfl (by simp only [CL, PCL, and_self]) (fun v => by simp only [CL, PCL, and_self]) (fun k s3 h3 => ?_) (fun e s' he => by intros; exact PSem.fails (fn := Tryd.f72) (s := s') (hx.trans (by simp only [he, bnd_error])) rfl rfl))
  simp only [h3, bnd_ok] at hx
  have g3 := num_up i2 h3
  have i3 := g3.1
  have r3 := g3.rem
  simp only [↓EJ, EX, FA, simprocAttr, XS]
  try simp only [EQ, reduceIte, Nat.reduceEqDiff]
  refine ⟨(m, .mk 17 k zr [] [e], s3), [0, 1], ⟨by dsimp only; omega, i3, by dsimp only; omega, hx⟩, by dsimp only; omega, ?_⟩
  dsimp only
  have hp : PVal.agg (exC (.mk 17 k zr [] [e])) = .agg [.int .i64 17, .int .i64 k, .bool false, .nils, .nils, .str [], .slc [.agg (exC e)]] := exV_proj k e
  rw [hp]
  refine ⟨by simp, by simp only [EV, EB, EL, ER, ET, and_self, true_and, and_true, Nat.reduceEqDiff, reduceCtorEq, reduceIte, PRN, XS], by simp only [EV, EB, EL, ER, ET, and_self, true_and, and_true, Nat.reduceEqDiff, reduceCtorEq, reduceIte, PRN, XS], by simp only [EV, EB, EL, ER, ET, and_self, true_and, and_true, Nat.reduceEqDiff, reduceCtorEq, reduceIte, PRN, XS, pick], rfl⟩
 obtain rfl : b2 = false := by simpa using h
 dsimp only at hx
 refine WC.rs fun K hK => ?_
 simp only [↓EJ, EX, FA, simprocAttr]
 refine CallX.mk (CallW.par (enc := .bool) (accept_sem ts s2 i2 [91]) rfl rfl (by simp only [CL, and_self]) (fun v => by simp only [CL]) (fun b3 s3 h3 => ?_) (fun e s' he => by intros; exact PSem.fails (fn := Tryd.f72) (s := s') (hx.trans (by simp only [he, bnd_error])) rfl rfl))
 simp only [h3, bnd_ok] at hx
 have g3 := acc_ge i2 h3
 have i3 := g3.1
 have r3 := g3.rem
 simp only [↓EJ, EX, FA, simprocAttr]
 refine hK _ ?_; try clear hK K
 refine WC.trim [0, 2, 3, 4, 11, 21, 29] ?_
 simp only [ET, simprocAttr]
 refine WC.cond (c := .tmp 29) rfl (fun h => ?_) (fun h => ?_)
 ·obtain rfl : b3 = true := by simpa using h
  dsimp only at hx
  refine WC.ds [⟨0, 0, true, []⟩, ⟨1, 0, false, []⟩, ⟨2, 1, false, [0]⟩, ⟨3, 1, false, []⟩, ⟨4, 1, false, []⟩] [0, 0, 2, 7, 15] mo (by kernel_rfl) (by simp only [EPl, List.getElem?_cons_zero, List.getElem?_cons_succ]; rfl) fun K hK => ?_
  simp only [↓EJ, EX, FA, simprocAttr, XS]
  refine CallX.mk (CallW.par (enc := exV) ((H m (by omega)).expr s3 i3 (by have := (acc_up i2 h3).rem; omega)) rfl rfl (by simp only [CL, PCL, and_self]) (fun v => by simp only [CL, PCL, and_self]) (fun k s4 h4 => ?_) (fun e s' he => by intros; exact PSem.fails (fn := Tryd.f72) (s := s') (hx.trans (by simp only [he, bnd_error])) rfl rfl))
  simp only [h4, bnd_ok] at hx
  have g4 := Xm.expr i3 h4
  have i4 := g4.1
  have r4 := g4.rem
  simp only [↓EJ, EX, FA, simprocAttr, XS]
  refine CallX.mk (CallW.pure (binary_sem 21 e k) (by simp only [CL, PCL, and_self]) (by simp only [CL, PCL, and_self]) ?_)
  simp only [↓EJ, EX, FA, simprocAttr, XS]
  refine hK _ ?_; try clear hK K
  refine WC.trim [0, 2, 3, 4, 11, 21, 29] ?_
  simp only [ET, simprocAttr]
  refine WC.z1 [1] (by simp only [cutZ, List.drop_zero, List.drop_succ_cons, List.take_zero, List.take_succ_cons, Option.map_some]; rfl) ?_
  simp only [↓EJ, EX, FA, simprocAttr, EZ]
  refine CallX.mk (CallW.par (enc := fun _ => .tuple []) (expect_sem ts [[93]] s4 i4 (by decide)) rfl rfl (by simp only [CL, List.map_cons, List.map_nil, and_self]) (fun v => by simp only [CL]) (fun u5 s5 h5 => ?_) (fun e s' he => by intros; exact PSem.fails (fn := Tryd.f72) (s := s') (hx.trans (by simp only [he, bnd_error])) rfl rfl))
  simp only [h5, bnd_ok] at hx
  have g5 := exp_up i4 h5
  have i5 := g5.1
  have r5 := g5.rem
  simp only [↓EJ, EX, FA, simprocAttr, EZ]
  try simp only [EQ, reduceIte, Nat.reduceEqDiff]
  refine ⟨(m, exN 21 [e, k], s5), [0, 1], ⟨by dsimp only; omega, i5, by dsimp only; omega, hx⟩, by dsimp only; omega, ?_⟩
  refine ⟨by simp, by simp only [EV, EB, EL, ER, ET, and_self, true_and, and_true, Nat.reduceEqDiff, reduceCtorEq, reduceIte, PRN, XS], by simp only [EV, EB, EL, ER, ET, and_self, true_and, and_true, Nat.reduceEqDiff, reduceCtorEq, reduceIte, PRN, XS], by simp only [EV, EB, EL, ER, ET, and_self, true_and, and_true, Nat.reduceEqDiff, reduceCtorEq, reduceIte, PRN, XS, pick], rfl⟩
 obtain rfl : b3 = false := by simpa using h
 dsimp only at hx
 refine WC.rs fun K hK => ?_
 simp only [↓EJ, EX, FA, simprocAttr, XS]
 refine hK _ ?_; try clear hK K
 refine WC.trim [0, 2, 3, 4, 11, 21, 29] ?_
 simp only [ET, simprocAttr]
 refine WC.ret ?_
 simp only [↓EJ, EX, FA, simprocAttr, EQ, FnQ, Tryd.results72, wResL, tup, List.reverse_cons, List.reverse_nil, true_and, XS]
 exact PSem.done (fn := Tryd.f72) (s := s3) (v := e) hx rfl (of_eq_true (by simp only [CL, PCL, and_self])) rfl
end Go.LexSem
set_option maxHeartbeats 8000000
set_option maxRecDepth 8000
namespace Go.LexSem
open Go Go.V Go.Proofs Go.Num

theorem exVs_append (f : Ref → Ref) (a b : List PVal) : renL f (a ++ b) = renL f a ++ renL f b := by rw [renL_map, renL_map, renL_map, List.map_append]
theorem exprs_step (ts : List Tok) (n : Nat) (H : ∀ m, m ≤ n → PAll ts m) (s0 : PS) (i0 : PInv ts s0) (hn : 40 * rem ts s0 + 36 ≤ n + 1) : PSem 50 [] ts s0 (exprsF ts (n + 1) s0) exsV := by
 have X := xInv ts n
 have Hn := H n (Nat.le_refl n)
 obtain ⟨x, hx⟩ : ∃ x, x = exprsF ts (n + 1) s0 := ⟨_, rfl⟩
 rw [← hx]
 rw [exprsF] at hx
 unfold PSem
 refine FSem.enter' (C := C) (n := 15) Tryd.func50 rfl rfl ok_50 (by simp) ?_
 simp only [argEnv]
 refine WC.rs fun K hK => ?_
 simp only [↓EJ, EX, FA, simprocAttr]
 refine hK _ ?_; try clear hK K
 refine WC.trim [0, 2, 3, 8] ?_
 simp only [ET, simprocAttr]
 refine WC.rs fun K hK => ?_
 simp only [↓EJ, EX, FA, simprocAttr]
 refine CallX.mk (CallW.par (enc := exV) (Hn.expr s0 i0 (by omega)) rfl rfl (by simp only [CL, PCL, and_self]) (fun v => by simp only [CL, PCL, and_self]) (fun e s1 h1 => ?_) (fun e s' he => by intros; exact PSem.fails (fn := Tryd.f50) (s := s') (hx.trans (by simp only [he, bnd_error])) rfl rfl))
 simp only [h1, bnd_ok] at hx
 have g1 := X.expr i0 h1
 have i1 := g1.1
 have r1 := g1.rem
 simp only [↓EJ, EX, FA, simprocAttr, XS]
 refine hK _ ?_; try clear hK K
 refine WC.trim [0, 2, 3, 8] ?_
 simp only [ET, simprocAttr]
 refine WC.bs fun K0 hK0 => ?_
 refine WC.loop (X := Nat × List Ex × PS) (fun x => ⟨[(3, .ref (.l 0) 0 x.2.1.length), (0, .ptr (.o 0) 0 0)], [pblk ts x.2.2], [.row (x.2.1.map exV) 7 51], []⟩) (fun y => y.1 ≤ n ∧ PInv ts y.2.2 ∧ 40 * rem ts y.2.2 + 1 ≤ y.1 ∧ y.2.1 ≠ [] ∧ y.2.1.length ≤ y.2.2.at_ ∧ x = moreF ts y.1 y.2.1 y.2.2) (fun x => x.1) (n, [e], s1) [0] ⟨Nat.le_refl _, i1, by dsimp only; omega, by simp, by have := g1.2; simp only [List.length_cons, List.length_nil]; omega, hx⟩ ?_ ?_
 ·refine ⟨by simp, by simp only [EV, EB, EL, ER, ET, and_self, true_and, and_true, Nat.reduceEqDiff, reduceCtorEq, reduceIte, PRN, XS, List.map_cons, List.map_nil, List.length_cons, List.length_nil], by simp only [EV, EB, EL, ER, ET, and_self, true_and, and_true, Nat.reduceEqDiff, reduceCtorEq, reduceIte, PRN, XS, List.map_cons, List.map_nil, List.length_cons, List.length_nil], by simp only [EV, EB, EL, ER, ET, and_self, true_and, and_true, Nat.reduceEqDiff, reduceCtorEq, reduceIte, PRN, XS, List.map_cons, List.map_nil, List.length_cons, List.length_nil, pick], rfl⟩
 clear hx r1 g1 h1 i1 e s1
 rintro ⟨m, acc, s1⟩ ⟨hm, i1, hr, hne, hlen, hx⟩
 dsimp only at hm i1 hr hne hlen hx ⊢
 obtain ⟨m, rfl⟩ : ∃ k, m = k + 1 := ⟨m - 1, by omega⟩
 have Xm := xInv ts m
 have hle := i1.le
 have hlt := i1.lt
 rw [moreF] at hx
 refine WC.sK fun K3 hK3 => ?_
 refine WC.rs fun K hK => ?_
 simp only [↓EJ, EX, FA, simprocAttr]
 refine CallX.mk (CallW.par (enc := .bool) (accept_sem ts s1 i1 [44]) rfl rfl (by simp only [CL, and_self]) (fun v => by simp only [CL]) (fun b2 s2 h2 => ?_) (fun e s' he => by intros; exact PSem.fails (fn := Tryd.f50) (s := s') (hx.trans (by simp only [he, bnd_error])) rfl rfl))
 simp only [h2, bnd_ok] at hx
 have g2 := acc_ge i1 h2
 have i2 := g2.1
 have r2 := g2.rem
 simp only [↓EJ, EX, FA, simprocAttr]
 refine hK _ ?_; try clear hK K
 refine WC.trim [0, 2, 3, 8] ?_
 simp only [ET, simprocAttr]
 refine WC.cond (c := .tmp 8) rfl (fun h => ?_) (fun h => ?_)
 ·obtain rfl : b2 = true := by simpa using h
  dsimp only at hx
  refine WC.skip ?_
  try simp only [EQ, reduceIte, Nat.reduceEqDiff]
  refine hK3 _ ?_; try clear hK3 K3
  refine WC.b1 ?_
  refine WC.z1 [3] (by simp only [cutZ, List.drop_zero, List.drop_succ_cons, List.take_zero, List.take_succ_cons, Option.map_some]; rfl) ?_
  simp only [↓EJ, EX, FA, simprocAttr, EZ]
  refine CallX.mk (CallW.par (enc := exV) ((H m (by omega)).expr s2 i2 (by have := (acc_up i1 h2).rem; omega)) rfl rfl (by simp only [CL, PCL, and_self]) (fun v => by simp only [CL, PCL, and_self]) (fun e s3 h3 => ?_) (fun e s' he => by intros; exact PSem.fails (fn := Tryd.f50) (s := s') (hx.trans (by simp only [he, bnd_error])) rfl rfl))
  simp only [h3, bnd_ok] at hx
  have g3 := Xm.expr i2 h3
  have i3 := g3.1
  have r3 := g3.rem
  have a2 := g2.2
  have a3 := g3.2
  simp only [↓EJ, EX, FA, simprocAttr, EZ, XS]
  refine ⟨by rw [List.length_map], by omega, by omega, ?_⟩
  try simp only [EQ, reduceIte, Nat.reduceEqDiff]
  refine ⟨(m, acc ++ [e], s3), [1], ⟨by dsimp only; omega, i3, by dsimp only; omega, by simp, by simp only [List.length_append, List.length_cons, List.length_nil]; omega, hx⟩, by dsimp only; omega, ?_⟩
  refine ⟨by simp, by simp only [EV, EB, EL, ER, ET, and_self, true_and, and_true, Nat.reduceEqDiff, reduceCtorEq, reduceIte, PRN, XS, exVs_append, List.map_append, List.map_cons, List.map_nil, List.length_append, List.length_cons, List.length_nil], by simp only [EV, EB, EL, ER, ET, and_self, true_and, and_true, Nat.reduceEqDiff, reduceCtorEq, reduceIte, PRN, XS, exVs_append, List.map_append, List.map_cons, List.map_nil, List.length_append, List.length_cons, List.length_nil], by simp only [EV, EB, EL, ER, ET, and_self, true_and, and_true, Nat.reduceEqDiff, reduceCtorEq, reduceIte, PRN, XS, exVs_append, List.map_append, List.map_cons, List.map_nil, List.length_append, List.length_cons, List.length_nil, pick], rfl⟩
 ·obtain rfl : b2 = false := by simpa using h
  dsimp only at hx
  refine WC.exit ?_
  simp only [EQ, reduceIte, Nat.reduceEqDiff]
  try simp only [EQ, reduceIte, Nat.reduceEqDiff]
  refine hK0 _ ?_; try clear hK0 K0
  refine WC.frz 3 0 rfl rfl (by simp) ?_
  refine WC.rs fun K hK => ?_
  simp only [↓EJ, EX, FA, simprocAttr]
  refine hK _ ?_; try clear hK K
  refine WC.trim [0, 2, 3, 8] ?_
  simp only [ET, simprocAttr]
  refine WC.ret ?_
  simp only [↓EJ, EX, FA, simprocAttr, EQ, FnQ, Tryd.results50, wResL, tup, List.reverse_cons, List.reverse_nil, true_and]
  have hp : PVal.slc (List.take acc.length (List.map exV acc)) = exsV acc := by rw [exsV_ne hne, List.take_of_length_le (by simp)]
  rw [hp]
  exact PSem.done (fn := Tryd.f50) (s := s2) (v := acc) hx rfl (of_eq_true (by simp only [CL, PCL, and_self])) rfl
end Go.LexSem
set_option maxHeartbeats 16000000
set_option maxRecDepth 8000
namespace Go.LexSem
open Go Go.V Go.Proofs Go.Num

theorem exsV_sc : (∀ l, (exsV l).solid = true) ∧ (∀ l, (exsV l).cells = [exsV l]) := by
 constructor <;> intro l <;> cases l <;> simp only [exsV] <;> rfl
theorem gi_0 (x : PVal) (r : List PVal) : gi (x :: r) 0 = x := rfl
theorem numV_ne {n : Nat} (h : n ≠ 0) : numV n = nv n := if_neg h
theorem exV_rat (x d : Nat) (hd : d ≠ 0) : exV (.mk 3 0 (fracN false x d) [] []) = .agg [.int .i64 3, .int .i64 0, .bool (false && decide (x ≠ 0)), numV (x / x.gcd d), nv (d / x.gcd d), .str [], .nils] := by
 have h0 : d / x.gcd d ≠ 0 := by
  have h1 : x.gcd d ≤ d := Nat.gcd_le_right x (by omega)
  have h2 : 0 < x.gcd d := Nat.gcd_pos_of_pos_right x (by omega)
  have := Nat.div_pos h1 h2
  omega
 rw [exV_mk, fracN, exsV_nil, numV_ne h0]; rfl
theorem primary_step (ts : List Tok) (n : Nat) (H : PAll ts n) (s0 : PS) (i0 : PInv ts s0) (hn : 40 * rem ts s0 + 4 ≤ n + 1) : PSem 78 [] ts s0 (primaryF ts (n + 1) s0) exV := by
 have X := xInv ts n
 obtain ⟨x, hx⟩ : ∃ x, x = primaryF ts (n + 1) s0 := ⟨_, rfl⟩
 rw [← hx]
 rw [primaryF] at hx
 unfold PSem
 refine FSem.enter' (C := C) (n := 128) Tryd.func78 rfl rfl ok_78 (by simp) ?_
 simp only [argEnv]
 refine WC.rs fun K hK => ?_
 simp only [↓EJ, EX, FA, simprocAttr]
 refine hK _ ?_; try clear hK K
 refine WC.trim [0, 2, 3, 4, 5, 6, 8, 9, 10, 11, 12, 15, 22, 37, 57, 61, 65, 79, 98, 104, 122] ?_
 simp only [ET, simprocAttr]
 refine WC.rs fun K hK => ?_
 simp only [↓EJ, EX, FA, simprocAttr]
 refine CallX.mk (CallW.one (r := .o 0) (now_sem ts s0 i0) rfl (pblk_closed ts s0) (pblk_closed ts s0) (tkv_closed1 _) (by simp [renL, ren, fCall]) ?_)
 simp only [↓EJ, EX, FA, simprocAttr, tkv_cells, tkv, tk]
 refine hK _ ?_; try clear hK K
 refine WC.trim [0, 2, 3, 4, 5, 6, 8, 9, 10, 11, 12, 15, 22, 37, 57, 61, 65, 79, 98, 104, 122] ?_
 simp only [ET, simprocAttr]
 refine WC.bs fun K0 hK0 => ?_
 refine WC.rs fun K hK => ?_
 simp only [↓EJ, EX, FA, simprocAttr]
 refine hK _ ?_; try clear hK K
 refine WC.trim [0, 2, 3, 4, 5, 6, 8, 9, 10, 11, 12, 15, 22, 37, 57, 61, 65, 79, 98, 104, 122] ?_
 simp only [ET, simprocAttr]
 refine WC.cond (c := .tmp 15) rfl (fun h => ?_) (fun h => ?_)
 ·have hk : (cur ts s0).1 = 1 := by simp at h; omega
  simp only [hk] at hx
  refine WC.rs fun K hK => ?_
  simp only [↓EJ, EX, FA, simprocAttr]
  refine CallX.mk (CallW.par (enc := .str) (name_sem ts s0 i0) rfl rfl (by simp only [CL, PCL, and_self]) (fun v => by simp only [CL, PCL, and_self]) (fun w s1 h1 => ?_) (fun e s' he => by intros; exact PSem.fails (fn := Tryd.f78) (s := s') (hx.trans (by simp only [he, bnd_error])) rfl rfl))
  simp only [h1, bnd_ok] at hx
  have g1 := name_up i0 h1
  have i1 := g1.1
  simp only [↓EJ, EX, FA, simprocAttr]
  refine hK _ ?_; try clear hK K
  refine WC.trim [0, 2, 3, 4, 5, 6, 8, 9, 10, 11, 12, 15, 22, 37, 57, 61, 65, 79, 98, 104, 122] ?_
  simp only [ET, simprocAttr]
  refine WC.ret ?_
  simp only [↓EJ, EX, FA, simprocAttr, EQ, FnQ, Tryd.results78, wResL, tup, List.reverse_cons, List.reverse_nil, true_and]
  exact PSem.done (fn := Tryd.f78) (s := s1) (v := (.mk 4 0 zr w [])) hx rfl (of_eq_true (by simp only [CL, PCL, and_self])) rfl
 have hk1 : (cur ts s0).1 ≠ 1 := by simp at h; omega
 refine WC.rs fun K hK => ?_
 simp only [↓EJ, EX, FA, simprocAttr]
 refine hK _ ?_; try clear hK K
 refine WC.trim [0, 2, 3, 4, 5, 6, 8, 9, 10, 11, 12, 15, 22, 37, 57, 61, 65, 79, 98, 104, 122] ?_
 simp only [ET, simprocAttr]
 refine WC.cond (c := .tmp 22) rfl (fun h => ?_) (fun h => ?_)
 ·have hk : (cur ts s0).1 = 2 := by simp at h; omega
  simp only [hk] at hx
  refine WC.rs fun K hK => ?_
  simp only [↓EJ, EX, FA, simprocAttr]
  refine CallX.mk (CallW.par (enc := nv) (limbs_sem ts s0 i0) rfl rfl (by simp only [CL, PCL, and_self]) (fun v => by simp only [CL, PCL, and_self]) (fun w s1 h1 => ?_) (fun e s' he => by intros; exact PSem.fails (fn := Tryd.f78) (s := s') (hx.trans (by simp only [he, bnd_error])) rfl rfl))
  simp only [h1, bnd_ok] at hx
  have g1 := (fun h => (⟨(limbsF_ok i0 h).1 ▸ i0, Nat.le_of_eq (by rw [(limbsF_ok i0 h).1])⟩ : Ge ts s0 _)) h1
  have i1 := g1.1
  obtain ⟨rfl, _, hw, hok⟩ := limbsF_ok i0 h1
  simp only [↓EJ, EX, FA, simprocAttr]
  refine hK _ ?_; try clear hK K
  refine WC.trim [0, 2, 3, 4, 5, 6, 8, 9, 10, 11, 12, 15, 22, 37, 57, 61, 65, 79, 98, 104, 122] ?_
  simp only [ET, simprocAttr]
  refine WC.sK fun K5 hK5 => ?_
  refine WC.rs fun K hK => ?_
  simp only [↓EJ, EX, FA, simprocAttr]
  refine CallX.mk (CallW.one (r := .o 0) (next_sem ts s1 i1) rfl (pblk_closed ts s1) (pblk_closed ts s1) (tkv_closed1 _) (by simp [renL, ren, fCall]) ?_)
  simp only [↓EJ, EX, FA, simprocAttr, tkv_cells, tkv, tk]
  refine hK _ ?_; try clear hK K
  refine WC.trim [0, 2, 3, 4, 5, 6, 8, 9, 10, 11, 12, 15, 22, 37, 57, 61, 65, 79, 98, 104, 122] ?_
  simp only [ET, simprocAttr]
  have hdiv : isDiv (nxt ts s1) = (decide ((nxt ts s1).1 = 4) && decide ((nxt ts s1).2.1 = [47])) := rfl
  by_cases hk4 : (nxt ts s1).1 = 4
  ·refine WC.rs fun K hK => ?_
   simp only [↓EJ, EX, FA, simprocAttr, hk4, Int.cast_ofNat_Int, Bool.not_true, Bool.not_false]
   refine hK _ ?_; try clear hK K
   refine WC.trim [0, 2, 3, 4, 5, 6, 8, 9, 10, 11, 12, 15, 22, 37, 57, 61, 65, 79, 98, 104, 122] ?_
   simp only [ET, simprocAttr]
   refine WC.cond (c := .tmp 37) rfl (fun h => ?_) (fun h => ?_)
   ·have ht : (nxt ts s1).2.1 ≠ [47] := by simpa using h
    have hdv : isDiv (nxt ts s1) = false := by rw [hdiv]; simp [ht]
    simp only [hdv] at hx
    refine WC.rs fun K hK => ?_
    simp only [↓EJ, EX, FA, simprocAttr]
    refine CallX.mk (CallW.par (enc := (fun k : Nat => .int .i64 (k : Int))) (number_sem ts s1 i0) rfl rfl (by simp only [CL, PCL, and_self]) (fun v => by simp only [CL, PCL, and_self]) (fun k s2 h2 => ?_) (fun e s' he => by intros; exact PSem.fails (fn := Tryd.f78) (s := s') (hx.trans (by simp only [he, bnd_error])) rfl rfl))
    simp only [h2, bnd_ok] at hx
    have g2 := num_up i0 h2
    have i2 := g2.1
    simp only [↓EJ, EX, FA, simprocAttr]
    refine hK _ ?_; try clear hK K
    refine WC.trim [0, 2, 3, 4, 5, 6, 8, 9, 10, 11, 12, 15, 22, 37, 57, 61, 65, 79, 98, 104, 122] ?_
    simp only [ET, simprocAttr]
    refine WC.ret ?_
    simp only [↓EJ, EX, FA, simprocAttr, EQ, FnQ, Tryd.results78, wResL, tup, List.reverse_cons, List.reverse_nil, true_and]
    exact PSem.done (fn := Tryd.f78) (s := s2) (v := (.mk 2 k zr [] [])) hx rfl (of_eq_true (by simp only [CL, PCL, and_self])) rfl
   ·have ht : (nxt ts s1).2.1 = [47] := by simpa using h
    have hdv : isDiv (nxt ts s1) = true := by rw [hdiv]; simp [ht, hk4]
    simp only [hdv] at hx
    refine WC.skip ?_
    try simp only [EQ, reduceIte, Nat.reduceEqDiff]
    refine hK5 _ ?_; try clear hK5 K5
    have hlt := i0.lt
    have hle := i0.le
    obtain ⟨i2, hc2⟩ := nxt_cur i0 (by rw [hk4]; decide)
    have g3 := goS_up i2 (by rw [hc2, hk4]; decide)
    have i3 := g3.1
    refine WC.rs fun K hK => ?_
    simp (maxSteps := 1000000) (disch := omega) only [↓EJ, EX, FA, simprocAttr, w64, wu64, pblk, pcell]
    refine hK _ ?_; try clear hK K
    refine WC.trim [0, 2, 3, 4, 5, 6, 8, 9, 10, 11, 12, 15, 22, 37, 57, 61, 65, 79, 98, 104, 122] ?_
    simp only [ET, simprocAttr]
    have hb : Blk.row [.agg [tks ts, .int .i64 ((s1.at_ : Int) + 2), .int .i64 s1.opn]] 3 44 = pblk ts (goS (goS s1)) := by
     simp only [pblk, pcell, goS]
     rw [show ((s1.at_ + 1 + 1 : Nat) : Int) = (s1.at_ : Int) + 2 by omega]
    rw [hb]
    refine WC.rs fun K hK => ?_
    simp only [↓EJ, EX, FA, simprocAttr]
    refine CallX.mk (CallW.par (enc := nv) (denom_sem ts _ i3) rfl rfl (by simp only [CL, PCL, and_self]) (fun v => by simp only [CL, PCL, and_self]) (fun d s4 h4 => ?_) (fun e s' he => by intros; exact PSem.fails (fn := Tryd.f78) (s := s') (hx.trans (by simp only [he, bnd_error])) rfl rfl))
    simp only [h4, bnd_ok] at hx
    have g4 := (fun h => (⟨(denomF_inv i3 h).1, by have := (denomF_inv i3 h).2.1; omega⟩ : Ge ts (goS (goS s1)) _)) h4
    have i4 := g4.1
    obtain ⟨_, _, hd0, hdk⟩ := denomF_inv i3 h4
    have hm := make_sem false w d hok hdk
    rw [if_neg hd0] at hm
    have hv := exV_rat w d hd0
    unfold fracV at hm
    generalize (false && decide (w ≠ 0)) = nb at hm hv
    have cn := numV_closed (w / w.gcd d)
    generalize numV (w / w.gcd d) = nn at hm hv cn
    have cd := nv_closed (d / w.gcd d)
    generalize nv (d / w.gcd d) = dd at hm hv cd
    simp only [↓EJ, EX, FA, simprocAttr, XS]
    refine CallX.mk (CallW.pure hm (by simp only [CL, nv_closed, and_self]) (by simp only [CL, cn, cd, and_self]) ?_)
    simp only [↓EJ, EX, FA, simprocAttr, XS]
    refine hK _ ?_; try clear hK K
    refine WC.trim [0, 2, 3, 4, 5, 6, 8, 9, 10, 11, 12, 15, 22, 37, 57, 61, 65, 79, 98, 104, 122] ?_
    simp only [ET, simprocAttr]
    refine WC.rs fun K hK => ?_
    simp only [↓EJ, EX, FA, simprocAttr, XS]
    refine hK _ ?_; try clear hK K
    refine WC.trim [0, 2, 3, 4, 5, 6, 8, 9, 10, 11, 12, 15, 22, 37, 57, 61, 65, 79, 98, 104, 122] ?_
    simp only [ET, simprocAttr]
    refine WC.ret ?_
    simp only [↓EJ, EX, FA, simprocAttr, EQ, FnQ, Tryd.results78, wResL, tup, List.reverse_cons, List.reverse_nil, true_and, XS]
    exact PSem.done (fn := Tryd.f78) (s := s4) (v := .mk 3 0 (fracN false w d) [] []) hx hv.symm (exV_closed _) rfl
  ·have i4 : (((nxt ts s1).1 : Nat) : Int) = 4 ↔ False := iff_false_intro (by omega)
   refine WC.rs fun K hK => ?_
   simp only [↓EJ, EX, FA, simprocAttr, i4, Bool.not_true, Bool.not_false]
   refine hK _ ?_; try clear hK K
   refine WC.trim [0, 2, 3, 4, 5, 6, 8, 9, 10, 11, 12, 15, 22, 37, 57, 61, 65, 79, 98, 104, 122] ?_
   simp only [ET, simprocAttr]
   refine WC.cond (c := .tmp 37) rfl (fun h => ?_) (fun h => ?_)
   rotate_left
   ·simp at h
   have hdv : isDiv (nxt ts s1) = false := by rw [hdiv]; simp [hk4]
   simp only [hdv] at hx
   refine WC.rs fun K hK => ?_
   simp only [↓EJ, EX, FA, simprocAttr]
   refine CallX.mk (CallW.par (enc := (fun k : Nat => .int .i64 (k : Int))) (number_sem ts s1 i0) rfl rfl (by simp only [CL, PCL, and_self]) (fun v => by simp only [CL, PCL, and_self]) (fun k s2 h2 => ?_) (fun e s' he => by intros; exact PSem.fails (fn := Tryd.f78) (s := s') (hx.trans (by simp only [he, bnd_error])) rfl rfl))
   simp only [h2, bnd_ok] at hx
   have g2 := num_up i0 h2
   have i2 := g2.1
   simp only [↓EJ, EX, FA, simprocAttr]
   refine hK _ ?_; try clear hK K
   refine WC.trim [0, 2, 3, 4, 5, 6, 8, 9, 10, 11, 12, 15, 22, 37, 57, 61, 65, 79, 98, 104, 122] ?_
   simp only [ET, simprocAttr]
   refine WC.ret ?_
   simp only [↓EJ, EX, FA, simprocAttr, EQ, FnQ, Tryd.results78, wResL, tup, List.reverse_cons, List.reverse_nil, true_and]
   exact PSem.done (fn := Tryd.f78) (s := s2) (v := (.mk 2 k zr [] [])) hx rfl (of_eq_true (by simp only [CL, PCL, and_self])) rfl
 have hk2 : (cur ts s0).1 ≠ 2 := by simp at h; omega
 split at hx
 ·exact absurd ‹_› hk1
 ·exact absurd ‹_› hk2
 refine WC.rs fun K hK => ?_
 simp only [↓EJ, EX, FA, simprocAttr]
 refine CallX.mk (CallW.par (enc := .bool) (accept_sem ts s0 i0 [116, 114, 117, 101]) rfl rfl (by simp only [CL, and_self]) (fun v => by simp only [CL]) (fun b1 s1 h1 => ?_) (fun e s' he => by intros; exact PSem.fails (fn := Tryd.f78) (s := s') (hx.trans (by simp only [he, bnd_error])) rfl rfl))
 simp only [h1, bnd_ok] at hx
 have g1 := acc_ge i0 h1
 have i1 := g1.1
 have r1 := g1.rem
 simp only [↓EJ, EX, FA, simprocAttr]
 refine hK _ ?_; try clear hK K
 refine WC.trim [0, 2, 3, 4, 5, 6, 8, 9, 10, 11, 12, 15, 22, 37, 57, 61, 65, 79, 98, 104, 122] ?_
 simp only [ET, simprocAttr]
 refine WC.cond (c := .tmp 57) rfl (fun h => ?_) (fun h => ?_)
 ·obtain rfl : b1 = true := by simpa using h
  dsimp only at hx
  have q1 := (acc_up i0 h1).rem
  refine WC.rs fun K hK => ?_
  simp only [↓EJ, EX, FA, simprocAttr, XS]
  refine hK _ ?_; try clear hK K
  refine WC.trim [0, 2, 3, 4, 5, 6, 8, 9, 10, 11, 12, 15, 22, 37, 57, 61, 65, 79, 98, 104, 122] ?_
  simp only [ET, simprocAttr]
  refine WC.ret ?_
  simp only [↓EJ, EX, FA, simprocAttr, EQ, FnQ, Tryd.results78, wResL, tup, List.reverse_cons, List.reverse_nil, true_and, XS]
  exact PSem.done (fn := Tryd.f78) (s := s1) (v := (.mk 1 1 zr [] [])) hx rfl (of_eq_true (by simp only [CL, PCL, and_self])) rfl
 obtain rfl : b1 = false := by simpa using h
 dsimp only at hx
 refine WC.rs fun K hK => ?_
 simp only [↓EJ, EX, FA, simprocAttr]
 refine CallX.mk (CallW.par (enc := .bool) (accept_sem ts s1 i1 [102, 97, 108, 115, 101]) rfl rfl (by simp only [CL, and_self]) (fun v => by simp only [CL]) (fun b2 s2 h2 => ?_) (fun e s' he => by intros; exact PSem.fails (fn := Tryd.f78) (s := s') (hx.trans (by simp only [he, bnd_error])) rfl rfl))
 simp only [h2, bnd_ok] at hx
 have g2 := acc_ge i1 h2
 have i2 := g2.1
 have r2 := g2.rem
 simp only [↓EJ, EX, FA, simprocAttr]
 refine hK _ ?_; try clear hK K
 refine WC.trim [0, 2, 3, 4, 5, 6, 8, 9, 10, 11, 12, 15, 22, 37, 57, 61, 65, 79, 98, 104, 122] ?_
 simp only [ET, simprocAttr]
 refine WC.cond (c := .tmp 61) rfl (fun h => ?_) (fun h => ?_)
 ·obtain rfl : b2 = true := by simpa using h
  dsimp only at hx
  have q2 := (acc_up i1 h2).rem
  refine WC.rs fun K hK => ?_
  simp only [↓EJ, EX, FA, simprocAttr, XS]
  refine hK _ ?_; try clear hK K
  refine WC.trim [0, 2, 3, 4, 5, 6, 8, 9, 10, 11, 12, 15, 22, 37, 57, 61, 65, 79, 98, 104, 122] ?_
  simp only [ET, simprocAttr]
  refine WC.ret ?_
  simp only [↓EJ, EX, FA, simprocAttr, EQ, FnQ, Tryd.results78, wResL, tup, List.reverse_cons, List.reverse_nil, true_and, XS]
  exact PSem.done (fn := Tryd.f78) (s := s2) (v := (.mk 1 0 zr [] [])) hx rfl (of_eq_true (by simp only [CL, PCL, and_self])) rfl
 obtain rfl : b2 = false := by simpa using h
 dsimp only at hx
 refine WC.rs fun K hK => ?_
 simp only [↓EJ, EX, FA, simprocAttr]
 refine CallX.mk (CallW.par (enc := .bool) (accept_sem ts s2 i2 [108, 101, 110]) rfl rfl (by simp only [CL, and_self]) (fun v => by simp only [CL]) (fun b3 s3 h3 => ?_) (fun e s' he => by intros; exact PSem.fails (fn := Tryd.f78) (s := s') (hx.trans (by simp only [he, bnd_error])) rfl rfl))
 simp only [h3, bnd_ok] at hx
 have g3 := acc_ge i2 h3
 have i3 := g3.1
 have r3 := g3.rem
 simp only [↓EJ, EX, FA, simprocAttr]
 refine hK _ ?_; try clear hK K
 refine WC.trim [0, 2, 3, 4, 5, 6, 8, 9, 10, 11, 12, 15, 22, 37, 57, 61, 65, 79, 98, 104, 122] ?_
 simp only [ET, simprocAttr]
 refine WC.cond (c := .tmp 65) rfl (fun h => ?_) (fun h => ?_)
 ·obtain rfl : b3 = true := by simpa using h
  dsimp only at hx
  have q3 := (acc_up i2 h3).rem
  refine WC.zs [1] (by simp only [cutZ, List.drop_zero, List.drop_succ_cons, List.take_zero, List.take_succ_cons, Option.map_some]; rfl) fun K hK => ?_
  simp only [↓EJ, EX, FA, simprocAttr, EZ]
  refine CallX.mk (CallW.par (enc := fun _ => .tuple []) (expect_sem ts [[40]] s3 i3 (by decide)) rfl rfl (by simp only [CL, List.map_cons, List.map_nil, and_self]) (fun v => by simp only [CL]) (fun u11 s11 h11 => ?_) (fun e s' he => by intros; exact PSem.fails (fn := Tryd.f78) (s := s') (hx.trans (by simp only [he, bnd_error])) rfl rfl))
  simp only [h11, bnd_ok] at hx
  have g11 := exp_up i3 h11
  have i11 := g11.1
  have r11 := g11.rem
  simp only [↓EJ, EX, FA, simprocAttr, EZ]
  refine hK _ ?_; try clear hK K
  refine WC.trim [0, 2, 3, 4, 5, 6, 8, 9, 10, 11, 12, 15, 22, 37, 57, 61, 65, 79, 98, 104, 122] ?_
  simp only [ET, simprocAttr]
  refine WC.zs [2] (by simp only [cutZ, List.drop_zero, List.drop_succ_cons, List.take_zero, List.take_succ_cons, Option.map_some]; rfl) fun K hK => ?_
  simp only [↓EJ, EX, FA, simprocAttr, EZ]
  refine CallX.mk (CallW.par (enc := exV) (H.expr s11 i11 (by omega)) rfl rfl (by simp only [CL, PCL, and_self]) (fun v => by simp only [CL, PCL, and_self]) (fun e s12 h12 => ?_) (fun e s' he => by intros; exact PSem.fails (fn := Tryd.f78) (s := s') (hx.trans (by simp only [he, bnd_error])) rfl rfl))
  simp only [h12, bnd_ok] at hx
  have g12 := X.expr i11 h12
  have i12 := g12.1
  simp only [↓EJ, EX, FA, simprocAttr, EZ, XS]
  refine hK _ ?_; try clear hK K
  refine WC.trim [0, 2, 3, 4, 5, 6, 8, 9, 10, 11, 12, 15, 22, 37, 57, 61, 65, 79, 98, 104, 122] ?_
  simp only [ET, simprocAttr]
  refine WC.zs [1] (by simp only [cutZ, List.drop_zero, List.drop_succ_cons, List.take_zero, List.take_succ_cons, Option.map_some]; rfl) fun K hK => ?_
  simp only [↓EJ, EX, FA, simprocAttr, EZ]
  refine CallX.mk (CallW.par (enc := fun _ => .tuple []) (expect_sem ts [[41]] s12 i12 (by decide)) rfl rfl (by simp only [CL, List.map_cons, List.map_nil, and_self]) (fun v => by simp only [CL]) (fun u13 s13 h13 => ?_) (fun e s' he => by intros; exact PSem.fails (fn := Tryd.f78) (s := s') (hx.trans (by simp only [he, bnd_error])) rfl rfl))
  simp only [h13, bnd_ok] at hx
  have g13 := exp_up i12 h13
  have i13 := g13.1
  simp only [↓EJ, EX, FA, simprocAttr, EZ]
  refine hK _ ?_; try clear hK K
  refine WC.trim [0, 2, 3, 4, 5, 6, 8, 9, 10, 11, 12, 15, 22, 37, 57, 61, 65, 79, 98, 104, 122] ?_
  simp only [ET, simprocAttr]
  refine WC.rs fun K hK => ?_
  simp only [↓EJ, EX, FA, simprocAttr, XS]
  refine hK _ ?_; try clear hK K
  refine WC.trim [0, 2, 3, 4, 5, 6, 8, 9, 10, 11, 12, 15, 22, 37, 57, 61, 65, 79, 98, 104, 122] ?_
  simp only [ET, simprocAttr]
  refine WC.ret ?_
  simp only [↓EJ, EX, FA, simprocAttr, EQ, FnQ, Tryd.results78, wResL, tup, List.reverse_cons, List.reverse_nil, true_and, XS]
  exact PSem.done (fn := Tryd.f78) (s := s13) (v := (exN 20 [e])) hx rfl (of_eq_true (by simp only [CL, PCL, and_self])) rfl
 obtain rfl : b3 = false := by simpa using h
 dsimp only at hx
 refine WC.rs fun K hK => ?_
 simp only [↓EJ, EX, FA, simprocAttr]
 refine CallX.mk (CallW.par (enc := .bool) (accept_sem ts s3 i3 [112, 117, 115, 104]) rfl rfl (by simp only [CL, and_self]) (fun v => by simp only [CL]) (fun b4 s4 h4 => ?_) (fun e s' he => by intros; exact PSem.fails (fn := Tryd.f78) (s := s') (hx.trans (by simp only [he, bnd_error])) rfl rfl))
 simp only [h4, bnd_ok] at hx
 have g4 := acc_ge i3 h4
 have i4 := g4.1
 have r4 := g4.rem
 simp only [↓EJ, EX, FA, simprocAttr]
 refine hK _ ?_; try clear hK K
 refine WC.trim [0, 2, 3, 4, 5, 6, 8, 9, 10, 11, 12, 15, 22, 37, 57, 61, 65, 79, 98, 104, 122] ?_
 simp only [ET, simprocAttr]
 refine WC.cond (c := .tmp 79) rfl (fun h => ?_) (fun h => ?_)
 ·obtain rfl : b4 = true := by simpa using h
  dsimp only at hx
  have q4 := (acc_up i3 h4).rem
  refine WC.zs [1] (by simp only [cutZ, List.drop_zero, List.drop_succ_cons, List.take_zero, List.take_succ_cons, Option.map_some]; rfl) fun K hK => ?_
  simp only [↓EJ, EX, FA, simprocAttr, EZ]
  refine CallX.mk (CallW.par (enc := fun _ => .tuple []) (expect_sem ts [[40]] s4 i4 (by decide)) rfl rfl (by simp only [CL, List.map_cons, List.map_nil, and_self]) (fun v => by simp only [CL]) (fun u11 s11 h11 => ?_) (fun e s' he => by intros; exact PSem.fails (fn := Tryd.f78) (s := s') (hx.trans (by simp only [he, bnd_error])) rfl rfl))
  simp only [h11, bnd_ok] at hx
  have g11 := exp_up i4 h11
  have i11 := g11.1
  have r11 := g11.rem
  simp only [↓EJ, EX, FA, simprocAttr, EZ]
  refine hK _ ?_; try clear hK K
  refine WC.trim [0, 2, 3, 4, 5, 6, 8, 9, 10, 11, 12, 15, 22, 37, 57, 61, 65, 79, 98, 104, 122] ?_
  simp only [ET, simprocAttr]
  refine WC.rs fun K hK => ?_
  simp only [↓EJ, EX, FA, simprocAttr]
  refine CallX.mk (CallW.par (enc := exV) (H.expr s11 i11 (by omega)) rfl rfl (by simp only [CL, PCL, and_self]) (fun v => by simp only [CL, PCL, and_self]) (fun e s12 h12 => ?_) (fun e s' he => by intros; exact PSem.fails (fn := Tryd.f78) (s := s') (hx.trans (by simp only [he, bnd_error])) rfl rfl))
  simp only [h12, bnd_ok] at hx
  have g12 := X.expr i11 h12
  have i12 := g12.1
  have r12 := g12.rem
  simp only [↓EJ, EX, FA, simprocAttr, XS]
  refine hK _ ?_; try clear hK K
  refine WC.trim [0, 2, 3, 4, 5, 6, 8, 9, 10, 11, 12, 15, 22, 37, 57, 61, 65, 79, 98, 104, 122] ?_
  simp only [ET, simprocAttr]
  refine WC.zs [1] (by simp only [cutZ, List.drop_zero, List.drop_succ_cons, List.take_zero, List.take_succ_cons, Option.map_some]; rfl) fun K hK => ?_
  simp only [↓EJ, EX, FA, simprocAttr, EZ]
  refine CallX.mk (CallW.par (enc := fun _ => .tuple []) (expect_sem ts [[44]] s12 i12 (by decide)) rfl rfl (by simp only [CL, List.map_cons, List.map_nil, and_self]) (fun v => by simp only [CL]) (fun u13 s13 h13 => ?_) (fun e s' he => by intros; exact PSem.fails (fn := Tryd.f78) (s := s') (hx.trans (by simp only [he, bnd_error])) rfl rfl))
  simp only [h13, bnd_ok] at hx
  have g13 := exp_up i12 h13
  have i13 := g13.1
  have r13 := g13.rem
  simp only [↓EJ, EX, FA, simprocAttr, EZ]
  refine hK _ ?_; try clear hK K
  refine WC.trim [0, 2, 3, 4, 5, 6, 8, 9, 10, 11, 12, 15, 22, 37, 57, 61, 65, 79, 98, 104, 122] ?_
  simp only [ET, simprocAttr]
  refine WC.ts [(0, 0), (1, 0), (2, 1), (3, 1), (4, 1), (5, 1)] (.st ⟨0, 0, true, []⟩ (.st ⟨1, 0, true, []⟩ (.two ⟨2, 1, false, [0]⟩ (.two ⟨3, 1, false, []⟩ (.leaf [⟨4, 1, false, [0, 1]⟩, ⟨5, 1, false, []⟩]) ⟨4, 1, false, [0, 1]⟩ (.leaf [⟨3, 1, false, []⟩, ⟨5, 1, false, []⟩])) ⟨4, 1, false, [0, 1]⟩ (.leaf [⟨2, 1, false, [0]⟩, ⟨3, 1, false, []⟩, ⟨5, 1, false, []⟩])))) [0, 0, 2, 7, 0, 31] mo (by kernel_rfl) (by simp only [EPt, EPl, List.getElem?_cons_zero, List.getElem?_cons_succ]; rfl) fun K hK => ?_
  simp only [↓EJ, EX, FA, simprocAttr, EDt, XS]
  refine ⟨?_, ?_⟩
  ·refine CallX.mk (CallW.par (enc := exV) (H.expr s13 i13 (by omega)) rfl rfl (by simp only [CL, PCL, and_self]) (fun v => by simp only [CL, PCL, and_self]) (fun e2 s14 h14 => ?_) (fun e s' he => by intros; exact PSem.fails (fn := Tryd.f78) (s := s') (hx.trans (by simp only [he, bnd_error])) rfl rfl))
   simp only [h14, bnd_ok] at hx
   have g14 := X.expr i13 h14
   have i14 := g14.1
   simp only [↓EJ, EX, FA, simprocAttr, XS]
   refine ⟨?_, ?_⟩
   ·refine CallX.mk (CallW.pure (binary_sem 19 e e2) (by simp only [CL, PCL, and_self]) (by simp only [CL, PCL, and_self]) ?_)
    simp only [↓EJ, EX, FA, simprocAttr, XS]
    refine hK _ ?_; try clear hK K
    refine WC.trim [0, 2, 3, 4, 5, 6, 8, 9, 10, 11, 12, 15, 22, 37, 57, 61, 65, 79, 98, 104, 122] ?_
    simp only [ET, simprocAttr]
    refine WC.zs [1] (by simp only [cutZ, List.drop_zero, List.drop_succ_cons, List.take_zero, List.take_succ_cons, Option.map_some]; rfl) fun K hK => ?_
    simp only [↓EJ, EX, FA, simprocAttr, EZ]
    refine CallX.mk (CallW.par (enc := fun _ => .tuple []) (expect_sem ts [[41]] s14 i14 (by decide)) rfl rfl (by simp only [CL, List.map_cons, List.map_nil, and_self]) (fun v => by simp only [CL]) (fun u15 s15 h15 => ?_) (fun e s' he => by intros; exact PSem.fails (fn := Tryd.f78) (s := s') (hx.trans (by simp only [he, bnd_error])) rfl rfl))
    simp only [h15, bnd_ok] at hx
    have g15 := exp_up i14 h15
    have i15 := g15.1
    simp only [↓EJ, EX, FA, simprocAttr, EZ]
    refine hK _ ?_; try clear hK K
    refine WC.trim [0, 2, 3, 4, 5, 6, 8, 9, 10, 11, 12, 15, 22, 37, 57, 61, 65, 79, 98, 104, 122] ?_
    simp only [ET, simprocAttr]
    refine WC.rs fun K hK => ?_
    simp only [↓EJ, EX, FA, simprocAttr, XS]
    refine hK _ ?_; try clear hK K
    refine WC.trim [0, 2, 3, 4, 5, 6, 8, 9, 10, 11, 12, 15, 22, 37, 57, 61, 65, 79, 98, 104, 122] ?_
    simp only [ET, simprocAttr]
    refine WC.ret ?_
    simp only [↓EJ, EX, FA, simprocAttr, EQ, FnQ, Tryd.results78, wResL, tup, List.reverse_cons, List.reverse_nil, true_and, XS]
    exact PSem.done (fn := Tryd.f78) (s := s15) (v := (exN 19 [e, e2])) hx rfl (of_eq_true (by simp only [CL, PCL, and_self])) rfl
   ·refine CallX.mk (CallW.pure (binary_sem 19 e e2) (by simp only [CL, PCL, and_self]) (by simp only [CL, PCL, and_self]) ?_)
    simp only [↓EJ, EX, FA, simprocAttr, XS]
    refine hK _ ?_; try clear hK K
    refine WC.trim [0, 2, 3, 4, 5, 6, 8, 9, 10, 11, 12, 15, 22, 37, 57, 61, 65, 79, 98, 104, 122] ?_
    simp only [ET, simprocAttr]
    refine WC.zs [1] (by simp only [cutZ, List.drop_zero, List.drop_succ_cons, List.take_zero, List.take_succ_cons, Option.map_some]; rfl) fun K hK => ?_
    simp only [↓EJ, EX, FA, simprocAttr, EZ]
    refine CallX.mk (CallW.par (enc := fun _ => .tuple []) (expect_sem ts [[41]] s14 i14 (by decide)) rfl rfl (by simp only [CL, List.map_cons, List.map_nil, and_self]) (fun v => by simp only [CL]) (fun u15 s15 h15 => ?_) (fun e s' he => by intros; exact PSem.fails (fn := Tryd.f78) (s := s') (hx.trans (by simp only [he, bnd_error])) rfl rfl))
    simp only [h15, bnd_ok] at hx
    have g15 := exp_up i14 h15
    have i15 := g15.1
    simp only [↓EJ, EX, FA, simprocAttr, EZ]
    refine hK _ ?_; try clear hK K
    refine WC.trim [0, 2, 3, 4, 5, 6, 8, 9, 10, 11, 12, 15, 22, 37, 57, 61, 65, 79, 98, 104, 122] ?_
    simp only [ET, simprocAttr]
    refine WC.rs fun K hK => ?_
    simp only [↓EJ, EX, FA, simprocAttr, XS]
    refine hK _ ?_; try clear hK K
    refine WC.trim [0, 2, 3, 4, 5, 6, 8, 9, 10, 11, 12, 15, 22, 37, 57, 61, 65, 79, 98, 104, 122] ?_
    simp only [ET, simprocAttr]
    refine WC.ret ?_
    simp only [↓EJ, EX, FA, simprocAttr, EQ, FnQ, Tryd.results78, wResL, tup, List.reverse_cons, List.reverse_nil, true_and, XS]
    exact PSem.done (fn := Tryd.f78) (s := s15) (v := (exN 19 [e, e2])) hx rfl (of_eq_true (by simp only [CL, PCL, and_self])) rfl
  ·refine CallX.mk (CallW.par (enc := exV) (H.expr s13 i13 (by omega)) rfl rfl (by simp only [CL, PCL, and_self]) (fun v => by simp only [CL, PCL, and_self]) (fun e2 s14 h14 => ?_) (fun e s' he => by intros; exact PSem.fails (fn := Tryd.f78) (s := s') (hx.trans (by simp only [he, bnd_error])) rfl rfl))
   simp only [h14, bnd_ok] at hx
   have g14 := X.expr i13 h14
   have i14 := g14.1
   simp only [↓EJ, EX, FA, simprocAttr, XS]
   refine CallX.mk (CallW.pure (binary_sem 19 e e2) (by simp only [CL, PCL, and_self]) (by simp only [CL, PCL, and_self]) ?_)
   simp only [↓EJ, EX, FA, simprocAttr, XS]
   refine hK _ ?_; try clear hK K
   refine WC.trim [0, 2, 3, 4, 5, 6, 8, 9, 10, 11, 12, 15, 22, 37, 57, 61, 65, 79, 98, 104, 122] ?_
   simp only [ET, simprocAttr]
   refine WC.zs [1] (by simp only [cutZ, List.drop_zero, List.drop_succ_cons, List.take_zero, List.take_succ_cons, Option.map_some]; rfl) fun K hK => ?_
   simp only [↓EJ, EX, FA, simprocAttr, EZ]
   refine CallX.mk (CallW.par (enc := fun _ => .tuple []) (expect_sem ts [[41]] s14 i14 (by decide)) rfl rfl (by simp only [CL, List.map_cons, List.map_nil, and_self]) (fun v => by simp only [CL]) (fun u15 s15 h15 => ?_) (fun e s' he => by intros; exact PSem.fails (fn := Tryd.f78) (s := s') (hx.trans (by simp only [he, bnd_error])) rfl rfl))
   simp only [h15, bnd_ok] at hx
   have g15 := exp_up i14 h15
   have i15 := g15.1
   simp only [↓EJ, EX, FA, simprocAttr, EZ]
   refine hK _ ?_; try clear hK K
   refine WC.trim [0, 2, 3, 4, 5, 6, 8, 9, 10, 11, 12, 15, 22, 37, 57, 61, 65, 79, 98, 104, 122] ?_
   simp only [ET, simprocAttr]
   refine WC.rs fun K hK => ?_
   simp only [↓EJ, EX, FA, simprocAttr, XS]
   refine hK _ ?_; try clear hK K
   refine WC.trim [0, 2, 3, 4, 5, 6, 8, 9, 10, 11, 12, 15, 22, 37, 57, 61, 65, 79, 98, 104, 122] ?_
   simp only [ET, simprocAttr]
   refine WC.ret ?_
   simp only [↓EJ, EX, FA, simprocAttr, EQ, FnQ, Tryd.results78, wResL, tup, List.reverse_cons, List.reverse_nil, true_and, XS]
   exact PSem.done (fn := Tryd.f78) (s := s15) (v := (exN 19 [e, e2])) hx rfl (of_eq_true (by simp only [CL, PCL, and_self])) rfl
 obtain rfl : b4 = false := by simpa using h
 dsimp only at hx
 refine WC.rs fun K hK => ?_
 simp only [↓EJ, EX, FA, simprocAttr]
 refine CallX.mk (CallW.par (enc := .bool) (accept_sem ts s4 i4 [91]) rfl rfl (by simp only [CL, and_self]) (fun v => by simp only [CL]) (fun b5 s5 h5 => ?_) (fun e s' he => by intros; exact PSem.fails (fn := Tryd.f78) (s := s') (hx.trans (by simp only [he, bnd_error])) rfl rfl))
 simp only [h5, bnd_ok] at hx
 have g5 := acc_ge i4 h5
 have i5 := g5.1
 have r5 := g5.rem
 simp only [↓EJ, EX, FA, simprocAttr]
 refine hK _ ?_; try clear hK K
 refine WC.trim [0, 2, 3, 4, 5, 6, 8, 9, 10, 11, 12, 15, 22, 37, 57, 61, 65, 79, 98, 104, 122] ?_
 simp only [ET, simprocAttr]
 refine WC.cond (c := .tmp 98) rfl (fun h => ?_) (fun h => ?_)
 ·obtain rfl : b5 = true := by simpa using h
  dsimp only at hx
  have q5 := (acc_up i4 h5).rem
  refine WC.rs fun K hK => ?_
  simp only [↓EJ, EX, FA, simprocAttr, XS]
  refine hK _ ?_; try clear hK K
  refine WC.trim [0, 2, 3, 4, 5, 6, 8, 9, 10, 11, 12, 15, 22, 37, 57, 61, 65, 79, 98, 104, 122] ?_
  simp only [ET, simprocAttr]
  refine WC.sK fun K6 hK6 => ?_
  cases hp : isP ts s5 [93] with
  | true =>
    simp only [hp] at hx
    refine WC.rs fun K hK => ?_
    simp only [↓EJ, EX, FA, simprocAttr]
    refine CallX.mk (CallW.one (r := .o 0) (is_sem ts s5 i5 [93]) rfl (pblk_closed ts s5) (pblk_closed ts s5) (by simp only [CL]) (by simp [renL, ren, fCall]) ?_)
    rw [hp]
    simp only [↓EJ, EX, FA, simprocAttr]
    refine hK _ ?_; try clear hK K
    refine WC.trim [0, 2, 3, 4, 5, 6, 8, 9, 10, 11, 12, 15, 22, 37, 57, 61, 65, 79, 98, 104, 122] ?_
    simp only [ET, simprocAttr]
    refine WC.cond (c := .tmp 104) rfl (fun h => ?_) (fun h => ?_)
    ·simp at h
    refine WC.skip ?_
    try simp only [EQ, reduceIte, Nat.reduceEqDiff]
    refine hK6 _ ?_; try clear hK6 K6
    refine WC.zs [1] (by simp only [cutZ, List.drop_zero, List.drop_succ_cons, List.take_zero, List.take_succ_cons, Option.map_some]; rfl) fun K hK => ?_
    simp only [↓EJ, EX, FA, simprocAttr, EZ]
    refine CallX.mk (CallW.par (enc := fun _ => .tuple []) (expect_sem ts [[93]] s5 i5 (by decide)) rfl rfl (by simp only [CL, List.map_cons, List.map_nil, and_self]) (fun v => by simp only [CL]) (fun u11 s11 h11 => ?_) (fun e s' he => by intros; exact PSem.fails (fn := Tryd.f78) (s := s') (hx.trans (by simp only [he, bnd_error])) rfl rfl))
    simp only [h11, bnd_ok] at hx
    have g11 := exp_up i5 h11
    have i11 := g11.1
    simp only [↓EJ, EX, FA, simprocAttr, EZ]
    refine hK _ ?_; try clear hK K
    refine WC.trim [0, 2, 3, 4, 5, 6, 8, 9, 10, 11, 12, 15, 22, 37, 57, 61, 65, 79, 98, 104, 122] ?_
    simp only [ET, simprocAttr]
    refine WC.rs fun K hK => ?_
    simp only [↓EJ, EX, FA, simprocAttr, XS]
    refine hK _ ?_; try clear hK K
    refine WC.trim [0, 2, 3, 4, 5, 6, 8, 9, 10, 11, 12, 15, 22, 37, 57, 61, 65, 79, 98, 104, 122] ?_
    simp only [ET, simprocAttr]
    refine WC.ret ?_
    simp only [↓EJ, EX, FA, simprocAttr, EQ, FnQ, Tryd.results78, wResL, tup, List.reverse_cons, List.reverse_nil, true_and, XS]
    exact PSem.done (fn := Tryd.f78) (s := s11) (v := (exN 18 [])) hx rfl (of_eq_true (by simp only [CL, PCL, and_self])) rfl
  | false =>
    simp only [hp] at hx
    refine WC.rs fun K hK => ?_
    simp only [↓EJ, EX, FA, simprocAttr]
    refine CallX.mk (CallW.one (r := .o 0) (is_sem ts s5 i5 [93]) rfl (pblk_closed ts s5) (pblk_closed ts s5) (by simp only [CL]) (by simp [renL, ren, fCall]) ?_)
    rw [hp]
    simp only [↓EJ, EX, FA, simprocAttr]
    refine hK _ ?_; try clear hK K
    refine WC.trim [0, 2, 3, 4, 5, 6, 8, 9, 10, 11, 12, 15, 22, 37, 57, 61, 65, 79, 98, 104, 122] ?_
    simp only [ET, simprocAttr]
    refine WC.cond (c := .tmp 104) rfl (fun h => ?_) (fun h => ?_)
    rotate_left
    ·simp at h
    refine WC.r1 ?_
    simp only [↓EJ, EX, FA, simprocAttr]
    refine CallX.mk (CallW.par (enc := exsV) (H.exprs s5 i5 (by omega)) rfl rfl (by simp only [CL, PCL, and_self]) (fun v => by simp only [CL, PCL, and_self]) (fun l s11 h11 => ?_) (fun e s' he => by intros; exact PSem.fails (fn := Tryd.f78) (s := s') (hx.trans (by simp only [he, bnd_error])) rfl rfl))
    simp only [h11, bnd_ok] at hx
    have g11 := And.left <| X.exprs i5 h11
    have i11 := g11.1
    simp only [↓EJ, EX, FA, simprocAttr, XS, exsV_sc]
    try simp only [EQ, reduceIte, Nat.reduceEqDiff]
    refine hK6 _ ?_; try clear hK6 K6
    refine WC.zs [1] (by simp only [cutZ, List.drop_zero, List.drop_succ_cons, List.take_zero, List.take_succ_cons, Option.map_some]; rfl) fun K hK => ?_
    simp only [↓EJ, EX, FA, simprocAttr, EZ]
    refine CallX.mk (CallW.par (enc := fun _ => .tuple []) (expect_sem ts [[93]] s11 i11 (by decide)) rfl rfl (by simp only [CL, List.map_cons, List.map_nil, and_self]) (fun v => by simp only [CL]) (fun u12 s12 h12 => ?_) (fun e s' he => by intros; exact PSem.fails (fn := Tryd.f78) (s := s') (hx.trans (by simp only [he, bnd_error])) rfl rfl))
    simp only [h12, bnd_ok] at hx
    have g12 := exp_up i11 h12
    have i12 := g12.1
    simp only [↓EJ, EX, FA, simprocAttr, EZ]
    refine hK _ ?_; try clear hK K
    refine WC.trim [0, 2, 3, 4, 5, 6, 8, 9, 10, 11, 12, 15, 22, 37, 57, 61, 65, 79, 98, 104, 122] ?_
    simp only [ET, simprocAttr]
    refine WC.rs fun K hK => ?_
    simp only [↓EJ, EX, FA, simprocAttr, XS]
    refine hK _ ?_; try clear hK K
    refine WC.trim [0, 2, 3, 4, 5, 6, 8, 9, 10, 11, 12, 15, 22, 37, 57, 61, 65, 79, 98, 104, 122] ?_
    simp only [ET, simprocAttr]
    refine WC.ret ?_
    simp only [↓EJ, EX, FA, simprocAttr, EQ, FnQ, Tryd.results78, wResL, tup, List.reverse_cons, List.reverse_nil, true_and, XS]
    exact PSem.done (fn := Tryd.f78) (s := s12) (v := (exN 18 l)) hx rfl (of_eq_true (by simp only [CL, PCL, and_self])) rfl
 obtain rfl : b5 = false := by simpa using h
 dsimp only at hx
 refine WC.skip ?_
 try simp only [EQ, reduceIte, Nat.reduceEqDiff]
 refine hK0 _ ?_; try clear hK0 K0
 refine WC.zs [1] (by simp only [cutZ, List.drop_zero, List.drop_succ_cons, List.take_zero, List.take_succ_cons, Option.map_some]; rfl) fun K hK => ?_
 simp only [↓EJ, EX, FA, simprocAttr, EZ]
 refine CallX.mk (CallW.par (enc := fun _ => .tuple []) (expect_sem ts [[40]] s5 i5 (by decide)) rfl rfl (by simp only [CL, List.map_cons, List.map_nil, and_self]) (fun v => by simp only [CL]) (fun u11 s11 h11 => ?_) (fun e s' he => by intros; exact PSem.fails (fn := Tryd.f78) (s := s') (hx.trans (by simp only [he, bnd_error])) rfl rfl))
 simp only [h11, bnd_ok] at hx
 have g11 := exp_up i5 h11
 have i11 := g11.1
 have r11 := g11.rem
 simp only [↓EJ, EX, FA, simprocAttr, EZ]
 refine hK _ ?_; try clear hK K
 refine WC.trim [0, 2, 3, 4, 5, 6, 8, 9, 10, 11, 12, 15, 22, 37, 57, 61, 65, 79, 98, 104, 122] ?_
 simp only [ET, simprocAttr]
 refine WC.rs fun K hK => ?_
 simp only [↓EJ, EX, FA, simprocAttr]
 refine CallX.mk (CallW.par (enc := exsV) (H.exprs s11 i11 (by omega)) rfl rfl (by simp only [CL, PCL, and_self]) (fun v => by simp only [CL, PCL, and_self]) (fun l s12 h12 => ?_) (fun e s' he => by intros; exact PSem.fails (fn := Tryd.f78) (s := s') (hx.trans (by simp only [he, bnd_error])) rfl rfl))
 simp only [h12, bnd_ok] at hx
 have g12 := And.left <| X.exprs i11 h12
 have i12 := g12.1
 have hne := (X.exprs i11 h12).2.1
 simp only [↓EJ, EX, FA, simprocAttr, exsV_ne hne]
 refine hK _ ?_; try clear hK K
 refine WC.trim [0, 2, 3, 4, 5, 6, 8, 9, 10, 11, 12, 15, 22, 37, 57, 61, 65, 79, 98, 104, 122] ?_
 simp only [ET, simprocAttr]
 refine WC.zs [1] (by simp only [cutZ, List.drop_zero, List.drop_succ_cons, List.take_zero, List.take_succ_cons, Option.map_some]; rfl) fun K hK => ?_
 simp only [↓EJ, EX, FA, simprocAttr, EZ]
 refine CallX.mk (CallW.par (enc := fun _ => .tuple []) (expect_sem ts [[41]] s12 i12 (by decide)) rfl rfl (by simp only [CL, List.map_cons, List.map_nil, and_self]) (fun v => by simp only [CL]) (fun u13 s13 h13 => ?_) (fun e s' he => by intros; exact PSem.fails (fn := Tryd.f78) (s := s') (hx.trans (by simp only [he, bnd_error])) rfl rfl))
 simp only [h13, bnd_ok] at hx
 have g13 := exp_up i12 h13
 have i13 := g13.1
 simp only [↓EJ, EX, FA, simprocAttr, EZ]
 refine hK _ ?_; try clear hK K
 refine WC.trim [0, 2, 3, 4, 5, 6, 8, 9, 10, 11, 12, 15, 22, 37, 57, 61, 65, 79, 98, 104, 122] ?_
 simp only [ET, simprocAttr]
 refine WC.sK fun K7 hK7 => ?_
 match l, hne, hx with
 | [e], _, hx =>
   refine WC.rs fun K hK => ?_
   simp only [↓EJ, EX, FA, simprocAttr, XS, List.map_cons, List.map_nil, List.length_cons, List.length_nil]
   refine hK _ ?_; try clear hK K
   refine WC.trim [0, 2, 3, 4, 5, 6, 8, 9, 10, 11, 12, 15, 22, 37, 57, 61, 65, 79, 98, 104, 122] ?_
   simp only [ET, simprocAttr]
   refine WC.cond (c := .tmp 122) rfl (fun h => ?_) (fun h => ?_)
   rotate_left
   ·simp at h
   refine WC.rs fun K hK => ?_
   simp only [↓EJ, EX, FA, simprocAttr, XS, gi_0, List.map_cons, List.map_nil, List.length_cons, List.length_nil]
   refine hK _ ?_; try clear hK K
   refine WC.trim [0, 2, 3, 4, 5, 6, 8, 9, 10, 11, 12, 15, 22, 37, 57, 61, 65, 79, 98, 104, 122] ?_
   simp only [ET, simprocAttr]
   refine WC.ret ?_
   simp only [↓EJ, EX, FA, simprocAttr, EQ, FnQ, Tryd.results78, wResL, tup, List.reverse_cons, List.reverse_nil, true_and, XS]
   exact PSem.done (fn := Tryd.f78) (s := s13) (v := e) hx rfl (of_eq_true (by simp only [CL, PCL, and_self])) rfl
 | e :: e2 :: r, _, hx =>
   refine WC.rs fun K hK => ?_
   simp only [↓EJ, EX, FA, simprocAttr, XS, List.map_cons, List.map_nil, List.length_cons, List.length_nil]
   refine hK _ ?_; try clear hK K
   refine WC.trim [0, 2, 3, 4, 5, 6, 8, 9, 10, 11, 12, 15, 22, 37, 57, 61, 65, 79, 98, 104, 122] ?_
   simp only [ET, simprocAttr]
   refine WC.cond (c := .tmp 122) rfl (fun h => ?_) (fun h => ?_)
   ·simp at h; omega
   refine WC.skip ?_
   try simp only [EQ, reduceIte, Nat.reduceEqDiff]
   refine hK7 _ ?_; try clear hK7 K7
   refine WC.rs fun K hK => ?_
   simp only [↓EJ, EX, FA, simprocAttr, XS]
   refine hK _ ?_; try clear hK K
   refine WC.trim [0, 2, 3, 4, 5, 6, 8, 9, 10, 11, 12, 15, 22, 37, 57, 61, 65, 79, 98, 104, 122] ?_
   simp only [ET, simprocAttr]
   refine WC.ret ?_
   simp only [↓EJ, EX, FA, simprocAttr, EQ, FnQ, Tryd.results78, wResL, tup, List.reverse_cons, List.reverse_nil, true_and, XS]
   have hp : exV (exN 16 (e :: e2 :: r)) = .agg [.int .i64 16, .int .i64 0, .bool false, .nils, .nils, .str [], .slc (.agg (exC e) :: .agg (exC e2) :: List.map exV r)] := by
    rw [exN_def, exsV_ne (by simp)]; simp [XS.1]
   exact PSem.done (fn := Tryd.f78) (s := s13) (v := exN 16 (e :: e2 :: r)) hx hp.symm (exV_closed _) rfl
end Go.LexSem
