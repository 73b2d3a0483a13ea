/-
 Texts joined: ParA ParB ParC ParD ParE ParF ParG.
-/
import Derived.Test.YtenieameoojbjaaDoorMH
set_option linter.unusedVariables false
set_option linter.unusedSimpArgs false
set_option linter.loopingSimpArgs false
set_option maxHeartbeats 4000000
set_option maxRecDepth 8000
namespace Go.LexSem
open Go Go.V Go.Proofs Go.Num

/-- Where the parser is: the token, the brackets that are open. -/
structure PS where
 at_ : Nat
 opn : Int
def tks (ts : List Tok) : PVal := .slc (ts.map tkv)
def pcell (ts : List Tok) (s : PS) : PVal := .agg [tks ts, .int .i64 s.at_, .int .i64 s.opn]
def pblk (ts : List Tok) (s : PS) : Blk := .row [pcell ts s] 3 44
/-- The token that stands at. -/
def cur (ts : List Tok) (s : PS) : Tok := ts.getD s.at_ (5, [], 1, 1)
/-- What holds between the calls. -/
structure PInv (ts : List Tok) (s : PS) : Prop where
 lt : s.at_ < ts.length
 le : ts.length ≤ 10000
 o1 : s.opn ≤ s.at_
 o2 : -(s.at_ : Int) ≤ s.opn
 fin : (ts.getD (ts.length - 1) (5, [], 1, 1)).1 = 5
 num : ∀ t ∈ ts, t.1 = 2 → t.2.1 ≠ [] ∧ t.2.1.length ≤ 60 ∧ ∀ c ∈ t.2.1, digitI (c.toNat : Int) = true
theorem PInv.go {ts : List Tok} {s : PS} (h : PInv ts s) (hk : (cur ts s).1 ≠ 5) {o : Int} (h1 : o ≤ s.opn + 1) (h2 : s.opn - 1 ≤ o) : PInv ts ⟨s.at_ + 1, o⟩ := by
 have a := h.lt
 have b := h.o1
 have c := h.o2
 refine ⟨?_, h.le, by dsimp only; omega, by dsimp only; omega, h.fin, h.num⟩
 rcases Nat.lt_or_ge (s.at_ + 1) ts.length with h' | h'
 ·exact h'
 ·exact absurd (by unfold cur; rw [show s.at_ = ts.length - 1 by omega]; exact h.fin) hk
theorem tkv_gi {ts : List Tok} {i : Nat} (h : i < ts.length) : gi (ts.map tkv) i = tkv (ts.getD i (5, [], 1, 1)) := by simp [gi, List.getD_eq_getElem?_getD, h]
theorem tkv_cells (t : Tok) : (tkv t).cells = [.int .i64 t.1, .str t.2.1, .int .i64 t.2.2.1, .int .i64 t.2.2.2] := rfl
theorem tkv_closed1 (t : Tok) : Closed (tkv t) := fun _ => rfl
theorem pblk_closed (ts : List Tok) (s : PS) : ClosedB (pblk ts s) := fun f => by
 simp only [pblk, pcell, tks, renB, renL, ren, tkv_closed ts f]
theorem now_sem (ts : List Tok) (s : PS) (h : PInv ts s) : FSem C 24 [.ptr (.o 0) 0 0] [pblk ts s] fun r st => r = .ret (tkv (cur ts s)) ∧ st = [pblk ts s] := by
 have hg := tkv_gi h.lt
 have hlt := h.lt
 have hle := h.le
 refine FSem.enter' (C := C) (n := 13) Tryd.func24 rfl rfl ok_24 (by simp) ?_
 simp only [argEnv]
 refine WC.rs fun K hK => ?_
 simp only [↓EJ, EX, FA, simprocAttr, pblk, pcell, tks]
 refine hK _ ?_; try clear hK K
 refine WC.trim [0, 2] ?_
 simp only [ET, simprocAttr]
 refine WC.ds [⟨0, 0, false, []⟩, ⟨1, 0, false, []⟩, ⟨2, 0, false, []⟩, ⟨3, 0, false, []⟩, ⟨4, 0, false, []⟩, ⟨5, 0, false, []⟩, ⟨6, 0, false, []⟩, ⟨7, 0, false, []⟩, ⟨8, 0, false, []⟩, ⟨9, 0, false, []⟩, ⟨10, 1, false, []⟩] [0, 1, 3, 7, 0, 16, 48, 112, 255, 511, 1023] mo (by kernel_rfl) (by simp only [EPl, List.getElem?_cons_zero, List.getElem?_cons_succ]; rfl) fun K hK => ?_
 simp only [↓EJ, EX, FA, simprocAttr, pblk, pcell, tks, List.length_map, Int.toNat_natCast, hg, tkv_cells]
 repeat refine And.intro (by omega) ?_
 refine hK _ ?_; try clear hK K
 refine WC.trim [0, 2] ?_
 simp only [ET, simprocAttr]
 refine WC.ret ?_
 simp only [↓EJ, EX, FA, simprocAttr, EQ, FnQ, Tryd.results24, wResL, tup, List.reverse_cons, List.reverse_nil, true_and]
 refine EndsIn.plain (by simp only [CL, and_self]) (fun k hk => ?_) ⟨rfl, rfl⟩
 simp only [List.mem_singleton] at hk
 subst hk
 exact pblk_closed ts s
/-- An error: where it stands, and its code. -/
abbrev Er := (Nat × Nat) × Nat
def errV (e : Er) : PVal := .iface 41 (.agg [.int .i64 e.1.1, .int .i64 e.1.2, .int .i64 e.2])
theorem errV_closed (e : Er) : Closed (errV e) := fun _ => rfl
def erAt (t : Tok) (code : Nat) : Er := ((t.2.2.1, t.2.2.2), code)
/-- How a method of the parser ends: with its value and the parser further on, or with a panic. -/
def POut {α : Type} (ts : List Tok) (x : Except Er (α × PS)) (enc : α → PVal) (r : PRes) (st : List Blk) : Prop :=
 match x with
 | .ok (v, s) => r = .ret (enc v) ∧ st = [pblk ts s]
 | .error e => r = .pan (errV e) ∧ ∃ s, st = [pblk ts s]
/-- A method of the parser. -/
def PSem {α : Type} (f : FuncId) (args : List PVal) (ts : List Tok) (s : PS) (x : Except Er (α × PS)) (enc : α → PVal) : Prop :=
 FSem C f (.ptr (.o 0) 0 0 :: args) [pblk ts s] (POut ts x enc)
theorem CallW.par {α : Type} {g : FuncId} {args args' : List PVal} {σ : St} {K KP : PVal → St → Prop} {r : Ref} {ts : List Tok} {s : PS} {x : Except Er (α × PS)} {enc : α → PVal} (spec : PSem g args ts s x enc) (hb : blkAt σ.o σ.l r = some (pblk ts s))
 (ha : args' = .ptr r 0 0 :: args) (hca : ClosedL args) (hcl : ∀ v, Closed (enc v)) (hok : ∀ v s', x = .ok (v, s') → K (enc v) (setBlk σ r (pblk ts s'))) (herr : ∀ e s', x = .error e → KP (errV e) (setBlk σ r (pblk ts s'))) : CallW C g args' σ K KP :=
 CallW.of spec [r] (by simp) (by rw [ha]; simp only [renL, ren, hca _, fCall, List.getD_cons_zero]) rfl (fun j r' k hr hk => by
  cases j with
  | zero => simp at hr hk; subst hr hk; rw [pblk_closed]; exact hb
  | succ j => simp at hr) fun q st' ho => by
  have e : ∀ b, setAll σ [r] [b] = setBlk σ r b := fun b => by simp [setAll]
  unfold POut at ho
  split at ho
  ·rename_i v s' 
   obtain ⟨rfl, rfl⟩ := ho
   simp only [List.map_cons, List.map_nil, pblk_closed _ _ _, hcl _ _, e]
   exact hok _ _ rfl
  ·obtain ⟨rfl, s', rfl⟩ := ho
   simp only [List.map_cons, List.map_nil, pblk_closed _ _ _, errV_closed _ _, e]
   exact herr _ _ rfl
/-- The ends of a method's walk. -/
theorem PSem.done {α : Type} {fn : Func} {ts : List Tok} {s : PS} {x : Except Er (α × PS)} {enc : α → PVal} {σ : St} {v : α} {p : PVal} (hx : x = .ok (v, s)) (hp : p = enc v) (hc : Closed (enc v)) (ho : σ.o = [pblk ts s]) : EndsIn σ p fun p st => POut ts x enc (.ret p) st := by
 subst hp
 refine EndsIn.plain hc (fun k hk => ?_) ?_
 ·rw [ho] at hk
  simp only [List.mem_singleton] at hk
  subst hk
  exact pblk_closed ts s
 ·rw [hx, ho]; exact ⟨rfl, rfl⟩
theorem PSem.fails {α : Type} {fn : Func} {ts : List Tok} {s : PS} {x : Except Er (α × PS)} {enc : α → PVal} {σ : St} {e : Er} (hx : x = .error e) (hd : σ.d = []) (ho : σ.o = [pblk ts s]) : FnQ C fn (POut ts x enc) (.pan (errV e)) σ := by
 refine ⟨hd, EndsIn.plain (errV_closed e) (fun k hk => ?_) ?_⟩
 ·rw [ho] at hk
  simp only [List.mem_singleton] at hk
  subst hk
  exact pblk_closed ts s
 ·rw [hx, ho]; exact ⟨rfl, _, rfl⟩
/-- What a failure at a token is. -/
def failV (t : Tok) (code : Nat) : PVal := errV (erAt t code)
theorem failV_closed (t : Tok) (code : Nat) : Closed (failV t code) := fun _ => rfl
theorem fail_sem (ts : List Tok) (s : PS) (h : PInv ts s) (code : Nat) : FSem C 25 [.ptr (.o 0) 0 0, .int .i64 code] [pblk ts s] fun r st => r = .pan (failV (cur ts s) code) ∧ st = [pblk ts s] := by
 refine FSem.enter' (C := C) (n := 15) Tryd.func25 rfl rfl ok_25 (by simp) ?_
 simp only [argEnv]
 refine WC.rs fun K hK => ?_
 simp only [↓EJ, EX, FA, simprocAttr]
 refine CallX.mk (CallW.one (r := .o 0) (now_sem ts s h) rfl (pblk_closed ts s) (pblk_closed ts s) (tkv_closed1 _) (by simp [renL, ren, fCall]) ?_)
 simp only [↓EJ, EX, FA, simprocAttr, tkv_cells]
 refine And.intro rfl ?_
 refine hK _ ?_; try clear hK K
 refine WC.trim [0, 1, 4] ?_
 simp only [ET, simprocAttr]
 have hcc : ccq C.P 41 = true := by kernel_rfl
 refine WC.r1 ?_
 simp only [↓EJ, EX, FA, simprocAttr, EPn, hcc, true_and]
 refine ⟨rfl, EndsIn.plain (failV_closed (cur ts s) code) (fun k hk => ?_) ⟨rfl, rfl⟩⟩
 simp only [List.mem_singleton] at hk
 subst hk
 exact pblk_closed ts s
theorem fail_par {α : Type} {enc : α → PVal} (ts : List Tok) (s : PS) (h : PInv ts s) (code : Nat) : PSem 25 [.int .i64 code] ts s (.error (erAt (cur ts s) code) : Except Er (α × PS)) enc := by
 have hf := fail_sem ts s h code
 exact ⟨hf.1, fun V vs hM hv => (hf.2 V vs hM hv).mono fun e w' ⟨V', st', r, h1, h2, h3, h4, h5, h6, h7⟩ => ⟨V', st', r, h1, h2, h3, h4, h5, h6, s, h7⟩⟩
/-- Whether the token that stands at is this word or sign. -/
def isP (ts : List Tok) (s : PS) (t : List UInt8) : Bool := (decide ((cur ts s).1 = 3) || decide ((cur ts s).1 = 4)) && decide ((cur ts s).2.1 = t)
theorem is_sem (ts : List Tok) (s : PS) (h : PInv ts s) (t : List UInt8) : FSem C 21 [.ptr (.o 0) 0 0, .str t] [pblk ts s] fun r st => r = .ret (.bool (isP ts s t)) ∧ st = [pblk ts s] := by
 refine FSem.enter' (C := C) (n := 22) Tryd.func21 rfl rfl ok_21 (by simp) ?_
 simp only [argEnv]
 refine WC.rs fun K hK => ?_
 simp only [↓EJ, EX, FA, simprocAttr]
 refine hK _ ?_; try clear hK K
 refine WC.trim [0, 1, 4, 5] ?_
 simp only [ET, simprocAttr]
 refine WC.rs fun K hK => ?_
 simp only [↓EJ, EX, FA, simprocAttr]
 refine CallX.mk (CallW.one (r := .o 0) (now_sem ts s h) rfl (pblk_closed ts s) (pblk_closed ts s) (tkv_closed1 _) (by simp [renL, ren, fCall]) ?_)
 simp only [↓EJ, EX, FA, simprocAttr, tkv_cells]
 refine And.intro rfl ?_
 refine hK _ ?_; try clear hK K
 refine WC.trim [0, 1, 4, 5] ?_
 simp only [ET, simprocAttr]
 unfold isP
 generalize cur ts s = t0 at *
 obtain ⟨k, w, l, c⟩ := t0
 dsimp only
 have fin : ∀ b : Bool, b = ((decide (k = 3) || decide (k = 4)) && decide (w = t)) → EndsIn ⟨[(4, .bool b), (5, .ptr (.l 0) 0 0), (0, .ptr (.o 0) 0 0), (1, .str t)], [pblk ts s], [.row [.agg [.int .i64 k, .str w, .int .i64 l, .int .i64 c]] 4 66], []⟩ (.bool b) fun r st => PRes.ret r = .ret (.bool ((decide (k = 3) || decide (k = 4)) && decide (w = t))) ∧ st = [pblk ts s] := fun b hb =>
  EndsIn.plain (by simp only [CL]) (fun x hx => by simp only [List.mem_singleton] at hx; subst hx; exact pblk_closed ts s) ⟨by rw [hb], rfl⟩
 by_cases h3 : k = 3
 ·subst h3
  refine WC.rs fun K hK => ?_
  simp only [↓EJ, EX, FA, simprocAttr, Int.cast_ofNat_Int, Bool.not_true, Bool.not_false]
  refine hK _ ?_; try clear hK K
  refine WC.trim [0, 1, 4, 5] ?_
  simp only [ET, simprocAttr]
  refine WC.ret ?_
  simp only [↓EJ, EX, FA, simprocAttr, EQ, FnQ, Tryd.results21, wResL, tup, List.reverse_cons, List.reverse_nil, true_and]
  exact fin _ (by simp)
 ·have i3 : ((k : Int) = 3) = False := eq_false (by omega)
  by_cases h4 : k = 4
  ·subst h4
   refine WC.rs fun K hK => ?_
   simp only [↓EJ, EX, FA, simprocAttr, Int.cast_ofNat_Int, Bool.not_true, Bool.not_false]
   refine hK _ ?_; try clear hK K
   refine WC.trim [0, 1, 4, 5] ?_
   simp only [ET, simprocAttr]
   refine WC.ret ?_
   simp only [↓EJ, EX, FA, simprocAttr, EQ, FnQ, Tryd.results21, wResL, tup, List.reverse_cons, List.reverse_nil, true_and]
   exact fin _ (by simp)
  ·have i4 : ((k : Int) = 4) = False := eq_false (by omega)
   refine WC.rs fun K hK => ?_
   simp only [↓EJ, EX, FA, simprocAttr, i3, i4, Bool.not_true, Bool.not_false]
   refine hK _ ?_; try clear hK K
   refine WC.trim [0, 1, 4, 5] ?_
   simp only [ET, simprocAttr]
   refine WC.ret ?_
   simp only [↓EJ, EX, FA, simprocAttr, EQ, FnQ, Tryd.results21, wResL, tup, List.reverse_cons, List.reverse_nil, true_and]
   exact fin _ (by simp [h3, h4])
end Go.LexSem
set_option maxHeartbeats 4000000
set_option maxRecDepth 8000
namespace Go.LexSem
open Go Go.V Go.Proofs Go.Num

theorem pblk_ren (f : Ref → Ref) (ts : List Tok) (s : PS) : renB f (pblk ts s) = pblk ts s := pblk_closed ts s f
def isOpen (t : List UInt8) : Bool := decide (t = [40]) || (decide (t = [91]) || decide (t = [123]))
def isClose (t : List UInt8) : Bool := decide (t = [41]) || (decide (t = [93]) || decide (t = [125]))
def opnF (t : List UInt8) (o : Int) : Int := if isOpen t then o + 1 else if isClose t then o - 1 else o
def acceptF (ts : List Tok) (t : List UInt8) (s : PS) : Except Er (Bool × PS) :=
 if isP ts s t = false then .ok (false, s) else if isOpen t = true ∧ s.opn = 10 then .error (erAt (cur ts s) 9) else .ok (true, ⟨s.at_ + 1, opnF t s.opn⟩)
theorem isP_kind {ts : List Tok} {s : PS} {t : List UInt8} (h : isP ts s t = true) : (cur ts s).1 ≠ 5 := fun e => by simp [isP, e] at h
theorem opnF_near (t : List UInt8) (o : Int) : opnF t o ≤ o + 1 ∧ o - 1 ≤ opnF t o := by unfold opnF; split <;> (try split) <;> omega
theorem acceptF_inv {ts : List Tok} {t : List UInt8} {s s' : PS} {b : Bool} (h : PInv ts s) (hx : acceptF ts t s = .ok (b, s')) : PInv ts s' ∧ s.at_ ≤ s'.at_ ∧ (b = true → s'.at_ = s.at_ + 1) := by
 unfold acceptF at hx
 split at hx
 ·cases hx; exact ⟨h, Nat.le_refl _, fun h => by cases h⟩
 ·rename_i hi
  split at hx
  ·cases hx
  ·cases hx
   obtain ⟨o1, o2⟩ := opnF_near t s.opn
   exact ⟨h.go (isP_kind (by simpa using hi)) o1 o2, Nat.le_succ _, fun _ => rfl⟩
theorem accept_sem (ts : List Tok) (s : PS) (h : PInv ts s) (t : List UInt8) : PSem 18 [.str t] ts s (acceptF ts t s) .bool := by
 have hlt := h.lt
 have hle := h.le
 have ho1 := h.o1
 have ho2 := h.o2
 unfold PSem
 refine FSem.enter' (C := C) (n := 46) Tryd.func18 rfl rfl ok_18 (by simp) ?_
 simp only [argEnv]
 refine WC.rs fun K hK => ?_
 simp only [↓EJ, EX, FA, simprocAttr]
 refine hK _ ?_; try clear hK K
 refine WC.trim [0, 1, 4, 8, 9, 10, 18, 28] ?_
 simp only [ET, simprocAttr]
 refine WC.sK fun K1 hK1 => ?_
 refine WC.rs fun K hK => ?_
 simp only [↓EJ, EX, FA, simprocAttr]
 refine CallX.mk (CallW.one (r := .o 0) (is_sem ts s h t) rfl (pblk_closed ts s) (pblk_closed ts s) (by simp only [CL]) (by simp [renL, ren, fCall]) ?_)
 simp only [↓EJ, EX, FA, simprocAttr]
 refine hK _ ?_; try clear hK K
 refine WC.trim [0, 1, 4, 8, 9, 10, 18, 28] ?_
 simp only [ET, simprocAttr]
 refine WC.cond (c := .tmp 8) rfl (fun h => ?_) (fun h => ?_)
 ·have hi : isP ts s t = false := by simpa using h
  refine WC.rs fun K hK => ?_
  simp only [↓EJ, EX, FA, simprocAttr]
  refine hK _ ?_; try clear hK K
  refine WC.trim [0, 1, 4, 8, 9, 10, 18, 28] ?_
  simp only [ET, simprocAttr]
  refine WC.ret ?_
  simp only [↓EJ, EX, FA, simprocAttr, EQ, FnQ, Tryd.results18, wResL, tup, List.reverse_cons, List.reverse_nil, true_and]
  exact PSem.done (fn := Tryd.f18) (s := s) (v := false) (by simp [acceptF, hi]) rfl (fun _ => rfl) rfl
 ·have hi : isP ts s t = true := by simpa using h
  refine WC.skip ?_
  try simp only [EQ, reduceIte, Nat.reduceEqDiff]
  refine hK1 _ ?_; try clear hK1 K1
  refine WC.sx (X := Int) (fun o => ¬ (isOpen t = true ∧ s.opn = 10) ∧ o = opnF t s.opn) (fun o => ⟨[(0, .ptr (.o 0) 0 0), (1, .str t)], [pblk ts ⟨s.at_, o⟩], [], []⟩) ?_ ?_
  ·refine WC.rs fun K hK => ?_
   simp only [↓EJ, EX, FA, simprocAttr]
   refine hK _ ?_; try clear hK K
   refine WC.trim [0, 1, 4, 8, 9, 10, 18, 28] ?_
   simp only [ET, simprocAttr]
   refine WC.b1 ?_
   refine WC.sx (X := Bool) (fun b => b = isOpen t) (fun b => ⟨[(10, .bool b), (9, .str t), (0, .ptr (.o 0) 0 0), (1, .str t)], [pblk ts s], [], []⟩) ?_ ?_
   ·refine WC.rs fun K hK => ?_
    simp only [↓EJ, EX, FA, simprocAttr]
    refine hK _ ?_; try clear hK K
    refine WC.trim [0, 1, 4, 8, 9, 10, 18, 28] ?_
    simp only [ET, simprocAttr]
    refine WC.cond (c := .tmp 10) rfl (fun h => ?_) (fun h => ?_)
    ·refine WC.skip ?_
     try simp only [EQ, reduceIte, Nat.reduceEqDiff]
     refine ⟨true, [], by simp at h; simp [isOpen, h], ?_⟩
     rw [h]
     refine ⟨by simp, by simp only [EV, EB, EL, ER, ET, and_self, true_and, and_true, Nat.reduceEqDiff, reduceCtorEq, reduceIte, pblk_ren], by simp only [EV, EB, EL, ER, ET, and_self, true_and, and_true, Nat.reduceEqDiff, reduceCtorEq, reduceIte, pblk_ren], by simp only [EV, EB, EL, ER, ET, and_self, true_and, and_true, Nat.reduceEqDiff, reduceCtorEq, reduceIte, pblk_ren, pick], rfl⟩
    ·rename_i n1
     refine WC.rs fun K hK => ?_
     simp only [↓EJ, EX, FA, simprocAttr]
     refine hK _ ?_; try clear hK K
     refine WC.trim [0, 1, 4, 8, 9, 10, 18, 28] ?_
     simp only [ET, simprocAttr]
     refine WC.cond (c := .tmp 10) rfl (fun h => ?_) (fun h => ?_)
     ·refine WC.skip ?_
      try simp only [EQ, reduceIte, Nat.reduceEqDiff]
      refine ⟨true, [], by simp at h; simp [isOpen, h], ?_⟩
      rw [h]
      refine ⟨by simp, by simp only [EV, EB, EL, ER, ET, and_self, true_and, and_true, Nat.reduceEqDiff, reduceCtorEq, reduceIte, pblk_ren], by simp only [EV, EB, EL, ER, ET, and_self, true_and, and_true, Nat.reduceEqDiff, reduceCtorEq, reduceIte, pblk_ren], by simp only [EV, EB, EL, ER, ET, and_self, true_and, and_true, Nat.reduceEqDiff, reduceCtorEq, reduceIte, pblk_ren, pick], rfl⟩
     ·rename_i n2
      refine WC.r1 ?_
      simp only [↓EJ, EX, FA, simprocAttr]
      try simp only [EQ, reduceIte, Nat.reduceEqDiff]
      refine ⟨decide (t = [123]), [], by simp at n1 n2 h; simp [isOpen, *], ?_⟩
      refine ⟨by simp, by simp only [EV, EB, EL, ER, ET, and_self, true_and, and_true, Nat.reduceEqDiff, reduceCtorEq, reduceIte, pblk_ren], by simp only [EV, EB, EL, ER, ET, and_self, true_and, and_true, Nat.reduceEqDiff, reduceCtorEq, reduceIte, pblk_ren], by simp only [EV, EB, EL, ER, ET, and_self, true_and, and_true, Nat.reduceEqDiff, reduceCtorEq, reduceIte, pblk_ren, pick], rfl⟩
   ·rintro b rfl
    refine WC.cond (c := .tmp 10) rfl (fun h => ?_) (fun h => ?_)
    ·have hop : isOpen t = true := by simpa using h
     refine WC.sK fun K4 hK4 => ?_
     refine WC.rs fun K hK => ?_
     simp only [↓EJ, EX, FA, simprocAttr, pblk, pcell]
     refine hK _ ?_; try clear hK K
     refine WC.trim [0, 1, 4, 8, 9, 10, 18, 28] ?_
     simp only [ET, simprocAttr]
     refine WC.cond (c := .tmp 18) rfl (fun h => ?_) (fun h => ?_)
     ·have h10 : s.opn = 10 := by simpa using h
      refine WC.r1 ?_
      simp only [↓EJ, EX, FA, simprocAttr]
      refine CallX.mk (CallW.par (α := Unit) (enc := fun _ => .tuple []) (fail_par ts s ‹_› 9) rfl rfl (by simp only [CL, and_self]) (fun _ => by simp only [CL]) (fun v s' hv => nomatch hv) (fun e s' he => ?_))
      cases he
      exact PSem.fails (fn := Tryd.f18) (s := s') (by simp [acceptF, hi, hop, h10]) rfl rfl
     ·have h10 : s.opn ≠ 10 := by simpa using h
      refine WC.skip ?_
      try simp only [EQ, reduceIte, Nat.reduceEqDiff]
      refine hK4 _ ?_; try clear hK4 K4
      refine WC.r1 ?_
      simp (maxSteps := 1000000) (disch := omega) only [↓EJ, EX, FA, simprocAttr, w64, wu64]
      try simp only [EQ, reduceIte, Nat.reduceEqDiff]
      refine ⟨opnF t s.opn, [], ⟨fun hh => h10 hh.2, rfl⟩, ?_⟩
      have e1 : opnF t s.opn = s.opn + 1 := by simp [opnF, hop]
      rw [e1]
      refine ⟨by simp, by simp only [EV, EB, EL, ER, ET, and_self, true_and, and_true, Nat.reduceEqDiff, reduceCtorEq, reduceIte, pblk, pcell, tks, tkv_closed _ _], by simp only [EV, EB, EL, ER, ET, and_self, true_and, and_true, Nat.reduceEqDiff, reduceCtorEq, reduceIte, pblk, pcell, tks, tkv_closed _ _], by simp only [EV, EB, EL, ER, ET, and_self, true_and, and_true, Nat.reduceEqDiff, reduceCtorEq, reduceIte, pblk, pcell, tks, tkv_closed _ _, pick], rfl⟩
    ·have hop : isOpen t = false := by simpa using h
     refine WC.sx (X := Bool) (fun b => b = isClose t) (fun b => ⟨[(28, .bool b), (9, .str t), (0, .ptr (.o 0) 0 0), (1, .str t)], [pblk ts s], [], []⟩) ?_ ?_
     ·refine WC.rs fun K hK => ?_
      simp only [↓EJ, EX, FA, simprocAttr]
      refine hK _ ?_; try clear hK K
      refine WC.trim [0, 1, 4, 8, 9, 10, 18, 28] ?_
      simp only [ET, simprocAttr]
      refine WC.cond (c := .tmp 28) rfl (fun h => ?_) (fun h => ?_)
      ·refine WC.skip ?_
       try simp only [EQ, reduceIte, Nat.reduceEqDiff]
       refine ⟨true, [], by simp at h; simp [isClose, h], ?_⟩
       rw [h]
       refine ⟨by simp, by simp only [EV, EB, EL, ER, ET, and_self, true_and, and_true, Nat.reduceEqDiff, reduceCtorEq, reduceIte, pblk_ren], by simp only [EV, EB, EL, ER, ET, and_self, true_and, and_true, Nat.reduceEqDiff, reduceCtorEq, reduceIte, pblk_ren], by simp only [EV, EB, EL, ER, ET, and_self, true_and, and_true, Nat.reduceEqDiff, reduceCtorEq, reduceIte, pblk_ren, pick], rfl⟩
      ·rename_i n1
       refine WC.rs fun K hK => ?_
       simp only [↓EJ, EX, FA, simprocAttr]
       refine hK _ ?_; try clear hK K
       refine WC.trim [0, 1, 4, 8, 9, 10, 18, 28] ?_
       simp only [ET, simprocAttr]
       refine WC.cond (c := .tmp 28) rfl (fun h => ?_) (fun h => ?_)
       ·refine WC.skip ?_
        try simp only [EQ, reduceIte, Nat.reduceEqDiff]
        refine ⟨true, [], by simp at h; simp [isClose, h], ?_⟩
        rw [h]
        refine ⟨by simp, by simp only [EV, EB, EL, ER, ET, and_self, true_and, and_true, Nat.reduceEqDiff, reduceCtorEq, reduceIte, pblk_ren], by simp only [EV, EB, EL, ER, ET, and_self, true_and, and_true, Nat.reduceEqDiff, reduceCtorEq, reduceIte, pblk_ren], by simp only [EV, EB, EL, ER, ET, and_self, true_and, and_true, Nat.reduceEqDiff, reduceCtorEq, reduceIte, pblk_ren, pick], rfl⟩
       ·rename_i n2
        refine WC.r1 ?_
        simp only [↓EJ, EX, FA, simprocAttr]
        try simp only [EQ, reduceIte, Nat.reduceEqDiff]
        refine ⟨decide (t = [125]), [], by simp at n1 n2 h; simp [isClose, *], ?_⟩
        refine ⟨by simp, by simp only [EV, EB, EL, ER, ET, and_self, true_and, and_true, Nat.reduceEqDiff, reduceCtorEq, reduceIte, pblk_ren], by simp only [EV, EB, EL, ER, ET, and_self, true_and, and_true, Nat.reduceEqDiff, reduceCtorEq, reduceIte, pblk_ren], by simp only [EV, EB, EL, ER, ET, and_self, true_and, and_true, Nat.reduceEqDiff, reduceCtorEq, reduceIte, pblk_ren, pick], rfl⟩
     ·rintro b rfl
      refine WC.cond (c := .tmp 28) rfl (fun h => ?_) (fun h => ?_)
      ·have hcl : isClose t = true := by simpa using h
       refine WC.r1 ?_
       simp (maxSteps := 1000000) (disch := omega) only [↓EJ, EX, FA, simprocAttr, w64, wu64, pblk, pcell]
       try simp only [EQ, reduceIte, Nat.reduceEqDiff]
       refine ⟨opnF t s.opn, [], ⟨fun hh => by rw [hop] at hh; exact absurd hh.1 (by simp), rfl⟩, ?_⟩
       have e1 : opnF t s.opn = s.opn - 1 := by simp [opnF, hop, hcl]
       rw [e1]
       refine ⟨by simp, by simp only [EV, EB, EL, ER, ET, and_self, true_and, and_true, Nat.reduceEqDiff, reduceCtorEq, reduceIte, pblk, pcell, tks, tkv_closed _ _], by simp only [EV, EB, EL, ER, ET, and_self, true_and, and_true, Nat.reduceEqDiff, reduceCtorEq, reduceIte, pblk, pcell, tks, tkv_closed _ _], by simp only [EV, EB, EL, ER, ET, and_self, true_and, and_true, Nat.reduceEqDiff, reduceCtorEq, reduceIte, pblk, pcell, tks, tkv_closed _ _, pick], rfl⟩
      ·have hcl : isClose t = false := by simpa using h
       refine WC.skip ?_
       try simp only [EQ, reduceIte, Nat.reduceEqDiff]
       refine ⟨opnF t s.opn, [], ⟨fun hh => by rw [hop] at hh; exact absurd hh.1 (by simp), rfl⟩, ?_⟩
       have e1 : opnF t s.opn = s.opn := by simp [opnF, hop, hcl]
       rw [e1]
       refine ⟨by simp, by simp only [EV, EB, EL, ER, ET, and_self, true_and, and_true, Nat.reduceEqDiff, reduceCtorEq, reduceIte, pblk_ren], by simp only [EV, EB, EL, ER, ET, and_self, true_and, and_true, Nat.reduceEqDiff, reduceCtorEq, reduceIte, pblk_ren], by simp only [EV, EB, EL, ER, ET, and_self, true_and, and_true, Nat.reduceEqDiff, reduceCtorEq, reduceIte, pblk_ren, pick], rfl⟩
  ·rintro o ⟨hno, rfl⟩
   have hb1 : opnF t s.opn ≤ s.opn + 1 ∧ s.opn - 1 ≤ opnF t s.opn := by unfold opnF; split <;> (try split) <;> omega
   refine WC.rs fun K hK => ?_
   simp (maxSteps := 1000000) (disch := omega) only [↓EJ, EX, FA, simprocAttr, w64, wu64, pblk, pcell]
   refine hK _ ?_; try clear hK K
   refine WC.trim [0, 1, 4, 8, 9, 10, 18, 28] ?_
   simp only [ET, simprocAttr]
   refine WC.rs fun K hK => ?_
   simp only [↓EJ, EX, FA, simprocAttr]
   refine hK _ ?_; try clear hK K
   refine WC.trim [0, 1, 4, 8, 9, 10, 18, 28] ?_
   simp only [ET, simprocAttr]
   refine WC.ret ?_
   simp only [↓EJ, EX, FA, simprocAttr, EQ, FnQ, Tryd.results18, wResL, tup, List.reverse_cons, List.reverse_nil, true_and]
   refine PSem.done (fn := Tryd.f18) (s := ⟨s.at_ + 1, opnF t s.opn⟩) (v := true) (by simp only [acceptF, hi, Bool.true_eq_false, if_false, if_neg hno]) rfl (fun _ => rfl) ?_
   simp only [pblk, pcell, tks, Int.natCast_add]; rfl
end Go.LexSem
set_option maxHeartbeats 4000000
set_option maxRecDepth 8000
namespace Go.LexSem
open Go Go.V Go.Proofs Go.Num

def nameF (ts : List Tok) (s : PS) : Except Er (List UInt8 × PS) := if (cur ts s).1 ≠ 1 then .error (erAt (cur ts s) 4) else .ok ((cur ts s).2.1, ⟨s.at_ + 1, s.opn⟩)
theorem name_sem (ts : List Tok) (s : PS) (h : PInv ts s) : PSem 19 [] ts s (nameF ts s) .str := by
 have hlt := h.lt
 have hle := h.le
 unfold PSem
 refine FSem.enter' (C := C) (n := 20) Tryd.func19 rfl rfl ok_19 (by simp) ?_
 simp only [argEnv]
 refine WC.rs fun K hK => ?_
 simp only [↓EJ, EX, FA, simprocAttr]
 refine hK _ ?_; try clear hK K
 refine WC.trim [0, 2, 3, 8] ?_
 simp only [ET, simprocAttr]
 refine WC.rs fun K hK => ?_
 simp only [↓EJ, EX, FA, simprocAttr]
 refine CallX.mk (CallW.one (r := .o 0) (now_sem ts s h) rfl (pblk_closed ts s) (pblk_closed ts s) (tkv_closed1 _) (by simp [renL, ren, fCall]) ?_)
 simp only [↓EJ, EX, FA, simprocAttr, tkv_cells]
 refine And.intro rfl ?_
 refine hK _ ?_; try clear hK K
 refine WC.trim [0, 2, 3, 8] ?_
 simp only [ET, simprocAttr]
 refine WC.sK fun K1 hK1 => ?_
 refine WC.rs fun K hK => ?_
 simp only [↓EJ, EX, FA, simprocAttr]
 refine hK _ ?_; try clear hK K
 refine WC.trim [0, 2, 3, 8] ?_
 simp only [ET, simprocAttr]
 refine WC.cond (c := .tmp 8) rfl (fun h => ?_) (fun h => ?_)
 ·have hk : (cur ts s).1 ≠ 1 := by simp at h; omega
  refine WC.r1 ?_
  simp only [↓EJ, EX, FA, simprocAttr]
  refine CallX.mk (CallW.par (α := Unit) (enc := fun _ => .tuple []) (fail_par ts s ‹_› 4) rfl rfl (by simp only [CL, and_self]) (fun _ => by simp only [CL]) (fun v s' hv => nomatch hv) (fun e s' he => ?_))
  cases he
  exact PSem.fails (fn := Tryd.f19) (s := s') (by simp [nameF, hk]) rfl rfl
 ·have hk : (cur ts s).1 = 1 := by simp at h; omega
  refine WC.skip ?_
  try simp only [EQ, reduceIte, Nat.reduceEqDiff]
  refine hK1 _ ?_; try clear hK1 K1
  refine WC.rs fun K hK => ?_
  simp (maxSteps := 1000000) (disch := omega) only [↓EJ, EX, FA, simprocAttr, w64, wu64, pblk, pcell]
  refine hK _ ?_; try clear hK K
  refine WC.trim [0, 2, 3, 8] ?_
  simp only [ET, simprocAttr]
  refine WC.rs fun K hK => ?_
  simp only [↓EJ, EX, FA, simprocAttr]
  refine hK _ ?_; try clear hK K
  refine WC.trim [0, 2, 3, 8] ?_
  simp only [ET, simprocAttr]
  refine WC.ret ?_
  simp only [↓EJ, EX, FA, simprocAttr, EQ, FnQ, Tryd.results19, wResL, tup, List.reverse_cons, List.reverse_nil, true_and]
  refine PSem.done (fn := Tryd.f19) (s := ⟨s.at_ + 1, s.opn⟩) (v := (cur ts s).2.1) (by simp [nameF, hk]) rfl (fun _ => rfl) ?_
  simp only [pblk, pcell, tks, Int.natCast_add]; rfl
theorem nameF_inv {ts : List Tok} {s s' : PS} {v : List UInt8} (h : PInv ts s) (hx : nameF ts s = .ok (v, s')) : PInv ts s' ∧ s'.at_ = s.at_ + 1 := by
 unfold nameF at hx
 split at hx
 ·cases hx
 ·rename_i hk
  cases hx
  exact ⟨h.go (by omega) (by omega) (by omega), rfl⟩
theorem cur_mem {ts : List Tok} {s : PS} (h : PInv ts s) : cur ts s ∈ ts := by
 unfold cur
 have : ts.getD s.at_ (5, [], 1, 1) = ts[s.at_]'h.lt := by simp [List.getD_eq_getElem?_getD, h.lt]
 rw [this]; exact List.getElem_mem _
/-- The number that stands at: its limbs; the parser stays. -/
def limbsF (ts : List Tok) (s : PS) : Except Er (Nat × PS) := if (cur ts s).1 ≠ 2 then .error (erAt (cur ts s) 4) else .ok (dec (cur ts s).2.1, s)
theorem limbs_sem (ts : List Tok) (s : PS) (h : PInv ts s) : PSem 55 [] ts s (limbsF ts s) nv := by
 unfold PSem
 refine FSem.enter' (C := C) (n := 19) Tryd.func55 rfl rfl ok_55 (by simp) ?_
 simp only [argEnv]
 refine WC.rs fun K hK => ?_
 simp only [↓EJ, EX, FA, simprocAttr]
 refine hK _ ?_; try clear hK K
 refine WC.trim [0, 2, 3, 8] ?_
 simp only [ET, simprocAttr]
 refine WC.sK fun K1 hK1 => ?_
 refine WC.rs fun K hK => ?_
 simp only [↓EJ, EX, FA, simprocAttr]
 refine CallX.mk (CallW.one (r := .o 0) (now_sem ts s h) rfl (pblk_closed ts s) (pblk_closed ts s) (tkv_closed1 _) (by simp [renL, ren, fCall]) ?_)
 simp only [↓EJ, EX, FA, simprocAttr, tkv, tk]
 refine hK _ ?_; try clear hK K
 refine WC.trim [0, 2, 3, 8] ?_
 simp only [ET, simprocAttr]
 refine WC.cond (c := .tmp 8) rfl (fun h => ?_) (fun h => ?_)
 ·have hk : (cur ts s).1 ≠ 2 := by simp at h; omega
  refine WC.r1 ?_
  simp only [↓EJ, EX, FA, simprocAttr]
  refine CallX.mk (CallW.par (α := Unit) (enc := fun _ => .tuple []) (fail_par ts s ‹_› 4) rfl rfl (by simp only [CL, and_self]) (fun _ => by simp only [CL]) (fun v s' hv => nomatch hv) (fun e s' he => ?_))
  cases he
  exact PSem.fails (fn := Tryd.f55) (s := s') (by simp [limbsF, hk]) rfl rfl
 ·have hk : (cur ts s).1 = 2 := by simp at h; omega
  rename_i hI
  obtain ⟨n0, n60, nd⟩ := hI.num _ (cur_mem hI) hk
  refine WC.skip ?_
  try simp only [EQ, reduceIte, Nat.reduceEqDiff]
  refine hK1 _ ?_; try clear hK1 K1
  refine WC.rs fun K hK => ?_
  simp only [↓EJ, EX, FA, simprocAttr]
  refine CallX.mk (CallW.one (r := .o 0) (now_sem ts s hI) rfl (pblk_closed ts s) (pblk_closed ts s) (tkv_closed1 _) (by simp [renL, ren, fCall]) ?_)
  simp only [↓EJ, EX, FA, simprocAttr, tkv, tk]
  refine CallX.mk (CallW.pure (natParse_sem _ n0 n60 nd) (by simp only [CL, and_self]) (by simp only [CL, lbs_closed, and_self]) ?_)
  simp only [↓EJ, EX, FA, simprocAttr]
  refine hK _ ?_; try clear hK K
  refine WC.trim [0, 2, 3, 8] ?_
  simp only [ET, simprocAttr]
  refine WC.rs fun K hK => ?_
  simp only [↓EJ, EX, FA, simprocAttr]
  refine hK _ ?_; try clear hK K
  refine WC.trim [0, 2, 3, 8] ?_
  simp only [ET, simprocAttr]
  refine WC.ret ?_
  simp only [↓EJ, EX, FA, simprocAttr, EQ, FnQ, Tryd.results55, wResL, tup, List.reverse_cons, List.reverse_nil, true_and]
  exact PSem.done (fn := Tryd.f55) (s := s) (v := dec (cur ts s).2.1) (by simp [limbsF, hk]) rfl (fun f => nv_ren f _) rfl
def numberF (ts : List Tok) (s : PS) : Except Er (Nat × PS) := if (cur ts s).1 ≠ 2 then .error (erAt (cur ts s) 4) else if 1000000 < dec (cur ts s).2.1 then .error (erAt (cur ts s) 9) else .ok (dec (cur ts s).2.1, ⟨s.at_ + 1, s.opn⟩)
theorem dec_small {s : List UInt8} (h60 : s.length ≤ 60) (hd : ∀ c ∈ s, digitI (c.toNat : Int) = true) : okN (dec s) := by
 refine Nat.le_trans (len_toL (k := 100) (Nat.lt_of_lt_of_le (dec_lt s hd) ?_)) (by decide)
 exact Nat.le_trans (Nat.pow_le_pow_right (by decide) h60) (by decide)
theorem number_sem (ts : List Tok) (s : PS) (h : PInv ts s) : PSem 45 [] ts s (numberF ts s) (fun n => .int .i64 n) := by
 have hlt := h.lt
 have hle := h.le
 have hI := h
 unfold PSem
 refine FSem.enter' (C := C) (n := 27) Tryd.func45 rfl rfl ok_45 (by simp) ?_
 simp only [argEnv]
 refine WC.rs fun K hK => ?_
 simp only [↓EJ, EX, FA, simprocAttr]
 refine hK _ ?_; try clear hK K
 refine WC.trim [0, 2, 3, 4, 16] ?_
 simp only [ET, simprocAttr]
 refine WC.rs fun K hK => ?_
 simp only [↓EJ, EX, FA, simprocAttr]
 refine CallX.mk (CallW.par (enc := nv) (limbs_sem ts s hI) rfl rfl (by simp only [CL, and_self]) (fun v f => nv_ren f v) (fun v s' hv => ?_) (fun e s' he => ?_))
 ·unfold limbsF at hv
  split at hv
  ·cases hv
  rename_i hk
  have hk : (cur ts s).1 = 2 := by omega
  obtain ⟨n0, n60, nd⟩ := hI.num _ (cur_mem hI) hk
  have hok := dec_small n60 nd
  have hif := natInt_sem (toL (dec (cur ts s).2.1)) (lim_toL _) (Nat.le_trans hok (by decide))
  rw [val_toL] at hif
  cases hv
  generalize hd : dec (cur ts s).2.1 = v at *
  simp only [↓EJ, EX, FA, simprocAttr]
  refine CallX.mk (CallW.pure hif (by simp only [CL, lbs_closed, nv, and_self]) (by split <;> simp only [CL, and_self]) ?_)
  by_cases hv : v < 9223372036854775808
  ·rw [if_pos hv]
   simp only [↓EJ, EX, FA, simprocAttr]
   refine hK _ ?_; try clear hK K
   refine WC.trim [0, 2, 3, 4, 16] ?_
   simp only [ET, simprocAttr]
   refine WC.sK fun K1 hK1 => ?_
   refine WC.rs fun K hK => ?_
   simp only [↓EJ, EX, FA, simprocAttr, Bool.not_true, Bool.not_false]
   refine hK _ ?_; try clear hK K
   refine WC.trim [0, 2, 3, 4, 16] ?_
   simp only [ET, simprocAttr]
   refine WC.cond (c := .tmp 16) rfl (fun h => ?_) (fun h => ?_)
   ·have hgt : 1000000 < v := by simp at h; omega
    refine WC.r1 ?_
    simp only [↓EJ, EX, FA, simprocAttr]
    refine CallX.mk (CallW.par (α := Unit) (enc := fun _ => .tuple []) (fail_par ts s hI 9) rfl rfl (by simp only [CL, and_self]) (fun _ => by simp only [CL]) (fun v s' hv => nomatch hv) (fun e s' he => ?_))
    cases he
    exact PSem.fails (fn := Tryd.f45) (s := s') (by simp [numberF, hk, hd]; omega) rfl rfl
   ·have hgt : ¬ 1000000 < v := by simp at h; omega
    refine WC.skip ?_
    try simp only [EQ, reduceIte, Nat.reduceEqDiff]
    refine hK1 _ ?_; try clear hK1 K1
    refine WC.rs fun K hK => ?_
    simp (maxSteps := 1000000) (disch := omega) only [↓EJ, EX, FA, simprocAttr, w64, wu64, pblk, pcell]
    refine hK _ ?_; try clear hK K
    refine WC.trim [0, 2, 3, 4, 16] ?_
    simp only [ET, simprocAttr]
    refine WC.rs fun K hK => ?_
    simp only [↓EJ, EX, FA, simprocAttr]
    refine hK _ ?_; try clear hK K
    refine WC.trim [0, 2, 3, 4, 16] ?_
    simp only [ET, simprocAttr]
    refine WC.ret ?_
    simp only [↓EJ, EX, FA, simprocAttr, EQ, FnQ, Tryd.results45, wResL, tup, List.reverse_cons, List.reverse_nil, true_and]
    refine PSem.done (fn := Tryd.f45) (s := ⟨s.at_ + 1, s.opn⟩) (v := v) (by simp [numberF, hk, hd, hgt]) rfl (fun _ => rfl) ?_
    simp only [pblk, pcell, tks, Int.natCast_add]; rfl
  ·rw [if_neg hv]
   simp only [↓EJ, EX, FA, simprocAttr]
   refine hK _ ?_; try clear hK K
   refine WC.trim [0, 2, 3, 4, 16] ?_
   simp only [ET, simprocAttr]
   refine WC.sK fun K1 hK1 => ?_
   refine WC.rs fun K hK => ?_
   simp only [↓EJ, EX, FA, simprocAttr, Bool.not_true, Bool.not_false]
   refine hK _ ?_; try clear hK K
   refine WC.trim [0, 2, 3, 4, 16] ?_
   simp only [ET, simprocAttr]
   refine WC.cond (c := .tmp 16) rfl (fun h => ?_) (fun h => ?_)
   ·skip
    refine WC.r1 ?_
    simp only [↓EJ, EX, FA, simprocAttr]
    refine CallX.mk (CallW.par (α := Unit) (enc := fun _ => .tuple []) (fail_par ts s hI 9) rfl rfl (by simp only [CL, and_self]) (fun _ => by simp only [CL]) (fun v s' hv => nomatch hv) (fun e s' he => ?_))
    cases he
    exact PSem.fails (fn := Tryd.f45) (s := s') (by simp [numberF, hk, hd]; omega) rfl rfl
   ·simp at h
 ·have : e = erAt (cur ts s) 4 ∧ (cur ts s).1 ≠ 2 := by
   unfold limbsF at he
   split at he
   ·cases he; exact ⟨rfl, ‹_›⟩
   ·cases he
  exact PSem.fails (fn := Tryd.f45) (s := s') (by simp [numberF, this.2, this.1]) rfl rfl
end Go.LexSem
set_option maxHeartbeats 4000000
set_option maxRecDepth 8000
namespace Go.LexSem
open Go Go.V Go.Proofs Go.Num

theorem numberF_inv {ts : List Tok} {s s' : PS} {v : Nat} (h : PInv ts s) (hx : numberF ts s = .ok (v, s')) : PInv ts s' ∧ s'.at_ = s.at_ + 1 ∧ v ≤ 1000000 := by
 unfold numberF at hx
 split at hx
 ·cases hx
 ·rename_i hk
  split at hx
  ·cases hx
  ·rename_i hv
   cases hx
   exact ⟨h.go (by omega) (by omega) (by omega), rfl, by omega⟩
def integerF (ts : List Tok) (s : PS) : Except Er (Int × PS) :=
 match acceptF ts [45] s with
 | .error e => .error e
 | .ok (b, s1) => match numberF ts s1 with
   | .error e => .error e
   | .ok (n, s2) => .ok (if b then -(n : Int) else n, s2)
theorem integer_sem (ts : List Tok) (s : PS) (h : PInv ts s) : PSem 44 [] ts s (integerF ts s) (.int .i64) := by
 have hI := h
 unfold PSem
 refine FSem.enter' (C := C) (n := 10) Tryd.func44 rfl rfl ok_44 (by simp) ?_
 simp only [argEnv]
 refine WC.rs fun K hK => ?_
 simp only [↓EJ, EX, FA, simprocAttr]
 refine hK _ ?_; try clear hK K
 refine WC.trim [0, 2, 4] ?_
 simp only [ET, simprocAttr]
 refine WC.sK fun K1 hK1 => ?_
 refine WC.rs fun K hK => ?_
 simp only [↓EJ, EX, FA, simprocAttr]
 refine CallX.mk (CallW.par (enc := .bool) (accept_sem ts s hI [45]) rfl rfl (by simp only [CL, and_self]) (fun v => by simp only [CL]) (fun b s1 hb => ?_) (fun e s' he => ?_))
 ·obtain ⟨hI1, _, _⟩ := acceptF_inv hI hb
  simp only [↓EJ, EX, FA, simprocAttr]
  refine hK _ ?_; try clear hK K
  refine WC.trim [0, 2, 4] ?_
  simp only [ET, simprocAttr]
  refine WC.cond (c := .tmp 4) rfl (fun h => ?_) (fun h => ?_)
  ·have hbt : b = true := by simpa using h
   subst hbt
   refine WC.rs fun K hK => ?_
   simp only [↓EJ, EX, FA, simprocAttr]
   refine CallX.mk (CallW.par (enc := fun n : Nat => .int .i64 (n : Int)) (number_sem ts s1 hI1) rfl rfl (by simp only [CL, and_self]) (fun v => by simp only [CL]) (fun n s2 hn => ?_) (fun e s' he => ?_))
   ·obtain ⟨_, _, hsm⟩ := numberF_inv hI1 hn
    simp (maxSteps := 1000000) (disch := omega) only [↓EJ, EX, FA, simprocAttr, w64, wu64]
    refine hK _ ?_; try clear hK K
    refine WC.trim [0, 2, 4] ?_
    simp only [ET, simprocAttr]
    refine WC.ret ?_
    simp only [↓EJ, EX, FA, simprocAttr, EQ, FnQ, Tryd.results44, wResL, tup, List.reverse_cons, List.reverse_nil, true_and]
    exact PSem.done (fn := Tryd.f44) (s := s2) (v := -(n : Int)) (by simp [integerF, hb, hn]) (by rw [Int.zero_sub]) (fun _ => rfl) rfl
   ·exact PSem.fails (fn := Tryd.f44) (s := s') (by simp [integerF, hb, he]) rfl rfl
  ·have hbf : b = false := by simpa using h
   subst hbf
   refine WC.skip ?_
   try simp only [EQ, reduceIte, Nat.reduceEqDiff]
   refine hK1 _ ?_; try clear hK1 K1
   refine WC.rs fun K hK => ?_
   simp only [↓EJ, EX, FA, simprocAttr]
   refine CallX.mk (CallW.par (enc := fun n : Nat => .int .i64 (n : Int)) (number_sem ts s1 hI1) rfl rfl (by simp only [CL, and_self]) (fun v => by simp only [CL]) (fun n s2 hn => ?_) (fun e s' he => ?_))
   ·simp only [↓EJ, EX, FA, simprocAttr]
    refine hK _ ?_; try clear hK K
    refine WC.trim [0, 2, 4] ?_
    simp only [ET, simprocAttr]
    refine WC.ret ?_
    simp only [↓EJ, EX, FA, simprocAttr, EQ, FnQ, Tryd.results44, wResL, tup, List.reverse_cons, List.reverse_nil, true_and]
    exact PSem.done (fn := Tryd.f44) (s := s2) (v := (n : Int)) (by simp [integerF, hb, hn]) rfl (fun _ => rfl) rfl
   ·exact PSem.fails (fn := Tryd.f44) (s := s') (by simp [integerF, hb, he]) rfl rfl
 ·exact PSem.fails (fn := Tryd.f44) (s := s') (by simp [integerF, he]) rfl rfl
theorem limbsF_ok {ts : List Tok} {s s' : PS} {v : Nat} (h : PInv ts s) (hx : limbsF ts s = .ok (v, s')) : s' = s ∧ (cur ts s).1 = 2 ∧ v = dec (cur ts s).2.1 ∧ okN v := by
 unfold limbsF at hx
 split at hx
 ·cases hx
 ·rename_i hk
  have hk : (cur ts s).1 = 2 := by omega
  obtain ⟨n0, n60, nd⟩ := h.num _ (cur_mem h) hk
  cases hx
  exact ⟨rfl, hk, rfl, dec_small n60 nd⟩
def denomF (ts : List Tok) (s : PS) : Except Er (Nat × PS) :=
 match limbsF ts s with
 | .error e => .error e
 | .ok (n, s1) => if n = 0 then .error (erAt (cur ts s1) 3) else .ok (n, ⟨s1.at_ + 1, s1.opn⟩)
theorem denom_sem (ts : List Tok) (s : PS) (h : PInv ts s) : PSem 65 [] ts s (denomF ts s) nv := by
 have hI := h
 have hlt := h.lt
 have hle := h.le
 unfold PSem
 refine FSem.enter' (C := C) (n := 19) Tryd.func65 rfl rfl ok_65 (by simp) ?_
 simp only [argEnv]
 refine WC.rs fun K hK => ?_
 simp only [↓EJ, EX, FA, simprocAttr]
 refine hK _ ?_; try clear hK K
 refine WC.trim [0, 2, 3, 8] ?_
 simp only [ET, simprocAttr]
 refine WC.rs fun K hK => ?_
 simp only [↓EJ, EX, FA, simprocAttr]
 refine CallX.mk (CallW.par (enc := nv) (limbs_sem ts s hI) rfl rfl (by simp only [CL, and_self]) (fun v f => nv_ren f v) (fun v s1 hv => ?_) (fun e s' he => ?_))
 ·obtain ⟨rfl, hk, hvd, hok⟩ := limbsF_ok hI hv
  simp only [↓EJ, EX, FA, simprocAttr]
  refine hK _ ?_; try clear hK K
  refine WC.trim [0, 2, 3, 8] ?_
  simp only [ET, simprocAttr]
  refine WC.sK fun K1 hK1 => ?_
  refine WC.rs fun K hK => ?_
  simp only [↓EJ, EX, FA, simprocAttr, nv_def, List.length_map]
  refine hK _ ?_; try clear hK K
  refine WC.trim [0, 2, 3, 8] ?_
  simp only [ET, simprocAttr]
  refine WC.cond (c := .tmp 8) rfl (fun h => ?_) (fun h => ?_)
  ·have h0 : v = 0 := toL_eq_nil.1 (List.length_eq_zero_iff.1 (by simpa using h))
   refine WC.r1 ?_
   simp only [↓EJ, EX, FA, simprocAttr]
   refine CallX.mk (CallW.par (α := Unit) (enc := fun _ => .tuple []) (fail_par ts s1 hI 3) rfl rfl (by simp only [CL, and_self]) (fun _ => by simp only [CL]) (fun v s' hv => nomatch hv) (fun e s' he => ?_))
   cases he
   exact PSem.fails (fn := Tryd.f65) (s := s') (by simp [denomF, hv, h0]) rfl rfl
  ·have h0 : v ≠ 0 := fun e => by subst e; rw [toL_zero] at h; simp at h
   refine WC.skip ?_
   try simp only [EQ, reduceIte, Nat.reduceEqDiff]
   refine hK1 _ ?_; try clear hK1 K1
   refine WC.rs fun K hK => ?_
   simp (maxSteps := 1000000) (disch := omega) only [↓EJ, EX, FA, simprocAttr, w64, wu64, pblk, pcell]
   refine hK _ ?_; try clear hK K
   refine WC.trim [0, 2, 3, 8] ?_
   simp only [ET, simprocAttr]
   refine WC.rs fun K hK => ?_
   simp only [↓EJ, EX, FA, simprocAttr]
   refine hK _ ?_; try clear hK K
   refine WC.trim [0, 2, 3, 8] ?_
   simp only [ET, simprocAttr]
   refine WC.ret ?_
   simp only [↓EJ, EX, FA, simprocAttr, EQ, FnQ, Tryd.results65, wResL, tup, List.reverse_cons, List.reverse_nil, true_and]
   refine PSem.done (fn := Tryd.f65) (s := ⟨s1.at_ + 1, s1.opn⟩) (v := v) (by simp [denomF, hv, h0]) rfl (fun f => nv_ren f v) ?_
   simp only [pblk, pcell, tks, Int.natCast_add]; rfl
 ·exact PSem.fails (fn := Tryd.f65) (s := s') (by simp [denomF, he]) rfl rfl
end Go.LexSem
set_option maxHeartbeats 4000000
set_option maxRecDepth 8000
namespace Go.LexSem
open Go Go.V Go.Proofs Go.Num

theorem denomF_inv {ts : List Tok} {s s' : PS} {v : Nat} (h : PInv ts s) (hx : denomF ts s = .ok (v, s')) : PInv ts s' ∧ s'.at_ = s.at_ + 1 ∧ v ≠ 0 ∧ okN v := by
 unfold denomF at hx
 split at hx
 ·cases hx
 ·rename_i n s1 hl
  obtain ⟨rfl, hk, _, hok⟩ := limbsF_ok h hl
  split at hx
  ·cases hx
  ·cases hx
   exact ⟨h.go (by omega) (by omega) (by omega), rfl, ‹_›, hok⟩
/-- A fraction in lowest terms. -/
def fracN (b : Bool) (n d : Nat) : Bool × Nat × Nat := (b && decide (n ≠ 0), n / n.gcd d, d / n.gcd d)
def fracE (q : Bool × Nat × Nat) : PVal := fracV q.1 q.2.1 q.2.2
def fracF (ts : List Tok) (s : PS) : Except Er ((Bool × Nat × Nat) × PS) :=
 match acceptF ts [45] s with
 | .error e => .error e
 | .ok (b, s1) => match limbsF ts s1 with
   | .error e => .error e
   | .ok (n, s2) => match acceptF ts [47] ⟨s2.at_ + 1, s2.opn⟩ with
     | .error e => .error e
     | .ok (false, s3) => .ok (fracN b n 1, s3)
     | .ok (true, s3) => match denomF ts s3 with
       | .error e => .error e
       | .ok (d, s4) => .ok (fracN b n d, s4)
theorem fraction_sem (ts : List Tok) (s : PS) (h : PInv ts s) : PSem 57 [] ts s (fracF ts s) fracE := by
 have hI := h
 unfold PSem
 refine FSem.enter' (C := C) (n := 32) Tryd.func57 rfl rfl ok_57 (by simp) ?_
 simp only [argEnv]
 refine WC.rs fun K hK => ?_
 simp only [↓EJ, EX, FA, simprocAttr]
 refine hK _ ?_; try clear hK K
 refine WC.trim [0, 2, 3, 4, 5, 6, 21] ?_
 simp only [ET, simprocAttr]
 refine WC.rs fun K hK => ?_
 simp only [↓EJ, EX, FA, simprocAttr]
 refine CallX.mk (CallW.par (enc := .bool) (accept_sem ts s hI [45]) rfl rfl (by simp only [CL, and_self]) (fun v => by simp only [CL]) (fun b s1 hb => ?_) (fun e s' he => ?_))
 ·obtain ⟨hI1, _, _⟩ := acceptF_inv hI hb
  have hlt := hI1.lt
  have hle := hI1.le
  simp only [↓EJ, EX, FA, simprocAttr]
  refine hK _ ?_; try clear hK K
  refine WC.trim [0, 2, 3, 4, 5, 6, 21] ?_
  simp only [ET, simprocAttr]
  refine WC.zs [2] (by simp only [cutZ, List.drop_zero, List.drop_succ_cons, List.take_zero, List.take_succ_cons, Option.map_some]; rfl) fun K hK => ?_
  simp only [↓EJ, EX, FA, simprocAttr, EZ]
  refine CallX.mk (CallW.par (enc := nv) (limbs_sem ts s1 hI1) rfl rfl (by simp only [CL, and_self]) (fun v f => nv_ren f v) (fun n s2 hn => ?_) (fun e s' he => ?_))
  ·obtain ⟨rfl, hk, hvd, hok⟩ := limbsF_ok hI1 hn
   simp only [↓EJ, EX, FA, simprocAttr, EZ]
   refine hK _ ?_; try clear hK K
   refine WC.trim [0, 2, 3, 4, 5, 6, 21] ?_
   simp only [ET, simprocAttr]
   refine WC.rs fun K hK => ?_
   simp (maxSteps := 1000000) (disch := omega) only [↓EJ, EX, FA, simprocAttr, w64, wu64, pblk, pcell]
   refine hK _ ?_; try clear hK K
   refine WC.trim [0, 2, 3, 4, 5, 6, 21] ?_
   simp only [ET, simprocAttr]
   have hI2 := hI1.go (o := s2.opn) (by omega) (by omega) (by omega)
   refine WC.sx (X := Nat × PS) (fun x => okN x.1 ∧ x.1 ≠ 0 ∧ PInv ts x.2 ∧ fracF ts s = .ok (fracN b n x.1, x.2)) (fun x => ⟨[(5, nv x.1), (4, nv n), (3, .bool b), (2, .ptr (.l 0) 0 0), (0, .ptr (.o 0) 0 0)], [pblk ts x.2], [.row [.agg [.bool false, .nils, .nils]] 3 48], []⟩) ?_ ?_
   ·refine WC.rs fun K hK => ?_
    simp only [↓EJ, EX, FA, simprocAttr]
    refine CallX.mk (CallW.par (enc := .bool) (accept_sem ts ⟨s2.at_ + 1, s2.opn⟩ hI2 [47]) rfl rfl (by simp only [CL, and_self]) (fun v => by simp only [CL]) (fun b2 s3 hb2 => ?_) (fun e s' he => ?_))
    ·obtain ⟨hI3, _, _⟩ := acceptF_inv hI2 hb2
     simp only [↓EJ, EX, FA, simprocAttr]
     refine hK _ ?_; try clear hK K
     refine WC.trim [0, 2, 3, 4, 5, 6, 21] ?_
     simp only [ET, simprocAttr]
     refine WC.cond (c := .tmp 21) rfl (fun h => ?_) (fun h => ?_)
     ·have hbt : b2 = true := by simpa using h
      subst hbt
      refine WC.r1 ?_
      simp only [↓EJ, EX, FA, simprocAttr]
      refine CallX.mk (CallW.par (enc := nv) (denom_sem ts s3 hI3) rfl rfl (by simp only [CL, and_self]) (fun v f => nv_ren f v) (fun d s4 hd => ?_) (fun e s' he => ?_))
      ·obtain ⟨hI4, _, hd0, hdk⟩ := denomF_inv hI3 hd
       simp only [↓EJ, EX, FA, simprocAttr]
       try simp only [EQ, reduceIte, Nat.reduceEqDiff]
       refine ⟨(d, s4), [0], ⟨hdk, hd0, hI4, by simp [fracF, hb, hn, hb2, hd]⟩, ?_⟩
       refine ⟨by simp, by simp only [EV, EB, EL, ER, ET, and_self, true_and, and_true, Nat.reduceEqDiff, reduceCtorEq, reduceIte, nv_ren, pblk_ren], by simp only [EV, EB, EL, ER, ET, and_self, true_and, and_true, Nat.reduceEqDiff, reduceCtorEq, reduceIte, nv_ren, pblk_ren], by simp only [EV, EB, EL, ER, ET, and_self, true_and, and_true, Nat.reduceEqDiff, reduceCtorEq, reduceIte, nv_ren, pblk_ren, pick], rfl⟩
      ·exact PSem.fails (fn := Tryd.f57) (s := s') (by simp [fracF, hb, hn, hb2, he]) rfl rfl
     ·have hbt : b2 = false := by simpa using h
      subst hbt
      refine WC.skip ?_
      try simp only [EQ, reduceIte, Nat.reduceEqDiff]
      have hok1 : okN 1 := by rw [okN, toL_lt (by decide) (by decide)]; decide
      have e1 : nv 1 = .slc [.int .u32 1] := by rw [nv, toL_lt (by decide) (by decide)]; rfl
      refine ⟨(1, s3), [0], ⟨hok1, Nat.one_ne_zero, hI3, by simp [fracF, hb, hn, hb2]⟩, ?_⟩
      refine ⟨by simp, by simp only [EV, EB, EL, ER, ET, and_self, true_and, and_true, Nat.reduceEqDiff, reduceCtorEq, reduceIte, nv_ren, pblk_ren, e1], by simp only [EV, EB, EL, ER, ET, and_self, true_and, and_true, Nat.reduceEqDiff, reduceCtorEq, reduceIte, nv_ren, pblk_ren, e1], by simp only [EV, EB, EL, ER, ET, and_self, true_and, and_true, Nat.reduceEqDiff, reduceCtorEq, reduceIte, nv_ren, pblk_ren, e1, pick], rfl⟩
    ·exact PSem.fails (fn := Tryd.f57) (s := s') (by simp [fracF, hb, hn, he]) rfl rfl
   ·rintro ⟨d, s4⟩ ⟨hdk, hd0, hI4, hx⟩
    dsimp only at hdk hd0 hI4 hx ⊢
    have hm := make_sem b n d hok hdk
    rw [if_neg hd0] at hm
    have hfc := fracV_closed (b && decide (n ≠ 0)) (n / n.gcd d) (d / n.gcd d)
    have hfs := fracV_solid (b && decide (n ≠ 0)) (n / n.gcd d) (d / n.gcd d)
    have hfl := fracV_cells (b && decide (n ≠ 0)) (n / n.gcd d) (d / n.gcd d)
    have hfd : fracV (b && decide (n ≠ 0)) (n / n.gcd d) (d / n.gcd d) = .agg [.bool (b && decide (n ≠ 0)), numV (n / n.gcd d), nv (d / n.gcd d)] := rfl
    have hfe : fracV (b && decide (n ≠ 0)) (n / n.gcd d) (d / n.gcd d) = fracE (fracN b n d) := rfl
    generalize hF : fracV (b && decide (n ≠ 0)) (n / n.gcd d) (d / n.gcd d) = fr at *
    refine WC.rs fun K hK => ?_
    simp only [↓EJ, EX, FA, simprocAttr]
    refine CallX.mk (CallW.pure hm (by simp only [CL, nv_closed, and_self]) (by simp only [CL, hfc, and_self]) ?_)
    simp only [↓EJ, EX, FA, simprocAttr, hfs, hfl, List.length_cons, List.length_nil, List.drop_succ_cons, List.drop_zero, List.append_nil, and_true, true_and]
    refine hK _ ?_; try clear hK K
    refine WC.trim [0, 2, 3, 4, 5, 6, 21] ?_
    simp only [ET, simprocAttr]
    rw [← hfd]
    refine WC.rs fun K hK => ?_
    simp only [↓EJ, EX, FA, simprocAttr, hfs, hfl, List.length_cons, List.length_nil, List.drop_succ_cons, List.drop_zero, List.append_nil, and_true, true_and]
    refine hK _ ?_; try clear hK K
    refine WC.trim [0, 2, 3, 4, 5, 6, 21] ?_
    simp only [ET, simprocAttr]
    refine WC.ret ?_
    simp only [↓EJ, EX, FA, simprocAttr, EQ, FnQ, Tryd.results57, wResL, tup, List.reverse_cons, List.reverse_nil, true_and]
    exact PSem.done (fn := Tryd.f57) (s := s4) (v := fracN b n d) hx (by rw [← hfe, hfd]) (by rw [← hfe]; exact hfc) rfl
  ·exact PSem.fails (fn := Tryd.f57) (s := s') (by simp [fracF, hb, he]) rfl rfl
 ·exact PSem.fails (fn := Tryd.f57) (s := s') (by simp [fracF, he]) rfl rfl
end Go.LexSem
set_option maxHeartbeats 4000000
set_option maxRecDepth 8000
namespace Go.LexSem
open Go Go.V Go.Proofs Go.Num

theorem wB_min (D : Ctx) (ts : Array TypeId) (k k' : IntKind) (a b : Int) (σ : St) (K KP : PVal → St → Prop) : wBuiltin D .min ts [.int k a, .int k' b] σ K KP = K (.int k (mn a b)) σ := rfl
/-- The token behind the one that stands at. -/
def nxt (ts : List Tok) (s : PS) : Tok := ts.getD (min (s.at_ + 1) (ts.length - 1)) (5, [], 1, 1)
theorem next_sem (ts : List Tok) (s : PS) (h : PInv ts s) : FSem C 49 [.ptr (.o 0) 0 0] [pblk ts s] fun r st => r = .ret (tkv (nxt ts s)) ∧ st = [pblk ts s] := by
 have hlt := h.lt
 have hle := h.le
 have hg := tkv_gi (ts := ts) (i := min (s.at_ + 1) (ts.length - 1)) (by omega)
 refine FSem.enter' (C := C) (n := 21) Tryd.func49 rfl rfl ok_49 (by simp) ?_
 simp only [argEnv]
 refine WC.rs fun K hK => ?_
 simp only [↓EJ, EX, FA, simprocAttr, pblk, pcell, tks]
 refine hK _ ?_; try clear hK K
 refine WC.trim [0, 2] ?_
 simp only [ET, simprocAttr]
 have w1 := w64 (x := (s.at_ : Int) + 1) (by omega) (by omega)
 have w2 := w64 (x := (ts.length : Int) - 1) (by omega) (by omega)
 have em : mn ((s.at_ : Int) + 1) ((ts.length : Int) - 1) = ((min (s.at_ + 1) (ts.length - 1) : Nat) : Int) := by unfold mn; split <;> omega
 refine WC.ds [⟨0, 0, false, []⟩, ⟨1, 0, false, []⟩, ⟨2, 0, false, []⟩, ⟨3, 0, false, []⟩, ⟨4, 0, false, []⟩, ⟨5, 0, false, []⟩, ⟨6, 0, false, []⟩, ⟨7, 0, false, []⟩, ⟨8, 0, false, []⟩, ⟨9, 0, false, []⟩, ⟨10, 0, false, []⟩, ⟨11, 0, false, []⟩, ⟨12, 0, false, []⟩, ⟨13, 0, false, []⟩, ⟨14, 0, false, []⟩, ⟨15, 0, false, []⟩, ⟨16, 0, false, []⟩, ⟨17, 0, false, []⟩, ⟨18, 1, false, []⟩] [0, 1, 3, 7, 0, 16, 48, 112, 240, 0, 512, 1536, 3584, 7680, 15872, 32752, 65535, 131071, 262143] mo (by kernel_rfl) (by simp only [EPl, List.getElem?_cons_zero, List.getElem?_cons_succ]; rfl) fun K hK => ?_
 simp only [↓EJ, EX, FA, simprocAttr, wB_min, pblk, pcell, tks, List.length_map, w1, w2, em, Int.toNat_natCast, hg, tkv_cells]
 repeat refine And.intro (by omega) ?_
 refine hK _ ?_; try clear hK K
 refine WC.trim [0, 2] ?_
 simp only [ET, simprocAttr]
 refine WC.ret ?_
 simp only [↓EJ, EX, FA, simprocAttr, EQ, FnQ, Tryd.results49, wResL, tup, List.reverse_cons, List.reverse_nil, true_and]
 refine EndsIn.plain (by simp only [CL, and_self]) (fun k hk => ?_) ⟨rfl, rfl⟩
 simp only [List.mem_singleton] at hk
 subst hk
 exact pblk_closed ts s
end Go.LexSem
set_option maxHeartbeats 4000000
set_option maxRecDepth 8000
namespace Go.LexSem
open Go Go.V Go.Proofs Go.Num

/-- Words and signs that must stand there, one behind the other. -/
def expectF (ts : List Tok) : List (List UInt8) → PS → Except Er (Unit × PS)
 | [], s => .ok ((), s)
 | t :: r, s => match acceptF ts t s with
   | .error e => .error e
   | .ok (true, s1) => expectF ts r s1
   | .ok (false, s1) => .error (erAt (cur ts s1) 4)
theorem expectF_inv {ts : List Tok} : ∀ {l : List (List UInt8)} {s s' : PS} {u : Unit}, PInv ts s → expectF ts l s = .ok (u, s') → PInv ts s' ∧ s'.at_ = s.at_ + l.length
 | [], s, s', u, h, hx => by cases hx; exact ⟨h, rfl⟩
 | t :: r, s, s', u, h, hx => by
   unfold expectF at hx
   split at hx
   ·cases hx
   ·rename_i s1 ha
    obtain ⟨h1, _, h2⟩ := acceptF_inv h ha
    obtain ⟨h3, h4⟩ := expectF_inv h1 hx
    refine ⟨h3, ?_⟩
    rw [h4, h2 rfl, List.length_cons]; omega
   ·cases hx
theorem strs_ren (f : Ref → Ref) (l : List (List UInt8)) : renL f (l.map PVal.str) = l.map PVal.str := ClosedL.map (fun t => fun _ => rfl) l f
theorem expect_sem (ts : List Tok) (l : List (List UInt8)) (s : PS) (h : PInv ts s) (hl : l.length ≤ 1000) : PSem 20 [.slc (l.map .str)] ts s (expectF ts l s) (fun _ => .tuple []) := by
 unfold PSem
 refine FSem.enter' (C := C) (n := 19) Tryd.func20 rfl rfl ok_20 (by simp) ?_
 simp only [argEnv]
 refine WC.rs fun K hK => ?_
 simp only [↓EJ, EX, FA, simprocAttr, List.length_map]
 refine hK _ ?_; try clear hK K
 refine WC.trim [0, 1, 5, 6, 7, 8, 9, 15] ?_
 simp only [ET, simprocAttr]
 refine WC.b1 ?_
 refine WC.loop (X := Nat × PS) (fun x => ⟨[(8, .int .i64 x.1), (7, .int .i64 l.length), (6, .slc (l.map .str)), (0, .ptr (.o 0) 0 0)], [pblk ts x.2], [], []⟩) (fun x => x.1 ≤ l.length ∧ PInv ts x.2 ∧ expectF ts l s = expectF ts (l.drop x.1) x.2) (fun x => l.length - x.1) (0, s) [] ⟨Nat.zero_le _, h, rfl⟩ ?_ ?_
 ·refine ⟨by simp, by simp only [EV, EB, EL, ER, ET, and_self, true_and, and_true, Nat.reduceEqDiff, reduceCtorEq, reduceIte, pblk_ren, strs_ren _ _], by simp only [EV, EB, EL, ER, ET, and_self, true_and, and_true, Nat.reduceEqDiff, reduceCtorEq, reduceIte, pblk_ren, strs_ren _ _], by simp only [EV, EB, EL, ER, ET, and_self, true_and, and_true, Nat.reduceEqDiff, reduceCtorEq, reduceIte, pblk_ren, strs_ren _ _, pick], rfl⟩
 ·rintro ⟨i, s1⟩ ⟨h1, h2, h3⟩
  dsimp only at h1 h2 h3 ⊢
  refine WC.rs fun K hK => ?_
  simp only [↓EJ, EX, FA, simprocAttr]
  refine hK _ ?_; try clear hK K
  refine WC.trim [0, 1, 5, 6, 7, 8, 9, 15] ?_
  simp only [ET, simprocAttr]
  refine WC.cs (c := .tmp 9) rfl fun K2 hK2 => ⟨fun h => ?_, fun h => ?_⟩
  ·have hlt : i < l.length := by simpa using h
   have hg : gi (l.map PVal.str) i = .str l[i] := by simp [gi, hlt]
   rw [List.drop_eq_getElem_cons hlt] at h3
   generalize l[i] = t at *
   refine WC.skip ?_
   simp only [EQ]
   refine hK2 _ ?_; try clear hK2 K2
   refine WC.bs fun K3 hK3 => ?_
   refine WC.rs fun K hK => ?_
   simp only [↓EJ, EX, FA, simprocAttr, List.length_map, hg]
   repeat refine And.intro (by omega) ?_
   refine hK _ ?_; try clear hK K
   refine WC.trim [0, 1, 5, 6, 7, 8, 9, 15] ?_
   simp only [ET, simprocAttr]
   refine WC.rs fun K hK => ?_
   simp only [↓EJ, EX, FA, simprocAttr]
   refine CallX.mk (CallW.par (enc := .bool) (accept_sem ts s1 h2 t) rfl rfl (by simp only [CL, and_self]) (fun v => by simp only [CL]) (fun b s2 hb => ?_) (fun e s' he => ?_))
   ·obtain ⟨hI, _, _⟩ := acceptF_inv h2 hb
    simp only [↓EJ, EX, FA, simprocAttr]
    refine hK _ ?_; try clear hK K
    refine WC.trim [0, 1, 5, 6, 7, 8, 9, 15] ?_
    simp only [ET, simprocAttr]
    refine WC.cond (c := .tmp 15) rfl (fun h => ?_) (fun h => ?_)
    ·have hbf : b = false := by simpa using h
     subst hbf
     refine WC.r1 ?_
     simp only [↓EJ, EX, FA, simprocAttr]
     refine CallX.mk (CallW.par (α := Unit) (enc := fun _ => .tuple []) (fail_par ts s2 hI 4) rfl rfl (by simp only [CL, and_self]) (fun _ => by simp only [CL]) (fun v s' hv => nomatch hv) (fun e s' he => ?_))
     cases he
     exact PSem.fails (fn := Tryd.f20) (s := s') (by rw [h3]; simp [expectF, hb]) rfl rfl
    ·have hbt : b = true := by simpa using h
     subst hbt
     refine WC.skip ?_
     try simp only [EQ, reduceIte, Nat.reduceEqDiff]
     refine hK3 _ ?_; try clear hK3 K3
     refine WC.r1 ?_
     simp (maxSteps := 1000000) (disch := omega) only [↓EJ, EX, FA, simprocAttr, w64, wu64]
     try simp only [EQ, reduceIte, Nat.reduceEqDiff]
     refine ⟨(i + 1, s2), [], ⟨by dsimp only; omega, hI, by rw [h3]; simp [expectF, hb]⟩, by dsimp only; omega, ?_⟩
     refine ⟨by simp, by simp only [EV, EB, EL, ER, ET, and_self, true_and, and_true, Nat.reduceEqDiff, reduceCtorEq, reduceIte, Int.natCast_add, pblk_ren, strs_ren _ _], by simp only [EV, EB, EL, ER, ET, and_self, true_and, and_true, Nat.reduceEqDiff, reduceCtorEq, reduceIte, Int.natCast_add, pblk_ren, strs_ren _ _], by simp only [EV, EB, EL, ER, ET, and_self, true_and, and_true, Nat.reduceEqDiff, reduceCtorEq, reduceIte, Int.natCast_add, pblk_ren, strs_ren _ _, pick], rfl⟩
   ·exact PSem.fails (fn := Tryd.f20) (s := s') (by rw [h3]; simp [expectF, he]) rfl rfl
  ·have hge : i = l.length := by simp at h; omega
   refine WC.exit ?_
   simp only [EQ, reduceIte, Nat.reduceEqDiff]
   subst hge
   refine ⟨rfl, ?_⟩
   refine PSem.done (fn := Tryd.f20) (s := s1) (v := ()) (by rw [h3, List.drop_length]; rfl) rfl (fun _ => rfl) rfl
end Go.LexSem
