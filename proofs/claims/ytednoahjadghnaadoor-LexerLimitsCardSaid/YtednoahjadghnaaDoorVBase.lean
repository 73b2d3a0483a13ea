/-
  The abstract side of a walk: values as trees ('PVal'), a small store of blocks of the call's own ('Blk'), and how they lie in the kit's world ('Rep', 'MemRel').
-/
import Derived.WalkKit
import Derived.Deep.MidRow
import Derived.Deep.QuietTactic
import Derived.BigQuiet
namespace Go.V
open Go

inductive Ref where
  | o (n : Nat)
  | l (n : Nat)
  deriving DecidableEq

inductive PVal where
  | any
  | bool (b : Bool)
  | int (k : IntKind) (n : Int)
  | str (s : List UInt8)
  | nilp
  | ptr (r : Ref) (i off : Nat)
  | gptr (g off : Nat)
  | eptr (x : PVal) (off : Nat)
  | nils
  | slc (xs : List PVal)
  | ref (r : Ref) (off len : Nat)
  | agg (cs : List PVal)
  | tuple (vs : List PVal)
  | iface (t : TypeId) (v : PVal)
  | niliface
  | fn (f : Fn) (first caps : List PVal)
  | nilfn
  | nilmap
  | fmap (ks vs : List PVal)
  | mref (r : Ref)
  deriving Inhabited

/-- The cells of a value. -/
def PVal.cells : PVal → List PVal
  | .agg cs => cs
  | p => [p]

/-- A value that may be stored into memory. -/
def PVal.solid : PVal → Bool
  | .any | .tuple _ => false
  | _ => true

inductive Loc where
  | out
  | dead
  | none
  | at (b base size : Nat)

structure View where
  w : World
  loc : Ref → Loc
  own : Nat → Prop

inductive Rep (V : View) : PVal → Value → Prop
  | any {v} : Rep V .any v
  | bool {b} : Rep V (.bool b) (.bool b)
  | int {k n} : Rep V (.int k n) (.int k n)
  | str {s : List UInt8} : Rep V (.str s) (.string ⟨⟨s⟩⟩)
  | nilp : Rep V .nilp (.pointer none)
  | ptr {r i off b base size} (h : V.loc r = .at b base size) : Rep V (.ptr r i off) (.pointer (some ⟨b, base + i * size + off, none⟩))
  | ptrDead {r i off v} (h : V.loc r = .dead) (h1 : v.oneCell' = true) : Rep V (.ptr r i off) v
  | gptr {g off} : Rep V (.gptr g off) (.pointer (some ⟨g, off, none⟩))
  | eptr {x off b o} (f : Nat → Value) (hown : ¬ V.own b) (hb : b < V.w.heap.size) (hc : ∀ n, n < x.cells.length → V.w.cell? ⟨b, o + n, none⟩ = some (f n) ∧ (f n).oneCell' = true)
      (hx : ∀ (j : Nat) (c : PVal), x.cells[j]? = some c → Rep V c (f j)) : Rep V (.eptr x off) (.pointer (some ⟨b, o + off, none⟩))
  | nils : Rep V .nils (.slice none 0 0)
  | slcEmpty {a cap} : Rep V (.slc []) (.slice a 0 cap)
  | slc {xs b off cap} (size : Nat) (f : Nat → Value) (hown : ¬ V.own b) (hb : b < V.w.heap.size) (hcap : xs.length ≤ cap)
      (hc : ∀ n, n < xs.length * size → V.w.cell? ⟨b, off + n, none⟩ = some (f n) ∧ (f n).oneCell' = true)
      (hs : ∀ (i : Nat) (x : PVal), xs[i]? = some x → x.cells.length = size)
      (hx : ∀ (i : Nat) (x : PVal) (j : Nat) (c : PVal), xs[i]? = some x → x.cells[j]? = some c → Rep V c (f (i * size + j))) : Rep V (.slc xs) (.slice (some ⟨b, off, none⟩) xs.length cap)
  | ref {r off len cap b base size} (h : V.loc r = .at b base size) (hcap : len ≤ cap)
      (hsz : ∃ ty n, V.w.shape? b = some (ty, n) ∧ base + (off + cap) * size ≤ n) : Rep V (.ref r off len) (.slice (some ⟨b, base + off * size, none⟩) len cap)
  | refEmpty {r off a} (h : V.loc r = .none ∨ ∃ b base size, V.loc r = .at b base size) : Rep V (.ref r off 0) (.slice a 0 0)
  | refDead {r off len v} (h : V.loc r = .dead) (h1 : v.oneCell' = true) : Rep V (.ref r off len) v
  | agg {cs vs} (hl : vs.size = cs.length) (h1 : ∀ j, j < cs.length → (vs.getD j undef).oneCell' = true) (h : ∀ (j : Nat) (c : PVal), cs[j]? = some c → Rep V c (vs.getD j undef)) : Rep V (.agg cs) (.agg vs)
  | tuple {ps vs} (hl : vs.size = ps.length) (h : ∀ (j : Nat) (c : PVal), ps[j]? = some c → Rep V c (vs.getD j undef)) : Rep V (.tuple ps) (.tuple vs)
  | iface {t p v} (h : Rep V p v) : Rep V (.iface t p) (.iface t v)
  | niliface : Rep V .niliface .nilIface
  | fn {f first caps fs cs} (hl : fs.size = first.length) (hl' : cs.size = caps.length) (h : ∀ (j : Nat) (c : PVal), first[j]? = some c → Rep V c (fs.getD j undef))
      (h' : ∀ (j : Nat) (c : PVal), caps[j]? = some c → Rep V c (cs.getD j undef)) : Rep V (.fn f first caps) (.func f fs cs)
  | nilfn : Rep V .nilfn .nilFunc
  | nilmap : Rep V .nilmap (.map none)
  | fmap {ks vs b es clock} (hown : ¬ V.own b) (hb : V.w.heap[b]? = some (.map es clock)) (hk : es.size = ks.length) (hv : es.size = vs.length)
      (h1 : ∀ (i : Nat) (c : PVal), ks[i]? = some c → Rep V c (es.getD i default).key) (h2 : ∀ (i : Nat) (c : PVal), vs[i]? = some c → Rep V c (es.getD i default).val) : Rep V (.fmap ks vs) (.map (some b))
  | mref {r b base size} (h : V.loc r = .at b base size) : Rep V (.mref r) (.map (some b))
  | mrefDead {r v} (h : V.loc r = .dead) (h1 : v.oneCell' = true) : Rep V (.mref r) v

/-- What is read of unowned memory in V reads the same in V', and each reference lies where it lay, or is dead. -/
structure View.To (V V' : View) : Prop where
  size : V.w.heap.size ≤ V'.w.heap.size
  heap : ∀ b, b < V.w.heap.size → ¬ V.own b → V'.w.heap[b]? = V.w.heap[b]?
  own : ∀ b, b < V.w.heap.size → V'.own b → V.own b
  loc : ∀ r, V.loc r ≠ .out → V'.loc r = V.loc r ∨ V'.loc r = .dead
  shape : ∀ r b base size, V.loc r = .at b base size → V'.loc r = V.loc r → ∀ ty n, V.w.shape? b = some (ty, n) → V'.w.shape? b = some (ty, n)

theorem View.To.at {V V' : View} (H : V.To V') {r : Ref} {x : Loc} (h : V.loc r = x) (hx : x ≠ .out) : V'.loc r = x ∨ V'.loc r = .dead := by
  subst h; exact H.loc r hx

theorem View.To.refl (V : View) : V.To V := ⟨Nat.le_refl _, fun _ _ _ => rfl, fun _ _ h => h, fun _ _ => .inl rfl, fun _ _ _ _ _ _ _ _ h => h⟩

theorem cell?_of_heap {w w' : World} {b : Nat} (h : w'.heap[b]? = w.heap[b]?) (o : Nat) : w'.cell? ⟨b, o, none⟩ = w.cell? ⟨b, o, none⟩ := by
  simp [World.cell?, h]

theorem Rep.mono {V V' : View} (H : V.To V') {p : PVal} {v : Value} (h : Rep V p v) : Rep V' p v := by
  induction h with
  | any => exact .any
  | bool => exact .bool
  | int => exact .int
  | str => exact .str
  | nilp => exact .nilp
  | ptr h =>
    rcases H.at h (by simp) with h' | h'
    · exact .ptr h'
    · exact .ptrDead h' rfl
  | ptrDead h h1 =>
    rcases H.at h (by simp) with h' | h'
    · exact .ptrDead h' h1
    · exact .ptrDead h' h1
  | gptr => exact .gptr
  | eptr f hown hb hc hx ih =>
    refine .eptr f (fun h => hown (H.own _ hb h)) (Nat.lt_of_lt_of_le hb H.size) (fun n hn => ?_) ih
    rw [cell?_of_heap (H.heap _ hb hown)]; exact hc n hn
  | nils => exact .nils
  | slcEmpty => exact .slcEmpty
  | slc size f hown hb hcap hc hs hx ih =>
    refine .slc size f (fun h => hown (H.own _ hb h)) (Nat.lt_of_lt_of_le hb H.size) hcap (fun n hn => ?_) hs ih
    rw [cell?_of_heap (H.heap _ hb hown)]; exact hc n hn
  | ref h hcap hsz =>
    rcases H.at h (by simp) with h' | h'
    · obtain ⟨ty, n, h1, h2⟩ := hsz
      exact .ref h' hcap ⟨ty, n, H.shape _ _ _ _ h (h'.trans h.symm) _ _ h1, h2⟩
    · exact .refDead h' rfl
  | refEmpty h =>
    rcases h with h | ⟨b, base, size, h⟩
    · rcases H.at h (by simp) with h' | h'
      · exact .refEmpty (.inl h')
      · exact .refDead h' rfl
    · rcases H.at h (by simp) with h' | h'
      · exact .refEmpty (.inr ⟨b, base, size, h'⟩)
      · exact .refDead h' rfl
  | refDead h h1 =>
    rcases H.at h (by simp) with h' | h'
    · exact .refDead h' h1
    · exact .refDead h' h1
  | agg hl h1 _ ih => exact .agg hl h1 ih
  | tuple hl _ ih => exact .tuple hl ih
  | iface _ ih => exact .iface ih
  | niliface => exact .niliface
  | fn hl hl' _ _ ih ih' => exact .fn hl hl' ih ih'
  | nilfn => exact .nilfn
  | nilmap => exact .nilmap
  | fmap hown hb hk hv _ _ ih ih' =>
    have hlt := (Array.getElem?_eq_some_iff.1 hb).1
    exact .fmap (fun h => hown (H.own _ hlt h)) (by rw [H.heap _ hlt hown]; exact hb) hk hv ih ih'
  | mref h =>
    rcases H.at h (by simp) with h' | h'
    · exact .mref h'
    · exact .mrefDead h' rfl
  | mrefDead h h1 =>
    rcases H.at h (by simp) with h' | h'
    · exact .mrefDead h' h1
    · exact .mrefDead h' h1

/-- The same memory, where no block has a name. -/
def View.bare (V : View) : View := { V with loc := fun _ => .out }
theorem Rep.of_bare {V : View} (V' : View) (hw : V'.w = V.w) (ho : V'.own = V.own) {p : PVal} {v : Value} (h : Rep V.bare p v) : Rep V' p v := by
  have hx : ∀ r x, V.bare.loc r = x → x = .out := fun r x h => h.symm
  induction h with
  | any => exact .any
  | bool => exact .bool
  | int => exact .int
  | str => exact .str
  | nilp => exact .nilp
  | ptr h => cases hx _ _ h
  | ptrDead h => cases hx _ _ h
  | gptr => exact .gptr
  | eptr f a b c _ ih => exact .eptr f (by rw [ho]; exact a) (by rw [hw]; exact b) (fun m hm => by rw [hw]; exact c m hm) ih
  | nils => exact .nils
  | slcEmpty => exact .slcEmpty
  | slc size f a b c d e _ ih => exact .slc size f (by rw [ho]; exact a) (by rw [hw]; exact b) c (fun m hm => by rw [hw]; exact d m hm) e ih
  | ref h => cases hx _ _ h
  | refEmpty h => rcases h with h | ⟨_, _, _, h⟩ <;> cases hx _ _ h
  | refDead h => cases hx _ _ h
  | agg a b _ ih => exact .agg a b ih
  | tuple a _ ih => exact .tuple a ih
  | iface _ ih => exact .iface ih
  | niliface => exact .niliface
  | fn a b _ _ ih ih' => exact .fn a b ih ih'
  | nilfn => exact .nilfn
  | nilmap => exact .nilmap
  | fmap a b c d _ _ ih ih' => exact .fmap (by rw [ho]; exact a) (by rw [hw]; exact b) c d ih ih'
  | mref h => cases hx _ _ h
  | mrefDead h => cases hx _ _ h
theorem View.To.bare {V V' : View} (H : V.To V') : V.bare.To V'.bare := ⟨H.size, H.heap, H.own, fun _ h => absurd rfl h, fun _ _ _ _ h => by cases h⟩

/-! ### The store of blocks -/
inductive Blk where
  | dead
  | row (elems : List PVal) (size : Nat) (ty : TypeId)
  | mp (ks vs : List PVal)
  | iter (s : List UInt8) (pos : Nat)

def blkAt (o l : List Blk) : Ref → Option Blk
  | .o n => o[n]?
  | .l n => l[n]?

def BlkRep (V : View) (r : Ref) : Blk → Prop
  | .dead => V.loc r = .dead
  | .row elems size ty => (V.loc r = .none ∧ elems = []) ∨ ∃ b base cells fr, V.loc r = .at b base size ∧ V.w.heap[b]? = some (.cells cells ty fr) ∧
      (∀ n, n < cells.size → V.w.frozen? ⟨b, n, none⟩ = false) ∧ base + elems.length * size ≤ cells.size ∧ (∀ n, n < cells.size → (cells.getD n undef).oneCell' = true) ∧
      (∀ (i : Nat) (x : PVal), elems[i]? = some x → x.cells.length = size) ∧
      ∀ (i : Nat) (x : PVal) (j : Nat) (c : PVal), elems[i]? = some x → x.cells[j]? = some c → Rep V c (cells.getD (base + i * size + j) undef)
  | .mp ks vs => ∃ b es clock, V.loc r = .at b 0 0 ∧ V.w.heap[b]? = some (.map es clock) ∧ es.size = ks.length ∧ es.size = vs.length ∧
      (∀ (i : Nat) (c : PVal), ks[i]? = some c → Rep V c (es.getD i default).key) ∧ (∀ (i : Nat) (c : PVal), vs[i]? = some c → Rep V c (es.getD i default).val)
  | .iter s pos => ∃ b, V.loc r = .at b 0 0 ∧ V.w.heap[b]? = some (.stringIter ⟨⟨s⟩⟩ pos)

/-- The program, and what its listed package-level variables hold (of block g, the cells). -/
structure Ctx where
  P : Program
  G : Nat → Option (List PVal)

structure MemRel (C : Ctx) (V : View) (B : Ref → Option Blk) : Prop where
  blk : ∀ r k, B r = some k → BlkRep V r k
  out : ∀ r, B r = none → V.loc r = .out
  inj : ∀ r r' b x y x' y', V.loc r = .at b x y → V.loc r' = .at b x' y' → r = r'
  own : ∀ r b x y, V.loc r = .at b x y → V.own b
  lt : ∀ b, V.own b → b < V.w.heap.size
  glob : ∀ g cs, C.G g = some cs → ¬ V.own g ∧ g < V.w.heap.size ∧ ∀ (j : Nat) (c : PVal), cs[j]? = some c → ∃ v, V.w.cell? ⟨g, j, none⟩ = some v ∧ v.oneCell' = true ∧ Rep V.bare c v

/-! ### Environments -/
abbrev Env := List (Nat × PVal)
def gt : Env → Nat → PVal
  | [], _ => .any
  | (k, v) :: r, i => bif Nat.beq k i then v else gt r i

structure PDef where
  f : FuncId
  args : List PVal
  caps : List PVal

structure St where
  e : Env
  o : List Blk
  l : List Blk
  d : List PDef := []

def ListRep (V : View) (ps : List PVal) (vs : Array Value) : Prop := vs.size = ps.length ∧ ∀ (j : Nat) (p : PVal), ps[j]? = some p → Rep V p (vs.getD j undef)

def DefRel (V : View) : List PDef → List Deferred → Prop
  | [], [] => True
  | p :: ps, d :: ds => (∃ caps args, d = { target := .fn (.func p.f) caps, args := args } ∧ ListRep V p.args args ∧ ListRep V p.caps caps) ∧ DefRel V ps ds
  | _, _ => False

structure Rel (C : Ctx) (n : Nat) (V : View) (σ : St) (a : Act) : Prop where
  mem : MemRel C V (blkAt σ.o σ.l)
  env : ∀ t, Rep V (gt σ.e t) (a.tmps.getD t undef)
  tmps : a.tmps.size = n
  defers : DefRel V σ.d a.defers

/-- What a piece of code of one frame may have done: blocks that it does not hold stand as they stood. -/
structure Later (V V' : View) : Prop where
  size : V.w.heap.size ≤ V'.w.heap.size
  heap : ∀ b, b < V.w.heap.size → (∀ r x y, V.loc r ≠ .at b x y) → V'.w.heap[b]? = V.w.heap[b]?
  own : ∀ b, b < V.w.heap.size → V'.own b → V.own b
  kept : ∀ b, b < V.w.heap.size → V.own b → (∀ r x y, V.loc r ≠ .at b x y) → V'.own b
  locs : ∀ r b x y, b < V.w.heap.size → V'.loc r = .at b x y → ∃ r' x' y', V.loc r' = .at b x' y'
  loc : ∀ n, V.loc (.o n) ≠ .out → V'.loc (.o n) = V.loc (.o n) ∨ V'.loc (.o n) = .dead
  shape : ∀ n b base size, V.loc (.o n) = .at b base size → V'.loc (.o n) = V.loc (.o n) → ∀ ty m, V.w.shape? b = some (ty, m) → V'.w.shape? b = some (ty, m)
  os : V'.w.os = V.w.os
  tape : V'.w.tape = V.w.tape
  output : V'.w.output = V.w.output

theorem Later.refl (V : View) : Later V V := ⟨Nat.le_refl _, fun _ _ _ => rfl, fun _ _ h => h, fun _ _ h _ => h, fun r b x y _ h => ⟨r, x, y, h⟩, fun _ _ => .inl rfl, fun _ _ _ _ _ _ _ _ h => h, rfl, rfl, rfl⟩

theorem Later.trans {A B D : View} (h : Later A B) (k : Later B D) : Later A D where
  size := Nat.le_trans h.size k.size
  heap b hb hl := by
    rw [k.heap b (Nat.lt_of_lt_of_le hb h.size) (fun r x y hr => by obtain ⟨r', x', y', h'⟩ := h.locs r b x y hb hr; exact hl r' x' y' h'), h.heap b hb hl]
  own _ hb ho := h.own _ hb (k.own _ (Nat.lt_of_lt_of_le hb h.size) ho)
  kept _ hb ho hl := k.kept _ (Nat.lt_of_lt_of_le hb h.size) (h.kept _ hb ho hl) (fun r x y hr => by obtain ⟨r', x', y', h'⟩ := h.locs r _ x y hb hr; exact hl r' x' y' h')
  locs r b x y hb hr := by obtain ⟨r', x', y', h'⟩ := k.locs r b x y (Nat.lt_of_lt_of_le hb h.size) hr; exact h.locs r' b x' y' hb h'
  loc n hn := by
    rcases h.loc n hn with h1 | h1
    · rcases k.loc n (by rw [h1]; exact hn) with h2 | h2
      · exact .inl (h2.trans h1)
      · exact .inr h2
    · rcases k.loc n (by rw [h1]; simp) with h2 | h2
      · exact .inr (h2.trans h1)
      · exact .inr h2
  shape n b base size hl heq ty m hs := by
    rcases h.loc n (by simp [hl]) with h1 | h1
    · exact k.shape n b base size (h1.trans hl) (heq.trans h1.symm) ty m (h.shape n b base size hl h1 ty m hs)
    · rcases k.loc n (by rw [h1]; simp) with h2 | h2 <;> simp [h2, h1, hl] at heq
  os := k.os.trans h.os
  tape := k.tape.trans h.tape
  output := k.output.trans h.output

/-! ### How the memory relation is carried on -/
def upd (B : Ref → Option Blk) (r : Ref) (k : Blk) : Ref → Option Blk := fun x => if x = r then some k else B x
theorem upd_same (B : Ref → Option Blk) (r : Ref) (k : Blk) : upd B r k r = some k := by simp [upd]
theorem upd_ne {B : Ref → Option Blk} {r x : Ref} {k : Blk} (h : x ≠ r) : upd B r k x = B x := by simp [upd, h]

theorem shape?_of_heap {w w' : World} {b : Nat} (h : w'.heap[b]? = w.heap[b]?) : w'.shape? b = w.shape? b := by
  simp [World.shape?, h]
theorem frozen?_of_heap {w w' : World} {b : Nat} (h : w'.heap[b]? = w.heap[b]?) (o : Nat) : w'.frozen? ⟨b, o, none⟩ = w.frozen? ⟨b, o, none⟩ := by
  simp [World.frozen?, h]

theorem BlkRep.mono {V V' : View} (H : V.To V') {r : Ref} (hl : V'.loc r = V.loc r) (hh : ∀ b x y, V.loc r = .at b x y → V'.w.heap[b]? = V.w.heap[b]?) {k : Blk} (h : BlkRep V r k) : BlkRep V' r k := by
  cases k with
  | dead => exact hl.trans h
  | row elems size ty =>
    rcases h with ⟨h1, h2⟩ | ⟨b, base, cells, fr, h1, h2, h3, h4, h5, h6, h7⟩
    · exact .inl ⟨hl.trans h1, h2⟩
    · have e := hh _ _ _ h1
      exact .inr ⟨b, base, cells, fr, hl.trans h1, e.trans h2, fun n hn => by rw [frozen?_of_heap e]; exact h3 n hn, h4, h5, h6, fun i x j c hx hc => (h7 i x j c hx hc).mono H⟩
  | mp ks vs =>
    obtain ⟨b, es, clock, h1, h2, h3, h4, h5, h6⟩ := h
    exact ⟨b, es, clock, hl.trans h1, (hh _ _ _ h1).trans h2, h3, h4, fun i c hc => (h5 i c hc).mono H, fun i c hc => (h6 i c hc).mono H⟩
  | iter s pos =>
    obtain ⟨b, h1, h2⟩ := h
    exact ⟨b, hl.trans h1, (hh _ _ _ h1).trans h2⟩

/-- One name gets a new block content (or is made, or dies); all else stands. -/
theorem MemRel.upd1 {C : Ctx} {V V' : View} {B : Ref → Option Blk} (hM : MemRel C V B) (r : Ref) (k : Blk) (hTo : V.To V') (hloc : ∀ x, x ≠ r → V'.loc x = V.loc x)
    (hheap : ∀ b, b < V.w.heap.size → (∀ x y, V.loc r ≠ .at b x y) → (∀ x y, V'.loc r ≠ .at b x y) → V'.w.heap[b]? = V.w.heap[b]?)
    (hfree : ∀ b x y, V'.loc r = .at b x y → ∀ r', r' ≠ r → ∀ x' y', V.loc r' ≠ .at b x' y')
    (hown : ∀ b, b < V.w.heap.size → V.own b → (∀ x y, V.loc r ≠ .at b x y) → V'.own b) (hownr : ∀ b x y, V'.loc r = .at b x y → V'.own b) (hlt : ∀ b, V'.own b → b < V'.w.heap.size)
    (hblk : BlkRep V' r k) : MemRel C V' (upd B r k) where
  blk x k' hx := by
    by_cases e : x = r
    · subst e; rw [upd_same] at hx; cases hx; exact hblk
    · rw [upd_ne e] at hx
      refine (hM.blk x k' hx).mono hTo (hloc x e) fun b p q hb => hheap b (hM.lt b (hM.own x b p q hb)) (fun p' q' h' => e (hM.inj _ _ _ _ _ _ _ hb h')) (fun p' q' h' => hfree b p' q' h' x e p q hb)
  out x hx := by
    by_cases e : x = r
    · subst e; rw [upd_same] at hx; cases hx
    · rw [upd_ne e] at hx; rw [hloc x e]; exact hM.out x hx
  inj x y b p q p' q' hx hy := by
    by_cases ex : x = r
    · by_cases ey : y = r
      · rw [ex, ey]
      · subst ex; rw [hloc y ey] at hy; exact absurd hy (hfree b p q hx y ey p' q')
    · by_cases ey : y = r
      · subst ey; rw [hloc x ex] at hx; exact absurd hx (hfree b p' q' hy x ex p q)
      · rw [hloc x ex] at hx; rw [hloc y ey] at hy; exact hM.inj _ _ _ _ _ _ _ hx hy
  own x b p q hx := by
    by_cases e : x = r
    · subst e; exact hownr b p q hx
    · rw [hloc x e] at hx
      exact hown b (hM.lt b (hM.own x b p q hx)) (hM.own x b p q hx) fun p' q' h' => e (hM.inj _ _ _ _ _ _ _ hx h')
  lt := hlt
  glob g cs hg := by
    obtain ⟨h1, hb, h2⟩ := hM.glob g cs hg
    refine ⟨fun h => h1 (hTo.own g hb h), Nat.lt_of_lt_of_le hb hTo.size, fun j c hc => ?_⟩
    obtain ⟨v, hv, h3, h4⟩ := h2 j c hc
    exact ⟨v, by rw [cell?_of_heap (hTo.heap g hb h1)]; exact hv, h3, h4.mono hTo.bare⟩

theorem View.To.trans {A B D : View} (h : A.To B) (k : B.To D) : A.To D where
  size := Nat.le_trans h.size k.size
  heap b hb ho := by rw [k.heap b (Nat.lt_of_lt_of_le hb h.size) (fun h' => ho (h.own b hb h')), h.heap b hb ho]
  own _ hb ho := h.own _ hb (k.own _ (Nat.lt_of_lt_of_le hb h.size) ho)
  loc r hr := by
    rcases h.loc r hr with h1 | h1
    · rcases k.loc r (by rw [h1]; exact hr) with h2 | h2
      · exact .inl (h2.trans h1)
      · exact .inr h2
    · rcases k.loc r (by rw [h1]; simp) with h2 | h2
      · exact .inr (h2.trans h1)
      · exact .inr h2
  shape r b base size hl heq ty n hs := by
    rcases h.loc r (by simp [hl]) with h1 | h1
    · exact k.shape r b base size (h1.trans hl) (heq.trans h1.symm) ty n (h.shape r b base size hl h1 ty n hs)
    · rcases k.loc r (by rw [h1]; simp) with h2 | h2 <;> simp [h2, h1, hl] at heq

/-! #### A draw -/
def View.drew (V : View) : View := { V with w := V.w.drew }
theorem View.to_drew (V : View) : V.To V.drew := ⟨Nat.le_refl _, fun _ _ _ => rfl, fun _ _ h => h, fun _ _ => .inl rfl, fun _ _ _ _ _ _ _ _ h => h⟩
theorem View.later_drew (V : View) : Later V V.drew := ⟨Nat.le_refl _, fun _ _ _ => rfl, fun _ _ h => h, fun _ _ h _ => h, fun r _ x y _ h => ⟨r, x, y, h⟩, fun _ _ => .inl rfl, fun _ _ _ _ _ _ _ _ h => h, rfl, rfl, rfl⟩
theorem MemRel.drew {C : Ctx} {V : View} {B : Ref → Option Blk} (h : MemRel C V B) : MemRel C V.drew B where
  blk r k hk := (h.blk r k hk).mono V.to_drew rfl fun _ _ _ _ => rfl
  out := h.out
  inj := h.inj
  own := h.own
  lt := h.lt
  glob g cs hg := by
    obtain ⟨h1, hb, h2⟩ := h.glob g cs hg
    exact ⟨h1, hb, fun j c hc => let ⟨v, hv, h3, h4⟩ := h2 j c hc; ⟨v, hv, h3, h4.mono V.to_drew.bare⟩⟩

/-! #### A new block under a new name -/
def setLoc (loc : Ref → Loc) (r : Ref) (x : Loc) : Ref → Loc := fun y => if y = r then x else loc y
theorem setLoc_same (loc : Ref → Loc) (r : Ref) (x : Loc) : setLoc loc r x r = x := by simp [setLoc]
theorem setLoc_ne {loc : Ref → Loc} {r y : Ref} {x : Loc} (h : y ≠ r) : setLoc loc r x y = loc y := by simp [setLoc, h]

def View.alloc (V : View) (r : Ref) (k : Obj) (size : Nat) : View :=
  { w := V.w.alloc k, loc := setLoc V.loc r (.at V.w.heap.size 0 size), own := fun b => V.own b ∨ b = V.w.heap.size }

theorem heap_alloc_lt {w : World} {k : Obj} {b : Nat} (h : b < w.heap.size) : (w.alloc k).heap[b]? = w.heap[b]? := by
  show (w.heap.push k)[b]? = _
  rw [Array.getElem?_push, if_neg (Nat.ne_of_lt h)]
theorem heap_alloc_new {w : World} {k : Obj} : (w.alloc k).heap[w.heap.size]? = some k := by
  show (w.heap.push k)[w.heap.size]? = _
  simp

theorem View.to_alloc {V : View} {r : Ref} (hr : V.loc r = .out) (hlt : ∀ r b x y, V.loc r = .at b x y → b < V.w.heap.size) (k : Obj) (size : Nat) : V.To (V.alloc r k size) where
  size := by simp [View.alloc]
  heap b hb _ := heap_alloc_lt hb
  own b hb h := by rcases h with h | h; exact h; omega
  loc x hx := by
    by_cases e : x = r
    · subst e; exact absurd hr hx
    · exact .inl (setLoc_ne e)
  shape x b base size hl _ ty n hs := by
    have : b < V.w.heap.size := hlt x b _ _ hl
    show (V.w.alloc k).shape? b = _
    rw [shape?_of_heap (heap_alloc_lt this)]; exact hs

theorem View.later_alloc {V : View} {r : Ref} (hr : V.loc r = .out) (hlt : ∀ r b x y, V.loc r = .at b x y → b < V.w.heap.size) (k : Obj) (size : Nat) : Later V (V.alloc r k size) where
  size := by simp [View.alloc]
  heap b hb _ := heap_alloc_lt hb
  own b hb h := by rcases h with h | h; exact h; omega
  kept _ _ h _ := .inl h
  locs x b p q hb h := by
    by_cases e : x = r
    · subst e; simp only [View.alloc, setLoc_same, Loc.at.injEq] at h; omega
    · simp only [View.alloc, setLoc_ne e] at h; exact ⟨x, p, q, h⟩
  loc n hn := (View.to_alloc hr hlt k size).loc _ hn
  shape n := (View.to_alloc hr hlt k size).shape _
  os := rfl
  tape := rfl
  output := rfl

theorem MemRel.locLt {C : Ctx} {V : View} {B : Ref → Option Blk} (h : MemRel C V B) : ∀ r b x y, V.loc r = .at b x y → b < V.w.heap.size := fun r b x y hr => h.lt b (h.own r b x y hr)

theorem MemRel.alloc {C : Ctx} {V : View} {B : Ref → Option Blk} (h : MemRel C V B) {r : Ref} (hr : B r = none) (o : Obj) (size : Nat) (k : Blk) (hk : BlkRep (V.alloc r o size) r k) :
    MemRel C (V.alloc r o size) (upd B r k) := by
  have hro := h.out r hr
  refine h.upd1 r k (View.to_alloc hro h.locLt o size) (fun x hx => setLoc_ne hx) (fun b hb _ _ => heap_alloc_lt hb) ?_ (fun b _ ho _ => .inl ho) ?_ ?_ hk
  · intro b x y hb r' hr' x' y' hb'
    simp only [View.alloc, setLoc_same, Loc.at.injEq] at hb
    have := h.locLt _ _ _ _ hb'
    omega
  · intro b x y hb
    simp only [View.alloc, setLoc_same, Loc.at.injEq] at hb
    exact .inr hb.1.symm
  · intro b hb
    simp only [View.alloc, World.size_alloc]
    rcases hb with hb | hb
    · have := h.lt b hb; omega
    · omega

/-- A new row: its first cells are the elements' cells. -/
theorem BlkRep.new_row {V : View} {r : Ref} {cells : Array Value} {ty size : Nat} {elems : List PVal} (hro : V.loc r = .out) (hlt : ∀ r b x y, V.loc r = .at b x y → b < V.w.heap.size)
    (h4 : elems.length * size ≤ cells.size) (h5 : ∀ n, n < cells.size → (cells.getD n undef).oneCell' = true)
    (h6 : ∀ (i : Nat) (x : PVal), elems[i]? = some x → x.cells.length = size)
    (h7 : ∀ (i : Nat) (x : PVal) (j : Nat) (c : PVal), elems[i]? = some x → x.cells[j]? = some c → Rep V c (cells.getD (i * size + j) undef)) :
    BlkRep (V.alloc r (.cells cells ty) size) r (.row elems size ty) := by
  refine .inr ⟨V.w.heap.size, 0, cells, (0, 0), setLoc_same _ _ _, heap_alloc_new, fun n hn => ?_, by omega, h5, h6, fun i x j c hx hc => ?_⟩
  · exact World.frozen?_alloc_new V.w cells ty n
  · rw [Nat.zero_add]; exact (h7 i x j c hx hc).mono (View.to_alloc hro hlt _ _)

/-! #### The content of a block of the call's own changes -/
def View.setHeap (V : View) (w : World) : View := { V with w := w }

/-- 'w' differs from V's world in block b alone, which keeps its shape. -/
structure OnlyAt (b : Nat) (w w' : World) : Prop where
  size : w'.heap.size = w.heap.size
  heap : ∀ x, x ≠ b → w'.heap[x]? = w.heap[x]?
  shape : w'.shape? b = w.shape? b
  os : w'.os = w.os
  tape : w'.tape = w.tape
  output : w'.output = w.output

theorem OnlyAt.shape' {b : Nat} {w w' : World} (h : OnlyAt b w w') (x : Nat) : w'.shape? x = w.shape? x := by
  by_cases e : x = b
  · subst e; exact h.shape
  · exact shape?_of_heap (h.heap x e)

theorem View.to_setHeap {V : View} {b : Nat} {w' : World} (h : OnlyAt b V.w w') (ho : V.own b) : V.To (V.setHeap w') where
  size := by simp [View.setHeap, h.size]
  heap x _ hx := h.heap x fun e => hx (e ▸ ho)
  own _ _ h := h
  loc _ _ := .inl rfl
  shape _ x _ _ _ _ ty n hs := by rw [View.setHeap, h.shape' x]; exact hs

theorem View.later_setHeap {V : View} {b : Nat} {w' : World} (h : OnlyAt b V.w w') {r : Ref} {x y : Nat} (hr : V.loc r = .at b x y) : Later V (V.setHeap w') where
  size := by simp [View.setHeap, h.size]
  heap z _ hz := h.heap z fun e => hz r x y (e ▸ hr)
  own _ _ h := h
  kept _ _ h _ := h
  locs r b x y _ h := ⟨r, x, y, h⟩
  loc _ _ := .inl rfl
  shape _ x _ _ _ _ ty n hs := by rw [View.setHeap, h.shape' x]; exact hs
  os := h.os
  tape := h.tape
  output := h.output

theorem MemRel.setHeap {C : Ctx} {V : View} {B : Ref → Option Blk} (hM : MemRel C V B) {b : Nat} {w' : World} (h : OnlyAt b V.w w') {r : Ref} {x y : Nat} (hr : V.loc r = .at b x y) (k : Blk)
    (hk : BlkRep (V.setHeap w') r k) : MemRel C (V.setHeap w') (upd B r k) := by
  refine hM.upd1 r k (View.to_setHeap h (hM.own r b x y hr)) (fun _ _ => rfl) ?_ ?_ (fun _ _ ho _ => ho) (fun b' x' y' hb' => hM.own r b' x' y' hb') (fun b hb => by rw [View.setHeap, h.size]; exact hM.lt b hb) hk
  · intro b' _ hb' _
    exact h.heap b' fun e => hb' x y (e ▸ hr)
  · intro b' x' y' hb' r' hr' x'' y'' hb''
    exact hr' (hM.inj _ _ _ _ _ _ _ hb'' hb')

/-! #### A name dies; its block is nobody's ('frz': it may be read for ever) or stays with the call -/
def View.kill (V : View) (r : Ref) : View := { V with loc := setLoc V.loc r .dead }
theorem View.to_kill (V : View) (r : Ref) : V.To (V.kill r) where
  size := Nat.le_refl _
  heap _ _ _ := rfl
  own _ _ h := h
  loc x _ := by
    by_cases e : x = r
    · subst e; exact .inr (setLoc_same _ _ _)
    · exact .inl (setLoc_ne e)
  shape _ _ _ _ _ _ _ _ h := h
theorem View.later_kill (V : View) (r : Ref) : Later V (V.kill r) where
  size := Nat.le_refl _
  heap _ _ _ := rfl
  own _ _ h := h
  kept _ _ h _ := h
  locs x b p q _ h := by
    by_cases e : x = r
    · subst e; simp [View.kill, setLoc_same] at h
    · simp only [View.kill, setLoc_ne e] at h; exact ⟨x, p, q, h⟩
  loc n hn := (View.to_kill V r).loc _ hn
  shape _ _ _ _ _ _ _ _ h := h
  os := rfl
  tape := rfl
  output := rfl
theorem MemRel.kill {C : Ctx} {V : View} {B : Ref → Option Blk} (hM : MemRel C V B) (r : Ref) : MemRel C (V.kill r) (upd B r .dead) := by
  refine hM.upd1 r .dead (V.to_kill r) (fun x hx => setLoc_ne hx) (fun _ _ _ _ => rfl) ?_ (fun _ _ ho _ => ho) ?_ hM.lt (setLoc_same _ _ _)
  · intro b x y hb; simp [View.kill, setLoc_same] at hb
  · intro b x y hb; simp [View.kill, setLoc_same] at hb

def View.frz (V : View) (r : Ref) : View := { V with loc := setLoc V.loc r .dead, own := fun b => V.own b ∧ ∀ x y, V.loc r ≠ .at b x y }
theorem View.to_frz (V : View) (r : Ref) : V.To (V.frz r) where
  size := Nat.le_refl _
  heap _ _ _ := rfl
  own _ _ h := h.1
  loc x _ := by
    by_cases e : x = r
    · subst e; exact .inr (setLoc_same _ _ _)
    · exact .inl (setLoc_ne e)
  shape _ _ _ _ _ _ _ _ h := h
theorem View.later_frz (V : View) (r : Ref) : Later V (V.frz r) where
  size := Nat.le_refl _
  heap _ _ _ := rfl
  own _ _ h := h.1
  kept _ _ h h' := ⟨h, h' r⟩
  locs x b p q _ h := by
    by_cases e : x = r
    · subst e; simp [View.frz, setLoc_same] at h
    · simp only [View.frz, setLoc_ne e] at h; exact ⟨x, p, q, h⟩
  loc n hn := (View.to_frz V r).loc _ hn
  shape _ _ _ _ _ _ _ _ h := h
  os := rfl
  tape := rfl
  output := rfl
theorem MemRel.frz {C : Ctx} {V : View} {B : Ref → Option Blk} (hM : MemRel C V B) (r : Ref) : MemRel C (V.frz r) (upd B r .dead) := by
  refine hM.upd1 r .dead (V.to_frz r) (fun x hx => setLoc_ne hx) (fun _ _ _ _ => rfl) ?_ (fun _ _ ho h => ⟨ho, h⟩) ?_ (fun b hb => hM.lt b hb.1) (setLoc_same _ _ _)
  · intro b x y hb; simp [View.frz, setLoc_same] at hb
  · intro b x y hb; simp [View.frz, setLoc_same] at hb

/-! #### A block of the call's own that has no name is taken under a new name, its content changed -/
def View.adopt (V : View) (r : Ref) (w : World) (b base size : Nat) : View := { V with w := w, loc := setLoc V.loc r (.at b base size) }
theorem View.to_adopt {V : View} {b : Nat} {w' : World} (h : OnlyAt b V.w w') (ho : V.own b) {r : Ref} (hr : V.loc r = .out) (base size : Nat) : V.To (V.adopt r w' b base size) where
  size := by simp [View.adopt, h.size]
  heap x _ hx := h.heap x fun e => hx (e ▸ ho)
  own _ _ h := h
  loc x hx := by
    by_cases e : x = r
    · subst e; exact absurd hr hx
    · exact .inl (setLoc_ne e)
  shape _ x _ _ _ _ ty n hs := by rw [View.adopt, h.shape' x]; exact hs
theorem MemRel.adopt {C : Ctx} {V : View} {B : Ref → Option Blk} (hM : MemRel C V B) {b : Nat} {w' : World} (h : OnlyAt b V.w w') (ho : V.own b) {r : Ref} (hr : B r = none) (base size : Nat)
    (hfree : ∀ r x y, V.loc r ≠ .at b x y) (k : Blk) (hk : BlkRep (V.adopt r w' b base size) r k) : MemRel C (V.adopt r w' b base size) (upd B r k) := by
  have hro := hM.out r hr
  refine hM.upd1 r k (View.to_adopt h ho hro base size) (fun x hx => setLoc_ne hx) ?_ ?_ (fun _ _ ho _ => ho) ?_ (fun b hb => by rw [View.adopt, h.size]; exact hM.lt b hb) hk
  · intro b' _ _ hb'
    exact h.heap b' fun e => hb' base size (by rw [e]; exact setLoc_same _ _ _)
  · intro b' x' y' hb' r' hr' x'' y''
    simp only [View.adopt, setLoc_same, Loc.at.injEq] at hb'
    rw [← hb'.1]; exact hfree _ _ _
  · intro b' x' y' hb'
    simp only [View.adopt, setLoc_same, Loc.at.injEq] at hb'
    exact hb'.1 ▸ ho
end Go.V
