/-
  Struct and array values, operators of one operand, conversions, and other quiet operations.
-/
import Derived.Test.YtednoahjadghnaaDoorVArith
namespace Go.V
open Go

variable {C : Ctx} {V : View} {σ : St}

/-! ### struct and array literals -/
/-- Of a struct type: the cells of its zero value, and the places of its fields. -/
def bq (P : Program) (t : TypeId) : Option (List PVal × List (Nat × Nat)) :=
  match P.info? t, P.underlying t with
  | some it, some (.struct fields) => match it.zero, fields.toList.mapM (fun f => (P.info? f.type).map fun i => (f.offset, i.size)) with
    | some z, some places => match ofV z with
      | .agg zs => some (zs, places)
      | _ => none
    | _, _ => none
  | _, _ => none
/-- Of an array type: the cells of its zero value, and its element's size. -/
def abq (P : Program) (t : TypeId) : Option (List PVal × Nat) :=
  match P.info? t, P.underlying t with
  | some it, some (.array _ e) => match it.zero, P.info? e with
    | some z, some ie => match ofV z with
      | .agg zs => some (zs, ie.size)
      | _ => none
    | _, _ => none
  | _, _ => none

def wParts (place : Nat → Option (Nat × Nat)) (e : Env) : List PVal → List (Nat × Operand) → (List PVal → Prop) → Prop
  | zs, [], K => K zs
  | zs, (i, x) :: r, K => match place i with
    | some (off, n) => (val e x).solid = true ∧ (val e x).cells.length = n ∧ off + n ≤ zs.length ∧ wParts place e (splice zs off (val e x).cells) r K
    | none => False

def wBuild (C : Ctx) (t : TypeId) (parts : Array (Nat × Operand)) (e : Env) (K : PVal → Prop) : Prop :=
  match bq C.P t with
  | some (zs, pl) => wParts (fun i => pl[i]?) e zs parts.toList fun cs => K (.agg cs)
  | none => match abq C.P t with
    | some (zs, n) => wParts (fun i => some (i * n, n)) e zs parts.toList fun cs => K (.agg cs)
    | none => False

theorem foldl_sets (off : Nat) : ∀ (l : List Value) (s : Nat) (cs : Array Value), off + s + l.length ≤ cs.size →
    ((l.zipIdx s).foldl (fun cs (x : Value × Nat) => cs.setIfInBounds (off + x.2) x.1) cs).size = cs.size ∧
    ∀ m, ((l.zipIdx s).foldl (fun cs (x : Value × Nat) => cs.setIfInBounds (off + x.2) x.1) cs).getD m undef = if off + s ≤ m ∧ m < off + s + l.length then l.getD (m - (off + s)) undef else cs.getD m undef
  | [], s, cs, _ => ⟨rfl, fun m => by rw [if_neg (by simp)]; rfl⟩
  | v :: l, s, cs, h => by
    simp at h
    obtain ⟨h1, h2⟩ := foldl_sets off l (s + 1) (cs.setIfInBounds (off + s) v) (by simp; omega)
    simp only [List.zipIdx_cons, List.foldl_cons]
    refine ⟨by rw [h1]; simp, fun m => ?_⟩
    rw [h2 m, getD_set _ _ _ _ _ (by omega)]
    by_cases e : m = off + s
    · subst e; rw [if_neg (by omega), if_pos rfl, if_pos (by simp)]; simp
    · by_cases hm : off + (s + 1) ≤ m ∧ m < off + (s + 1) + l.length
      · rw [if_pos hm, if_pos (by simp; omega), show m - (off + s) = (m - (off + (s + 1))) + 1 by omega]; simp
      · rw [if_neg hm, if_neg e, if_neg (by simp; omega)]

theorem fill_parts {n : Nat} {a : Act} (hR : Rel C n V σ a) (place : Nat → Option (Nat × Nat)) : ∀ (parts : List (Nat × Operand)) (zs : List PVal) (cells : Array Value) (K : List PVal → Prop),
    Rep V (.agg zs) (.agg cells) → wParts place σ.e zs parts K →
    ∃ cells' cs, Instr.fill place cells (parts.map fun (i, x) => (i, a.eval x)) = some cells' ∧ Rep V (.agg cs) (.agg cells') ∧ K cs
  | [], zs, cells, K, hz, h => ⟨cells, zs, rfl, hz, h⟩
  | (i, x) :: r, zs, cells, K, hz, h => by
    unfold wParts at h
    split at h
    · rename_i off m hp
      obtain ⟨hs, hm, hle, h⟩ := h
      obtain ⟨c1, c2, c3⟩ := rep_cells' (val_rep hR x) hs
      cases hz with
      | agg hl h1 h2 =>
        have hlen : (a.eval x).cells.toList.length = m := by rw [Array.length_toList, c1, hm]
        obtain ⟨f1, f2⟩ := foldl_sets off (a.eval x).cells.toList 0 cells (by omega)
        rw [Nat.add_zero, hlen] at f2
        have hrep : Rep V (.agg (splice zs off (val σ.e x).cells)) (.agg (((a.eval x).cells.toList.zipIdx 0).foldl (fun cs (x : Value × Nat) => cs.setIfInBounds (off + x.2) x.1) cells)) := by
          refine .agg (by rw [f1, length_splice (by omega), hl]) (fun j hj => ?_) (fun j c hc => ?_)
          · rw [length_splice (by omega)] at hj
            rw [f2 j]
            split
            · rename_i hin
              have := c2 (j - off) (by omega)
              simpa [Array.getD_eq_getD_getElem?, List.getD_eq_getElem?_getD] using this
            · exact h1 j hj
          · rw [getElem?_splice (by omega)] at hc
            rw [f2 j]
            split at hc
            · rename_i hin
              rw [if_pos (by omega)]
              have := c3 _ _ hc
              simpa [Array.getD_eq_getD_getElem?, List.getD_eq_getElem?_getD] using this
            · rename_i hin
              rw [if_neg (by omega)]
              exact h2 j c hc
        obtain ⟨cells', cs, g1, g2, g3⟩ := fill_parts hR place r _ _ K hrep h
        refine ⟨cells', cs, ?_, g2, g3⟩
        simp only [List.map_cons]
        unfold Instr.fill
        simp only [hp, c1, hm]
        rw [if_neg (by simp; omega)]
        rw [← g1]
        congr 1
        rw [← Array.foldl_toList, Array.toList_zipIdx]
    · exact h.elim

theorem wBuild_sound {n : Nat} {a : Act} (hR : Rel C n V σ a) {t : Nat} {parts : Array (Nat × Operand)} {K : PVal → Prop} (h : wBuild C t parts σ.e K) :
    ∃ u q, (Instr.build t (parts.map fun (i, x) => (i, a.eval x))).run C.P V.w = .ok u V.w ∧ Rep V q u ∧ K q := by
  have hpl : (parts.map fun (i, x) => (i, a.eval x)).toList = parts.toList.map fun (i, x) => (i, a.eval x) := by simp
  have hag : ∀ {z : Value} {zs : List PVal}, ofV z = .agg zs → ∃ cells, z = .agg cells ∧ Rep V (.agg zs) (.agg cells) := fun {z zs} hz => by
    have := ofV_rep V z
    rw [hz] at this
    cases this with
    | agg hl h1 h2 => exact ⟨_, rfl, .agg hl h1 h2⟩
  unfold wBuild at h
  split at h
  · rename_i zs pl hb
    unfold bq at hb
    split at hb
    · rename_i it fields hi hu
      split at hb
      · rename_i z places hz hp
        split at hb
        · rename_i zs' ho
          cases hb
          obtain ⟨cells, rfl, hrep⟩ := hag ho
          obtain ⟨cells', cs, g1, g2, g3⟩ := fill_parts hR _ _ _ _ _ hrep h
          refine ⟨.agg cells', _, run_build V.w t _ cells' ?_, g2, g3⟩
          unfold Program.built
          simp only [hi, hu, hz, hp, hpl, Value.cells]
          simpa using g1
        · cases hb
      · cases hb
    · cases hb
  · split at h
    · rename_i zs m hb
      unfold abq at hb
      split at hb
      · rename_i it k e hi hu
        split at hb
        · rename_i z ie hz hie
          split at hb
          · rename_i zs' ho
            cases hb
            obtain ⟨cells, rfl, hrep⟩ := hag ho
            obtain ⟨cells', cs, g1, g2, g3⟩ := fill_parts hR _ _ _ _ _ hrep h
            refine ⟨.agg cells', _, run_build V.w t _ cells' ?_, g2, g3⟩
            unfold Program.built
            simp only [hi, hu, hz, hie, hpl, Value.cells]
            exact g1
          · cases hb
        · cases hb
      · cases hb
    · exact h.elim

/-! ### operators of one operand -/
def wUn (op : UnOp) (p : PVal) (K : PVal → Prop) : Prop :=
  match op, p with
  | .neg, .int k n => K (.int k (k.wrap (0 - n)))
  | .not, .bool b => K (.bool (!b))
  | .xor, .int k n => K (.int k (Go.bits .xor k (if k.signed then -1 else k.max) n))
  | _, _ => False
theorem wUn_sound {op : UnOp} {p : PVal} {v : Value} (hp : Rep V p v) {K : PVal → Prop} (h : wUn op p K) (P : Program) (w : World) : ∃ u q, (Op.unary op v).run P w = .ok u w ∧ Rep V q u ∧ K q := by
  unfold wUn at h
  split at h
  · rename_i k n
    cases hp; exact ⟨.int k (k.wrap (0 - n)), _, by simp [Op.unary, Op.intArith], .int, h⟩
  · rename_i b
    cases hp; exact ⟨.bool (!b), _, by simp [Op.unary], .bool, h⟩
  · rename_i k n
    cases hp; exact ⟨.int k (Go.bits .xor k (if k.signed then -1 else k.max) n), _, by simp [Op.unary, intBits_xor], .int, h⟩
  · exact h.elim

/-! ### nil checks, interfaces, function values, tuples -/
def wNilCheck (p : PVal) (σ : St) (K : PVal → Prop) : Prop :=
  match p with
  | .ptr r i o => match blkAt σ.o σ.l r with
    | some (.row _ _ _) => K (.ptr r i o)
    | some (.iter _ _) => K (.ptr r i o)
    | _ => False
  | .eptr x o => K (.eptr x o)
  | .gptr g o => K (.gptr g o)
  | .iface t v => K (.iface t v)
  | .fn (.func f) a b => K (.fn (.func f) a b)
  | _ => False

def ckV : Value → Prop
  | .pointer (some _) | .iface _ _ | .func (.func _) _ _ => True
  | _ => False

theorem rowAlive (hM : MemRel C V (blkAt σ.o σ.l)) {r : Ref} {k : Blk} (hB : blkAt σ.o σ.l r = some k) (hk : k ≠ .dead) (hd : V.loc r = .dead) : False := by
  have := hM.blk _ _ hB
  cases k with
  | dead => exact hk rfl
  | row => rcases this with ⟨h1, _⟩ | ⟨_, _, _, _, h1, _⟩ <;> rw [h1] at hd <;> cases hd
  | mp => obtain ⟨_, _, _, h1, _⟩ := this; rw [h1] at hd; cases hd
  | iter => obtain ⟨_, h1, _⟩ := this; rw [h1] at hd; cases hd

theorem wNilCheck_sound (hM : MemRel C V (blkAt σ.o σ.l)) {p : PVal} {v : Value} (hp : Rep V p v) {K : PVal → Prop} (h : wNilCheck p σ K) :
    ∃ q, Rep V q v ∧ K q ∧ ckV v := by
  unfold wNilCheck at h
  split at h
  · split at h
    · rename_i hB
      cases hp with
      | ptr hl => exact ⟨_, .ptr hl, h, trivial⟩
      | ptrDead hd _ => exact (rowAlive hM hB (by simp) hd).elim
    · rename_i hB
      cases hp with
      | ptr hl => exact ⟨_, .ptr hl, h, trivial⟩
      | ptrDead hd _ => exact (rowAlive hM hB (by simp) hd).elim
    · exact h.elim
  · cases hp with
    | eptr g a b c d => exact ⟨_, .eptr g a b c d, h, trivial⟩
  · cases hp; exact ⟨_, .gptr, h, trivial⟩
  · cases hp with
    | iface hp => exact ⟨_, .iface hp, h, trivial⟩
  · cases hp with
    | fn a b c d => exact ⟨_, .fn a b c d, h, trivial⟩
  · exact h.elim

def ccq (P : Program) (t : TypeId) : Bool :=
  match P.underlying t with
  | some (.interface _) => false
  | some _ => true
  | none => false
def wMakeIface (C : Ctx) (t : TypeId) (p : PVal) (K : PVal → Prop) : Prop := ccq C.P t = true ∧ K (.iface t p)
theorem wMakeIface_sound {t : Nat} {p : PVal} {v : Value} (hp : Rep V p v) {K : PVal → Prop} (h : wMakeIface C t p K) : ∃ u q, (Instr.makeInterface t v).run C.P V.w = .ok u V.w ∧ Rep V q u ∧ K q := by
  obtain ⟨hc, h⟩ := h
  refine ⟨.iface t v, _, ?_, .iface hp, h⟩
  unfold ccq at hc
  split at hc
  · cases hc
  · rename_i d hne hu
    unfold Instr.makeInterface
    rw [Sem.run_bind, run_underlying hu]
    simp only [Result.andThen_ok]
    rfl
  · cases hc

def wExtract (p : PVal) (i : Nat) (K : PVal → Prop) : Prop :=
  match p with
  | .tuple ps => match ps[i]? with
    | some q => K q
    | none => False
  | _ => False
theorem wExtract_sound {p : PVal} {v : Value} (hp : Rep V p v) {i : Nat} {K : PVal → Prop} (h : wExtract p i K) (P : Program) (w : World) : ∃ u q, (Instr.extract v i).run P w = .ok u w ∧ Rep V q u ∧ K q := by
  unfold wExtract at h
  split at h
  · split at h
    · rename_i q hq
      cases hp with
      | tuple hl hr =>
        rename_i vs
        have hlt := (List.getElem?_eq_some_iff.1 hq).1
        have : vs[i]? = some (vs.getD i undef) := by rw [Array.getD_eq_getD_getElem?, Array.getElem?_eq_getElem (by omega)]; rfl
        exact ⟨vs.getD i undef, q, by unfold Instr.extract; simp only [this]; rfl, hr _ _ hq, h⟩
    · exact h.elim
  · exact h.elim

/-! ### conversions of numbers; of strings to strings -/
def inq (P : Program) (t : TypeId) : Option IntKind :=
  match P.underlying t with
  | some (.int k) => some k
  | _ => none
theorem inq_spec {P : Program} {t : TypeId} {k : IntKind} (h : inq P t = some k) : P.underlying t = some (.int k) := by
  unfold inq at h; split at h
  · cases h; assumption
  · cases h

/-! ### len, min, max -/
def wLen (C : Ctx) (t : TypeId) (p : PVal) (K : PVal → Prop) : Prop :=
  match p with
  | .str s => C.P.underlying t = some .string ∧ K (.int .i64 s.length)
  | .slc xs => (slq C.P t).isSome = true ∧ K (.int .i64 xs.length)
  | .ref _ _ n => (slq C.P t).isSome = true ∧ K (.int .i64 n)
  | .nils => (slq C.P t).isSome = true ∧ K (.int .i64 0)
  | .agg _ => match aq C.P t with
    | some (n, _) => K (.int .i64 n)
    | none => False
  | _ => False
theorem wLen_sound {t : Nat} {p : PVal} {v : Value} (hp : Rep V p v) (hd : ∀ r o n, p = .ref r o n → V.loc r ≠ .dead) {K : PVal → Prop} (h : wLen C t p K) (ty : TypeId) :
    ∃ u q, (Builtin.len_ #[t] ty #[v]).run C.P V.w = .ok u V.w ∧ Rep V q u ∧ K q := by
  have hsl : (slq C.P t).isSome = true → ∃ e, C.P.underlying t = some (.slice e) := fun h => by
    obtain ⟨⟨e, n, b⟩, hq⟩ := Option.isSome_iff_exists.1 h
    obtain ⟨_, _, hu, _⟩ := slq_spec hq
    exact ⟨e, hu⟩
  unfold wLen at h
  split at h
  · rename_i s
    obtain ⟨hu, h⟩ := h
    cases hp
    have hsz : (⟨⟨s⟩⟩ : ByteArray).size = s.length := rfl
    exact ⟨.int .i64 s.length, _, by simp [Builtin.len_, run_underlying hu, goInt, hsz], .int, h⟩
  · rename_i xs
    obtain ⟨hu, h⟩ := h
    obtain ⟨e, hu⟩ := hsl hu
    cases hp with
    | slcEmpty => exact ⟨.int .i64 0, _, by simp [Builtin.len_, run_underlying hu, goInt], .int, h⟩
    | slc => exact ⟨.int .i64 xs.length, _, by simp [Builtin.len_, run_underlying hu, goInt], .int, h⟩
  · rename_i r o n
    obtain ⟨hu, h⟩ := h
    obtain ⟨e, hu⟩ := hsl hu
    cases hp with
    | ref => exact ⟨.int .i64 n, _, by simp [Builtin.len_, run_underlying hu, goInt], .int, h⟩
    | refEmpty => exact ⟨.int .i64 0, _, by simp [Builtin.len_, run_underlying hu, goInt], .int, h⟩
    | refDead hd' _ => exact absurd hd' (hd _ _ _ rfl)
  · obtain ⟨hu, h⟩ := h
    obtain ⟨e, hu⟩ := hsl hu
    cases hp
    exact ⟨.int .i64 0, _, by simp [Builtin.len_, run_underlying hu, goInt], .int, h⟩
  · split at h
    · rename_i n e ha
      have hu : C.P.underlying t = some (.array n e) := by
        unfold aq at ha
        split at ha
        · simp at ha; obtain ⟨rfl, rfl⟩ := ha; assumption
        · cases ha
      cases hp
      exact ⟨.int .i64 n, _, by simp [Builtin.len_, run_underlying hu, goInt], .int, h⟩
    · exact h.elim
  · exact h.elim

def mn (a b : Int) : Int := if b < a then b else a
def mx (a b : Int) : Int := if b > a then b else a
end Go.V
