/-
  The operations that leave the world alone.
-/
import Derived.Test.YtednoahjadghnaaDoorVOps
import Derived.Laws.StructEq
import Derived.Lib.IndexBytes
namespace Go.V
open Go

variable {C : Ctx} {V : View} {σ : St}

/-! ### fields -/
/-- Of a struct's field: its place, whether it is a struct or an array itself, its cells. -/
def fq (P : Program) (s f : Nat) : Option (Nat × Bool × Nat) :=
  match P.underlying s with
  | some (.struct fs) => match fs[f]? with
    | some fd => match tyq P fd.type with
      | some (ag, n) => some (fd.offset, ag, n)
      | none => none
    | none => none
  | _ => none
theorem fq_spec {P : Program} {s f off n : Nat} {ag : Bool} (h : fq P s f = some (off, ag, n)) : ∃ fs fd, P.underlying s = some (.struct fs) ∧ fs[f]? = some fd ∧ tyq P fd.type = some (ag, n) ∧ fd.offset = off := by
  unfold fq at h
  split at h
  · rename_i fs hu
    split at h
    · rename_i fd hf
      split at h
      · rename_i ag' n' ht
        simp at h
        obtain ⟨rfl, rfl, rfl⟩ := h
        exact ⟨fs, fd, hu, hf, ht, rfl⟩
      · cases h
    · cases h
  · cases h

def wFieldAddr (C : Ctx) (s : TypeId) (p : PVal) (f : Nat) (σ : St) (K : PVal → Prop) : Prop :=
  match fq C.P s f with
  | some (off, _, n) => 0 < n ∧ match p with
    | .ptr r i o => match blkAt σ.o σ.l r with
      | some (.row _ _ _) => K (.ptr r i (o + off))
      | _ => False
    | .eptr x o => K (.eptr x (o + off))
    | .gptr g o => K (.gptr g (o + off))
    | _ => False
  | none => False

theorem run_fieldAt {P : Program} {s f off n : Nat} {ag : Bool} (h : fq P s f = some (off, ag, n)) (hn : 0 < n) (b o : Nat) (w : World) :
    (Instr.fieldAt s (.pointer (some ⟨b, o, none⟩)) f).run P w = .ok (.pointer (some ⟨b, o + off, none⟩)) w := by
  obtain ⟨fs, fd, hu, hf, ht, hoff⟩ := fq_spec h
  obtain ⟨d, _, _, hi⟩ := tyq_spec ht
  unfold Instr.fieldAt
  rw [Sem.run_bind, run_underlying hu]
  simp only [Result.andThen_ok, hf, Instr.sureAddr, Sem.run_bind, Sem.run_pure, fieldPlace, run_sizeOf hi]
  rw [Sem.run_ite, if_neg (by omega)]
  simp only [Sem.run_pure, Result.andThen_ok, Addr.add_mid, hoff]

theorem wFieldAddr_sound (hM : MemRel C V (blkAt σ.o σ.l)) {s f : Nat} {p : PVal} {v : Value} (hp : Rep V p v) {K : PVal → Prop} (h : wFieldAddr C s p f σ K) :
    ∃ u q, (Instr.fieldAt s v f).run C.P V.w = .ok u V.w ∧ Rep V q u ∧ K q := by
  unfold wFieldAddr at h
  split at h
  · rename_i off ag n hq
    obtain ⟨hn, h⟩ := h
    split at h
    · split at h
      · rename_i hB
        cases hp with
        | ptr hl =>
          refine ⟨_, _, run_fieldAt hq hn _ _ _, ?_, h⟩
          rw [Nat.add_assoc]; exact .ptr hl
        | ptrDead hd _ =>
          have := hM.blk _ _ hB
          rcases this with ⟨h1, _⟩ | ⟨_, _, _, _, h1, _⟩ <;> rw [h1] at hd <;> cases hd
      · exact h.elim
    · cases hp with
      | eptr g hown hb hc hx =>
        refine ⟨_, _, run_fieldAt hq hn _ _ _, ?_, h⟩
        rw [Nat.add_assoc]; exact .eptr g hown hb hc hx
    · cases hp with
      | gptr => exact ⟨_, _, run_fieldAt hq hn _ _ _, .gptr, h⟩
    · exact h.elim
  · exact h.elim

/-- A part of a value's cells. -/
theorem part_sound {t : TypeId} {ag : Bool} {n off : Nat} (ht : tyq C.P t = some (ag, n)) {cs : List PVal} {v : Value} (hp : Rep V (.agg cs) v) {K : PVal → Prop} (h : loadCs ag n cs off K) :
    ∃ vs u q, v = .agg vs ∧ (part t vs off).run C.P V.w = .ok u V.w ∧ Rep V q u ∧ K q := by
  obtain ⟨d, hu, hd, hi⟩ := tyq_spec ht
  cases hp with
  | agg hl h1 h2 =>
    rename_i vs
    cases ag with
    | true =>
      obtain ⟨hle, hK⟩ := h
      refine ⟨vs, .agg (vs.extract off (off + n)), _, rfl, ?_, .agg ?_ ?_ ?_, hK⟩
      · unfold part
        rw [Sem.run_bind, run_isAgg hu, hd]
        simp only [Result.andThen_ok, if_true, Sem.run_bind, run_sizeOf hi, Sem.run_pure]
      · simp; omega
      · intro j hj
        simp at hj
        have := h1 (off + j) (by omega)
        rw [Array.getD_eq_getD_getElem?] at this ⊢
        rw [Array.getElem?_extract, if_pos (by omega)]
        exact this
      · intro j c hc
        rw [List.getElem?_take] at hc
        split at hc
        · rw [List.getElem?_drop] at hc
          have := h2 _ _ hc
          rw [Array.getD_eq_getD_getElem?] at this ⊢
          have hlt : off + j < cs.length := (List.getElem?_eq_some_iff.1 hc).1
          rw [Array.getElem?_extract, if_pos (by omega)]
          exact this
        · cases hc
    | false =>
      unfold loadCs at h
      cases hq : cs[off]? with
      | none => simp [hq] at h
      | some c =>
        simp only [hq] at h
        have hlt : off < cs.length := (List.getElem?_eq_some_iff.1 hq).1
        refine ⟨vs, vs.getD off undef, c, rfl, ?_, h2 _ _ hq, h⟩
        unfold part
        rw [Sem.run_bind, run_isAgg hu, hd]
        have : vs[off]? = some (vs.getD off undef) := by rw [Array.getD_eq_getD_getElem?, Array.getElem?_eq_getElem (by omega)]; rfl
        simp only [Result.andThen_ok, Bool.false_eq_true, if_false, this, Sem.run_pure]

def wField (C : Ctx) (t : TypeId) (p : PVal) (f : Nat) (K : PVal → Prop) : Prop :=
  match fq C.P t f with
  | some (off, ag, n) => match p with
    | .agg cs => loadCs ag n cs off K
    | _ => False
  | none => False
theorem wField_sound {t f : Nat} {p : PVal} {v : Value} (hp : Rep V p v) {K : PVal → Prop} (h : wField C t p f K) :
    ∃ u q, (Instr.field t v f).run C.P V.w = .ok u V.w ∧ Rep V q u ∧ K q := by
  unfold wField at h
  split at h
  · rename_i off ag n hq
    split at h
    · obtain ⟨fs, fd, hu, hf, ht, rfl⟩ := fq_spec hq
      obtain ⟨vs, u, q, rfl, hr, hq', hK⟩ := part_sound ht hp h
      refine ⟨u, q, ?_, hq', hK⟩
      unfold Instr.field
      rw [Sem.run_bind, run_underlying hu]
      simp only [Result.andThen_ok, hf, asAgg, Sem.run_bind, Sem.run_pure, hr]
    · exact h.elim
  · exact h.elim

/-! ### indices -/
def gi (xs : List PVal) (i : Nat) : PVal := xs.getD i .any
def gb (s : List UInt8) (i : Nat) : Int := ((s.getD i 0).toNat : Int)

/-- Of a pointer's or value's array type: its length and its element's type. -/
def aq (P : Program) (t : TypeId) : Option (Nat × TypeId) :=
  match P.underlying t with
  | some (.array n e) => some (n, e)
  | _ => none

def wIndexAddr (C : Ctx) (t : TypeId) (p ix : PVal) (σ : St) (K : PVal → Prop) : Prop :=
  match ix with
  | .int _ i => match p with
    | .ref r off len => match slq C.P t, blkAt σ.o σ.l r with
      | some (_, n, _), some (.row _ size _) => n = size ∧ 0 ≤ i ∧ i < len ∧ K (.ptr r (off + i.toNat) 0)
      | _, _ => False
    | .slc xs => match slq C.P t with
      | some (_, n, _) => 0 ≤ i ∧ i < xs.length ∧ (gi xs i.toNat).cells.length = n ∧ K (.eptr (gi xs i.toNat) 0)
      | none => False
    | .gptr g off => match aq C.P t with
      | some (n, e) => match tyq C.P e with
        | some (_, m) => 0 ≤ i ∧ i < n ∧ K (.gptr g (off + i.toNat * m))
        | none => False
      | none => False
    | _ => False
  | _ => False

theorem aq_spec {P : Program} {t n e : Nat} (h : aq P t = some (n, e)) : P.underlying t = some (.array n e) := by
  unfold aq at h
  split at h
  · simp at h; obtain ⟨rfl, rfl⟩ := h; assumption
  · cases h
theorem run_indexAt_array {P : Program} {t n e m : Nat} {ag : Bool} (h : aq P t = some (n, e)) (hm : tyq P e = some (ag, m)) (b o : Nat) (k : IntKind) (i : Int) (h0 : 0 ≤ i) (h1 : i < n) (w : World) :
    (Instr.indexAt t (.pointer (some ⟨b, o, none⟩)) (.int k i)).run P w = .ok (.pointer (some ⟨b, o + i.toNat * m, none⟩)) w := by
  obtain ⟨_, _, _, hsz⟩ := tyq_spec hm
  unfold Instr.indexAt
  simp [asIntOf, run_underlying (aq_spec h), Instr.sureAddr, h0, h1, run_sizeOf hsz, Addr.add_mid]

theorem run_indexAt_slice' {P : Program} {t e : TypeId} {n b' : Nat} (h : slq P t = some (e, n, b')) (b o len cap : Nat) (k : IntKind) (i : Int) (h0 : 0 ≤ i) (h1 : i < len) (w : World) :
    (Instr.indexAt t (.slice (some ⟨b, o, none⟩) len cap) (.int k i)).run P w = .ok (.pointer (some ⟨b, o + i.toNat * n, none⟩)) w := by
  obtain ⟨ii, z, hu, hi, _, hsz, _⟩ := slq_spec h
  have hs := run_sizeOf (P := P) (t := e) (n := n) (by simp [hi, hsz]) w
  unfold Instr.indexAt
  simp [asIntOf, run_underlying hu, h0, h1, hs, Addr.add_mid]

theorem wIndexAddr_sound (hM : MemRel C V (blkAt σ.o σ.l)) {t : Nat} {p ix : PVal} {v y : Value} (hp : Rep V p v) (hi : Rep V ix y) {K : PVal → Prop} (h : wIndexAddr C t p ix σ K) :
    ∃ u q, (Instr.indexAt t v y).run C.P V.w = .ok u V.w ∧ Rep V q u ∧ K q := by
  unfold wIndexAddr at h
  split at h
  · rename_i k i
    cases hi
    split at h
    · rename_i r off len
      split at h
      · rename_i e n b elems size ty hq hB
        obtain ⟨rfl, h0, h1, hK⟩ := h
        cases hp with
        | refDead hd _ =>
          have := hM.blk _ _ hB
          rcases this with ⟨h1, _⟩ | ⟨_, _, _, _, h1, _⟩ <;> rw [h1] at hd <;> cases hd
        | refEmpty _ => simp at h1; omega
        | ref hl hcap hsz =>
          rename_i cap bb base size'
          have hsame : size' = n := by
            have := hM.blk _ _ hB
            rcases this with ⟨h1, _⟩ | ⟨_, _, _, _, h1, _⟩ <;> rw [h1] at hl <;> cases hl
            rfl
          subst hsame
          refine ⟨_, _, run_indexAt_slice' hq _ _ _ _ _ _ h0 h1 _, ?_, hK⟩
          have : Rep V (.ptr r (off + i.toNat) 0) (.pointer (some ⟨bb, base + (off + i.toNat) * size' + 0, none⟩)) := .ptr hl
          rw [Nat.add_mul, ← Nat.add_assoc] at this
          exact this
      · exact h.elim
    · rename_i xs
      split at h
      · rename_i e n b hq
        obtain ⟨h0, h1, hn, hK⟩ := h
        have hlt : i.toNat < xs.length := by omega
        have hgi : xs[i.toNat]? = some (gi xs i.toNat) := by simp [gi, List.getD_eq_getElem?_getD, List.getElem?_eq_getElem hlt]
        cases hp with
        | slcEmpty => simp at h1; omega
        | slc size f hown hb hcap hc hs hx =>
          have hsz := hs _ _ hgi
          obtain rfl : size = n := by omega
          refine ⟨_, _, run_indexAt_slice' hq _ _ _ _ _ _ h0 h1 _, ?_, hK⟩
          have hle : i.toNat * size + size ≤ xs.length * size := by rw [← Nat.succ_mul]; exact Nat.mul_le_mul_right _ hlt
          have := Rep.eptr (V := V) (x := gi xs i.toNat) (off := 0) (b := _) (o := _) (fun j => f (i.toNat * size + j)) hown hb (fun m hm => by
            have := hc (i.toNat * size + m) (by omega)
            rw [← Nat.add_assoc] at this; exact this) (fun j c hcj => hx _ _ j c hgi hcj)
          exact this
      · exact h.elim
    · split at h
      · rename_i n e ha
        split at h
        · rename_i ag m ht
          obtain ⟨h0, h1, hK⟩ := h
          cases hp
          exact ⟨_, _, run_indexAt_array ha ht _ _ _ _ h0 h1 _, .gptr, hK⟩
        · exact h.elim
      · exact h.elim
    · exact h.elim
  · exact h.elim

def wIndex (C : Ctx) (t : TypeId) (p ix : PVal) (K : PVal → Prop) : Prop :=
  match ix with
  | .int _ i => match p with
    | .str s => (C.P.underlying t = some .string) ∧ 0 ≤ i ∧ i < s.length ∧ K (.int .u8 (gb s i.toNat))
    | .agg cs => match aq C.P t with
      | some (n, e) => match tyq C.P e with
        | some (ag, m) => 0 ≤ i ∧ i < n ∧ loadCs ag m cs (i.toNat * m) K
        | none => False
      | none => False
    | _ => False
  | _ => False
theorem wIndex_sound {t : Nat} {p ix : PVal} {v y : Value} (hp : Rep V p v) (hi : Rep V ix y) {K : PVal → Prop} (h : wIndex C t p ix K) :
    ∃ u q, (Instr.index t v y).run C.P V.w = .ok u V.w ∧ Rep V q u ∧ K q := by
  unfold wIndex at h
  split at h
  · rename_i k i
    cases hi
    split at h
    · rename_i s
      obtain ⟨hu, h0, h1, hK⟩ := h
      cases hp
      refine ⟨.int .u8 (gb s i.toNat), _, ?_, .int, hK⟩
      have hlt : i.toNat < s.length := by omega
      have hb : (⟨⟨s⟩⟩ : ByteArray)[i.toNat]? = some s[i.toNat] := by
        have : i.toNat < (⟨⟨s⟩⟩ : ByteArray).size := by simpa [ByteArray.size] using hlt
        rw [getElem?_pos (⟨⟨s⟩⟩ : ByteArray) i.toNat this]
        rfl
      unfold Instr.index
      simp [asIntOf, run_underlying hu, h0, hb, gb, List.getD_eq_getElem?_getD, hlt]
    · rename_i cs
      split at h
      · rename_i n e ha
        split at h
        · rename_i ag m ht
          obtain ⟨h0, h1, hl⟩ := h
          obtain ⟨vs, u, q, rfl, hr, hq', hK⟩ := part_sound ht hp hl
          obtain ⟨_, _, _, hsz⟩ := tyq_spec ht
          have hu : C.P.underlying t = some (.array n e) := by
            unfold aq at ha
            split at ha
            · simp at ha; obtain ⟨rfl, rfl⟩ := ha; assumption
            · cases ha
          refine ⟨u, q, ?_, hq', hK⟩
          unfold Instr.index
          simp [asIntOf, run_underlying hu, h0, h1, run_sizeOf hsz, hr]
        · exact h.elim
      · exact h.elim
    · exact h.elim
  · exact h.elim

/-! ### slices of strings and slices -/
def bnd (x : Option PVal) (d : Nat) : Option Int :=
  match x with
  | none => some d
  | some (.int _ i) => some i
  | _ => none

def wSlice (C : Ctx) (t : TypeId) (p : PVal) (lo hi : Option PVal) (σ : St) (K : PVal → Prop) : Prop :=
  match p with
  | .str s => C.P.underlying t = some .string ∧ match bnd lo 0, bnd hi s.length with
    | some l, some h => 0 ≤ l ∧ l ≤ h ∧ h ≤ s.length ∧ K (.str ((s.drop l.toNat).take (h.toNat - l.toNat)))
    | _, _ => False
  | .slc xs => match slq C.P t, bnd lo 0, bnd hi xs.length with
    | some (_, n, _), some l, some h => 0 ≤ l ∧ l ≤ h ∧ h ≤ xs.length ∧ (∀ x ∈ xs, x.cells.length = n) ∧ K (.slc ((xs.drop l.toNat).take (h.toNat - l.toNat)))
    | _, _, _ => False
  | .ref r off len => match slq C.P t, bnd lo 0, bnd hi len, blkAt σ.o σ.l r with
    | some (_, n, _), some l, some h, some (.row _ size _) => n = size ∧ 0 ≤ l ∧ l ≤ h ∧ h ≤ len ∧ K (.ref r (off + l.toNat) (h.toNat - l.toNat))
    | _, _, _, _ => False
  | .nils => match slq C.P t, bnd lo 0, bnd hi 0 with
    | some _, some l, some h => l = 0 ∧ h = 0 ∧ K .nils
    | _, _, _ => False
  | _ => False

theorem run_bounds {P : Program} (isSlice : Bool) (len cap : Nat) (hcap : len ≤ cap) {lo hi : Option PVal} {lo' hi' : Option Value} {l h : Int}
    (hl : bnd lo 0 = some l) (hh : bnd hi len = some h) (rl : ∀ p, lo = some p → ∃ v, lo' = some v ∧ Rep V p v) (nl : lo = none → lo' = none)
    (rh : ∀ p, hi = some p → ∃ v, hi' = some v ∧ Rep V p v) (nh : hi = none → hi' = none) (h0 : 0 ≤ l) (h1 : l ≤ h) (h2 : h ≤ len) (w : World) :
    (Instr.sliceBounds isSlice len cap lo' hi' none).run P w = .ok (l.toNat, h.toNat, cap) w := by
  have hhc : h ≤ cap := by omega
  have eh : (h.toNat : Int) = h := Int.toNat_of_nonneg (by omega)
  have key : ∀ (k : IntKind) (i : Int) (y : Nat) (code : BoundsCode), 0 ≤ i → i ≤ y → (Instr.sliceBound (.int k i) y code).run P w = .ok i.toNat w := fun k i y code a b => by
    simp [Instr.sliceBound, asIntOf, a, b]
  cases hi with
  | none =>
    simp only [bnd, Option.some.injEq] at hh
    subst hh
    rw [nh rfl]
    cases lo with
    | none =>
      simp only [bnd, Option.some.injEq] at hl
      subst hl
      rw [nl rfl]
      simp [Instr.sliceBounds]
    | some p =>
      obtain ⟨v, hv, hr⟩ := rl p rfl
      cases p <;> simp only [bnd, Option.some.injEq, reduceCtorEq] at hl
      subst hl
      cases hr
      rw [hv]
      simp [Instr.sliceBounds, key _ _ _ _ h0 h1]
  | some q =>
    obtain ⟨v, hv, hr⟩ := rh q rfl
    cases q <;> simp only [bnd, Option.some.injEq, reduceCtorEq] at hh
    subst hh
    cases hr
    rw [hv]
    cases lo with
    | none =>
      simp only [bnd, Option.some.injEq] at hl
      subst hl
      rw [nl rfl]
      simp [Instr.sliceBounds, key _ _ _ _ (Int.le_trans h0 h1) hhc]
    | some p =>
      obtain ⟨v', hv', hr'⟩ := rl p rfl
      cases p <;> simp only [bnd, Option.some.injEq, reduceCtorEq] at hl
      subst hl
      cases hr'
      rw [hv']
      simp [Instr.sliceBounds, key _ _ _ _ (Int.le_trans h0 h1) hhc, key _ _ _ _ h0 (show _ ≤ ((Int.toNat _ : Nat) : Int) by rw [eh]; exact h1)]

theorem wSlice_sound (hM : MemRel C V (blkAt σ.o σ.l)) {t : Nat} {p : PVal} {v : Value} (hp : Rep V p v) {lo hi : Option PVal} {lo' hi' : Option Value}
    (rl : ∀ p, lo = some p → ∃ v, lo' = some v ∧ Rep V p v) (nl : lo = none → lo' = none)
    (rh : ∀ p, hi = some p → ∃ v, hi' = some v ∧ Rep V p v) (nh : hi = none → hi' = none) {K : PVal → Prop} (h : wSlice C t p lo hi σ K) :
    ∃ u q, (Instr.sliceAt t v lo' hi' none).run C.P V.w = .ok u V.w ∧ Rep V q u ∧ K q := by
  have hslq : ∀ e n b, slq C.P t = some (e, n, b) → C.P.underlying t = some (.slice e) ∧ ∀ w, (sizeOf e).run C.P w = .ok n w := fun e n b hq => by
    obtain ⟨ii, z, hu, hi, _, hsz, _⟩ := slq_spec hq
    exact ⟨hu, run_sizeOf (by simp [hi, hsz])⟩
  unfold wSlice at h
  split at h
  · rename_i s
    obtain ⟨hu, h⟩ := h
    split at h
    · rename_i l hh hl1 hh1
      obtain ⟨h0, h1, h2, hK⟩ := h
      cases hp
      have hb := run_bounds (P := C.P) (V := V) false s.length s.length (Nat.le_refl _) hl1 hh1 rl nl rh nh h0 h1 h2 V.w
      refine ⟨.string ((⟨⟨s⟩⟩ : ByteArray).extract l.toNat hh.toNat), _, ?_, ?_, hK⟩
      · unfold Instr.sliceAt
        have hsz : (⟨⟨s⟩⟩ : ByteArray).size = s.length := rfl
        simp [run_underlying hu, Instr.slice, hsz, hb]
      · have e : (⟨⟨s⟩⟩ : ByteArray).extract l.toNat hh.toNat = ⟨⟨(s.drop l.toNat).take (hh.toNat - l.toNat)⟩⟩ := by
          have := Lib.extract_data (⟨⟨s⟩⟩ : ByteArray) l.toNat hh.toNat
          generalize (⟨⟨s⟩⟩ : ByteArray).extract l.toNat hh.toNat = z at this
          obtain ⟨⟨z⟩⟩ := z
          simp at this
          rw [this]
        rw [e]; exact .str
    · exact h.elim
  · rename_i xs
    split at h
    · rename_i e n b l hh hq hl1 hh1
      obtain ⟨hu, hsz⟩ := hslq _ _ _ hq
      obtain ⟨h0, h1, h2, hall, hK⟩ := h
      have run : ∀ (a : Option Addr) (cap : Nat), xs.length ≤ cap → (Instr.sliceAt t (.slice a xs.length cap) lo' hi' none).run C.P V.w =
          .ok (.slice (if cap = l.toNat then a else a.map (·.add (l.toNat * n))) (hh.toNat - l.toNat) (cap - l.toNat)) V.w := fun a cap hc => by
        have hb := run_bounds (P := C.P) (V := V) true xs.length cap hc hl1 hh1 rl nl rh nh h0 h1 h2 V.w
        unfold Instr.sliceAt
        simp [run_underlying hu, Instr.slice, hb, hsz]
      have hlen : ((xs.drop l.toNat).take (hh.toNat - l.toNat)).length = hh.toNat - l.toNat := by simp; omega
      cases hp with
      | slcEmpty =>
        simp at h2
        have e1 : l.toNat = 0 := by omega
        have e2 : hh.toNat = 0 := by omega
        refine ⟨_, _, run _ _ (by simp), ?_, hK⟩
        simp only [e1, e2, List.drop_zero, List.take_nil, Nat.sub_zero]
        exact .slcEmpty
      | slc size f hown hb hcap hc hs hx =>
        rename_i bb o cap
        refine ⟨_, _, run _ _ hcap, ?_, hK⟩
        by_cases hz : hh.toNat - l.toNat = 0
        · have : (xs.drop l.toNat).take (hh.toNat - l.toNat) = [] := by rw [hz]; simp
          rw [this, hz]; exact .slcEmpty
        · rw [if_neg (by omega)]
          have hne : l.toNat < xs.length := by omega
          have hsn : size = n := by
            rw [← hs l.toNat _ (List.getElem?_eq_getElem hne)]; exact hall _ (List.getElem_mem hne)
          subst hsn
          have hle : (l.toNat + (hh.toNat - l.toNat)) * size ≤ xs.length * size := Nat.mul_le_mul_right _ (by omega)
          rw [Nat.add_mul] at hle
          have := Rep.slc (V := V) (xs := (xs.drop l.toNat).take (hh.toNat - l.toNat)) (b := bb) (off := o + l.toNat * size) (cap := cap - l.toNat) size (fun m => f (l.toNat * size + m)) hown hb (by omega)
            (fun m hm => by
              have := hc (l.toNat * size + m) (by rw [hlen] at hm; omega)
              rw [← Nat.add_assoc] at this; exact this)
            (fun i x hxi => by
              rw [List.getElem?_take] at hxi
              split at hxi
              · rw [List.getElem?_drop] at hxi; exact hs _ x hxi
              · cases hxi)
            (fun i x j c hxi hcj => by
              rw [List.getElem?_take] at hxi
              split at hxi
              · rw [List.getElem?_drop] at hxi
                have := hx _ x j c hxi hcj
                rw [Nat.add_mul, Nat.add_assoc] at this
                exact this
              · cases hxi)
          rw [hlen] at this
          simpa [Addr.add_mid] using this
    · exact h.elim
  · rename_i r off len
    split at h
    · rename_i e n b l hh elems size ty hq hl1 hh1 hB
      obtain ⟨hu, hsz⟩ := hslq _ _ _ hq
      obtain ⟨rfl, h0, h1, h2, hK⟩ := h
      have run : ∀ (a : Option Addr) (cap : Nat), len ≤ cap → (Instr.sliceAt t (.slice a len cap) lo' hi' none).run C.P V.w =
          .ok (.slice (if cap = l.toNat then a else a.map (·.add (l.toNat * n))) (hh.toNat - l.toNat) (cap - l.toNat)) V.w := fun a cap hc => by
        have hb := run_bounds (P := C.P) (V := V) true len cap hc hl1 hh1 rl nl rh nh h0 h1 h2 V.w
        unfold Instr.sliceAt
        simp [run_underlying hu, Instr.slice, hb, hsz]
      have hloc : V.loc r = .none ∨ ∃ b base, V.loc r = .at b base n := by
        rcases hM.blk _ _ hB with ⟨h1, _⟩ | ⟨b, base, _, _, h1, _⟩
        · exact .inl h1
        · exact .inr ⟨b, base, h1⟩
      cases hp with
      | refDead hd _ => rcases hloc with h1 | ⟨_, _, h1⟩ <;> rw [h1] at hd <;> cases hd
      | refEmpty hl =>
        have e1 : l.toNat = 0 := by omega
        have e2 : hh.toNat = 0 := by omega
        refine ⟨_, _, run _ _ (by omega), ?_, hK⟩
        simp only [e1, e2, Nat.sub_zero]
        exact .refEmpty (hloc.imp id fun ⟨b, base, h⟩ => ⟨b, base, n, h⟩)
      | ref hl hcap hs =>
        rename_i cap bb base size'
        have hsame : size' = n := by
          rcases hloc with h1 | ⟨_, _, h1⟩ <;> rw [h1] at hl <;> cases hl
          rfl
        subst hsame
        refine ⟨_, _, run _ _ hcap, ?_, hK⟩
        by_cases hz : cap = l.toNat
        · have e2 : hh.toNat - l.toNat = 0 := by omega
          rw [if_pos hz, e2, hz, Nat.sub_self]
          exact .refEmpty (.inr ⟨_, _, _, hl⟩)
        · rw [if_neg hz]
          obtain ⟨ty', m, hs1, hs2⟩ := hs
          have := Rep.ref (V := V) (r := r) (off := off + l.toNat) (len := hh.toNat - l.toNat) (cap := cap - l.toNat) hl (by omega) ⟨ty', m, hs1, by
            rw [show off + l.toNat + (cap - l.toNat) = off + cap by omega]; exact hs2⟩
          rw [Nat.add_mul, ← Nat.add_assoc] at this
          simpa [Addr.add_mid] using this
    · exact h.elim
  · split at h
    · rename_i e l hh hq hl1 hh1
      obtain ⟨e, n, b⟩ := e
      obtain ⟨hu, hsz⟩ := hslq _ _ _ hq
      obtain ⟨rfl, rfl, hK⟩ := h
      cases hp
      have hb := run_bounds (P := C.P) (V := V) true 0 0 (Nat.le_refl _) hl1 hh1 rl nl rh nh (by omega) (by omega) (by simp) V.w
      refine ⟨.slice none 0 0, _, ?_, .nils, hK⟩
      unfold Instr.sliceAt
      simp [run_underlying hu, Instr.slice, hb, hsz]
    · exact h.elim
  · exact h.elim
end Go.V
