/-
  A quiet operation yields one value, whatever follows.
-/
import Derived.Test.YtednoahjadghnaaDoorVDrawC
namespace Go.V
open Go

variable {C : Ctx} {σ : St} {K : PVal → Prop}

theorem loadCs_det {ag : Bool} {m : Nat} {cs : List PVal} {off : Nat} (h : loadCs ag m cs off K) : ∃ p, loadCs ag m cs off (· = p) ∧ K p := by
  revert h
  unfold loadCs
  split
  · exact fun h => ⟨_, ⟨h.1, rfl⟩, h.2⟩
  · split
    · exact fun h => ⟨_, rfl, h⟩
    · exact fun h => h.elim
theorem wLoad_det {t : TypeId} {p : PVal} (h : wLoad C t p σ K) : ∃ q, wLoad C t p σ (· = q) ∧ K q := by
  revert h
  unfold wLoad
  repeat' (first | exact loadCs_det | exact fun h => h.elim | split)
theorem wParts_det {K : List PVal → Prop} {place : Nat → Option (Nat × Nat)} {e : Env} : ∀ {ps : List (Nat × Operand)} {zs : List PVal}, wParts place e zs ps K → ∃ q, wParts place e zs ps (· = q) ∧ K q
  | [], zs, h => ⟨_, rfl, h⟩
  | (i, x) :: r, zs, h => by
    revert h
    unfold wParts
    split
    · intro h
      obtain ⟨q, h1, h2⟩ := wParts_det h.2.2.2
      exact ⟨q, ⟨h.1, h.2.1, h.2.2.1, h1⟩, h2⟩
    · exact fun h => h.elim
theorem wBuild_det {t : TypeId} {ps : Array (Nat × Operand)} {e : Env} (h : wBuild C t ps e K) : ∃ q, wBuild C t ps e (· = q) ∧ K q := by
  revert h
  unfold wBuild
  split
  · intro h
    obtain ⟨q, h1, h2⟩ := wParts_det h
    exact ⟨_, wParts_mono (fun x hx => by rw [hx]) h1, h2⟩
  · split
    · intro h
      obtain ⟨q, h1, h2⟩ := wParts_det h
      exact ⟨_, wParts_mono (fun x hx => by rw [hx]) h1, h2⟩
    · exact fun h => h.elim
theorem wNilCheck_det {p : PVal} (h : wNilCheck p σ K) : ∃ q, wNilCheck p σ (· = q) ∧ K q := by
  revert h
  unfold wNilCheck
  repeat' (first | exact fun h => ⟨_, rfl, h⟩ | exact fun h => h.elim | split)
theorem wInt_det {op : BinOp} {k k' : IntKind} {a b : Int} (h : wInt op k a k' b K) : ∃ q, wInt op k a k' b (· = q) ∧ K q := by
  cases op <;> first | exact ⟨_, ⟨h.1, rfl⟩, h.2⟩ | exact ⟨_, ⟨h.1, h.2.1, rfl⟩, h.2.2⟩
theorem wStr_det {op : BinOp} {a b : List UInt8} (h : wStr op a b K) : ∃ q, wStr op a b (· = q) ∧ K q := by
  cases op <;> first | exact ⟨_, rfl, h⟩ | exact h.elim | exact ⟨_, ⟨h.1, rfl⟩, h.2⟩
theorem wEqs_det {op : BinOp} {b : Bool} (h : wEqs op b K) : ∃ q, wEqs op b (· = q) ∧ K q := by
  cases op <;> first | exact ⟨_, rfl, h⟩ | exact h.elim
theorem wBin_det {op : BinOp} {t : TypeId} {x y : Operand} {p q : PVal} (h : wBin C op t x y p q σ K) : ∃ r, wBin C op t x y p q σ (· = r) ∧ K r := by
  revert h
  unfold wBin
  split
  · exact wInt_det
  · exact wStr_det
  · intro h; obtain ⟨r, h1, h2⟩ := wEqs_det h.2; exact ⟨r, ⟨h.1, h1⟩, h2⟩
  · split
    · intro h; obtain ⟨r, h1, h2⟩ := wEqs_det h.2; exact ⟨r, ⟨h.1, h1⟩, h2⟩
    · exact fun h => h.elim
  · intro h; obtain ⟨r, h1, h2⟩ := wEqs_det h.2.2; exact ⟨r, ⟨h.1, h.2.1, h1⟩, h2⟩
  · intro h; obtain ⟨r, h1, h2⟩ := wEqs_det h.2; exact ⟨r, ⟨h.1, h1⟩, h2⟩
  · intro h; obtain ⟨r, h1, h2⟩ := wEqs_det h.2; exact ⟨r, ⟨h.1, h1⟩, h2⟩
  · intro h; obtain ⟨r, h1, h2⟩ := wEqs_det h.2.2; exact ⟨r, ⟨h.1, h.2.1, h1⟩, h2⟩
  · exact fun h => h.elim
theorem wUn_det {op : UnOp} {p : PVal} (h : wUn op p K) : ∃ q, wUn op p (· = q) ∧ K q := by
  revert h
  unfold wUn
  repeat' (first | exact fun h => ⟨_, rfl, h⟩ | exact fun h => h.elim | split)
theorem wSlice_det {t : TypeId} {p : PVal} {lo hi : Option PVal} (h : wSlice C t p lo hi σ K) : ∃ q, wSlice C t p lo hi σ (· = q) ∧ K q := by
  revert h
  unfold wSlice
  split
  · intro h
    have h1 := h.1
    replace h := h.2
    revert h
    split
    · exact fun h => ⟨_, ⟨h1, h.1, h.2.1, h.2.2.1, rfl⟩, h.2.2.2⟩
    · exact fun h => h.elim
  · split
    · exact fun h => ⟨_, ⟨h.1, h.2.1, h.2.2.1, h.2.2.2.1, rfl⟩, h.2.2.2.2⟩
    · exact fun h => h.elim
  · split
    · exact fun h => ⟨_, ⟨h.1, h.2.1, h.2.2.1, h.2.2.2.1, rfl⟩, h.2.2.2.2⟩
    · exact fun h => h.elim
  · split
    · exact fun h => ⟨_, ⟨h.1, h.2.1, rfl⟩, h.2.2⟩
    · exact fun h => h.elim
  · exact fun h => h.elim
theorem wFieldAddr_det {s : TypeId} {p : PVal} {f : Nat} (h : wFieldAddr C s p f σ K) : ∃ q, wFieldAddr C s p f σ (· = q) ∧ K q := by
  revert h
  unfold wFieldAddr
  split
  · intro h
    have h1 := h.1
    replace h := h.2
    revert h
    split
    · split
      · exact fun h => ⟨_, ⟨h1, rfl⟩, h⟩
      · exact fun h => h.elim
    · exact fun h => ⟨_, ⟨h1, rfl⟩, h⟩
    · exact fun h => ⟨_, ⟨h1, rfl⟩, h⟩
    · exact fun h => h.elim
  · exact fun h => h.elim
theorem wField_det {t : TypeId} {p : PVal} {f : Nat} (h : wField C t p f K) : ∃ q, wField C t p f (· = q) ∧ K q := by
  revert h
  unfold wField
  repeat' (first | exact loadCs_det | exact fun h => h.elim | split)
theorem wIndexAddr_det {t : TypeId} {p ix : PVal} (h : wIndexAddr C t p ix σ K) : ∃ q, wIndexAddr C t p ix σ (· = q) ∧ K q := by
  revert h
  unfold wIndexAddr
  repeat' (first | exact fun h => ⟨_, ⟨h.1, h.2.1, h.2.2.1, rfl⟩, h.2.2.2⟩ | exact fun h => ⟨_, ⟨h.1, h.2.1, rfl⟩, h.2.2⟩ | exact fun h => h.elim | split)
theorem wIndex_det {t : TypeId} {p ix : PVal} (h : wIndex C t p ix K) : ∃ q, wIndex C t p ix (· = q) ∧ K q := by
  revert h
  unfold wIndex
  split
  · split
    · exact fun h => ⟨_, ⟨h.1, h.2.1, h.2.2.1, rfl⟩, h.2.2.2⟩
    · split
      · split
        · intro h; obtain ⟨r, h1, h2⟩ := loadCs_det h.2.2; exact ⟨r, ⟨h.1, h.2.1, h1⟩, h2⟩
        · exact fun h => h.elim
      · exact fun h => h.elim
    · exact fun h => h.elim
  · exact fun h => h.elim
theorem wExtract_det {p : PVal} {i : Nat} (h : wExtract p i K) : ∃ q, wExtract p i (· = q) ∧ K q := by
  revert h
  unfold wExtract
  repeat' (first | exact fun h => ⟨_, rfl, h⟩ | exact fun h => h.elim | split)
theorem wLen_det {t : TypeId} {p : PVal} (h : wLen C t p K) : ∃ q, wLen C t p (· = q) ∧ K q := by
  revert h
  unfold wLen
  repeat' (first | exact fun h => ⟨_, ⟨h.1, rfl⟩, h.2⟩ | exact fun h => ⟨_, rfl, h⟩ | exact fun h => h.elim | split)
theorem wBuiltin_det {K : PVal → St → Prop} {b : Builtin} (hb : b ≠ .append) {ts : Array TypeId} {as : List PVal} (h : wBuiltin C b ts as σ K fun _ _ => False) :
    ∃ p, wBuiltin C b ts as σ (fun q τ => q = p ∧ τ = σ) (fun _ _ => False) ∧ K p σ := by
  revert h
  unfold wBuiltin
  split
  · split
    · intro h
      obtain ⟨r, h1, h2⟩ := wLen_det h.2
      exact ⟨r, ⟨h.1, wLen_mono (fun _ hq => ⟨hq, rfl⟩) h1⟩, h2⟩
    · exact fun h => h.elim
  · split
    · exact fun h => ⟨_, ⟨rfl, rfl⟩, h⟩
    · exact fun h => h.elim
  · split
    · exact fun h => ⟨_, ⟨rfl, rfl⟩, h⟩
    · exact fun h => h.elim
  · split
    · exact fun h => h.elim
    · exact fun h => h.elim
  · exact absurd rfl hb
  · exact fun h => h.elim
theorem wConv_det {K : PVal → St → Prop} {s t : TypeId} {p : PVal} (h : wConv C s t p σ K) : ∃ r, wConv C s t p σ (fun q τ => q = r ∧ τ = σ) ∧ K r σ := by
  revert h
  unfold wConv
  split
  · split
    · exact fun h => ⟨_, ⟨rfl, rfl⟩, h⟩
    · exact fun h => h.elim
  · exact fun h => ⟨_, ⟨h.1, h.2.1, rfl, rfl⟩, h.2.2⟩
  · rename_i xs
    rintro ⟨h1, h2, h⟩
    split at h
    · exact ⟨_, ⟨h1, h2, rfl, rfl⟩, h⟩
    · exact h.elim
  · exact fun h => h.elim

/-- Operations that leave the blocks alone, and are no calls of functions. -/
def plainOp : Op → Bool
  | .call c => match c.callee with
    | .builtin .append => false
    | .builtin _ => true
    | _ => false
  | .store .. | .alloc _ | .box .. | .buildSlice .. | .makeSlice .. => false
  | _ => true

theorem wOp_det {op : Op} (hop : plainOp op = true) {K : PVal → St → Prop} (h : wOp C op σ K fun _ _ => False) : ∃ p, wOp C op σ (fun q τ => q = p ∧ τ = σ) (fun _ _ => False) ∧ K p σ := by
  have E : ∀ {F : (PVal → Prop) → Prop}, (∀ {K K' : PVal → Prop}, (∀ q, K q → K' q) → F K → F K') → (∃ p, F (· = p) ∧ K p σ) → ∃ p, F (fun q => q = p ∧ True) ∧ K p σ := fun {F} hm ⟨p, h1, h2⟩ => ⟨p, hm (fun q hq => ⟨hq, trivial⟩) h1, h2⟩
  cases op <;> simp only [wOp] at h <;> simp only [wOp]
  case move x => exact ⟨_, ⟨rfl, trivial⟩, h⟩
  case assign x => exact ⟨_, ⟨rfl, trivial⟩, h⟩
  case pick c a b =>
    revert h
    split
    · rename_i t _
      cases t
      · exact fun h => ⟨_, ⟨fun h => (by cases h), fun _ => ⟨rfl, trivial⟩⟩, h.2 rfl⟩
      · exact fun h => ⟨_, ⟨fun _ => ⟨rfl, trivial⟩, fun h => (by cases h)⟩, h.1 rfl⟩
    · exact fun h => h.elim
  case alloc t => cases hop
  case box t x => cases hop
  case build t ps => exact E (F := fun K => wBuild C t ps σ.e K) (fun hK h => wBuild_mono hK h) (wBuild_det h)
  case buildSlice t m ps => cases hop
  case makeSlice t x y => cases hop
  case load t x => exact E (F := fun K => wLoad C t (val σ.e x) σ K) (fun hK h => wLoad_mono hK h) (wLoad_det h)
  case store t x y => cases hop
  case nilCheck x => exact E (F := fun K => wNilCheck (val σ.e x) σ K) (fun hK h => wNilCheck_mono hK h) (wNilCheck_det h)
  case binOp bo t x y ty => exact E (F := fun K => wBin C bo t x y (val σ.e x) (val σ.e y) σ K) (fun hK h => wBin_mono hK h) (wBin_det h)
  case unOp bo t x => exact E (F := fun K => wUn bo (val σ.e x) K) (fun hK h => wUn_mono hK h) (wUn_det h)
  case convert s t x => exact wConv_det h
  case makeInterface t x => exact ⟨_, ⟨h.1, rfl, trivial⟩, h.2⟩
  case makeFunc f a b => exact ⟨_, ⟨rfl, trivial⟩, h⟩
  case slice t x lo hi mx =>
    obtain ⟨p, h1, h2⟩ := wSlice_det h.2
    exact ⟨p, ⟨h.1, wSlice_mono (fun q hq => ⟨hq, trivial⟩) h1⟩, h2⟩
  case fieldAddr s x f => exact E (F := fun K => wFieldAddr C s (val σ.e x) f σ K) (fun hK h => wFieldAddr_mono hK h) (wFieldAddr_det h)
  case field s x f => exact E (F := fun K => wField C s (val σ.e x) f K) (fun hK h => wField_mono hK h) (wField_det h)
  case indexAddr t x i => exact E (F := fun K => wIndexAddr C t (val σ.e x) (val σ.e i) σ K) (fun hK h => wIndexAddr_mono hK h) (wIndexAddr_det h)
  case index t x i => exact E (F := fun K => wIndex C t (val σ.e x) (val σ.e i) K) (fun hK h => wIndex_mono hK h) (wIndex_det h)
  case extract x i => exact E (F := fun K => wExtract (val σ.e x) i K) (fun hK h => wExtract_mono hK h) (wExtract_det h)
  case call c =>
    unfold plainOp at hop
    dsimp only at hop
    unfold wCall at h ⊢
    split at hop
    · cases hop
    · rename_i b hnb hc
      simp only [hc] at h ⊢
      exact wBuiltin_det (fun e => hnb e) h
    · cases hop
  case panic x =>
    split at h
    · exact h.elim
    · exact h.elim
end Go.V
