/-
  An operation asks no more of what follows than it is told: the rules are monotone.
-/
import Derived.Test.YtednoahjadghnaaDoorVDrawB
namespace Go.V
open Go

variable {C : Ctx} {σ : St} {K K' : PVal → Prop}

theorem loadCs_mono (hK : ∀ q, K q → K' q) {ag : Bool} {m : Nat} {cs : List PVal} {off : Nat} (h : loadCs ag m cs off K) : loadCs ag m cs off K' := by
  revert h
  unfold loadCs
  split
  · exact fun h => ⟨h.1, hK _ h.2⟩
  · split
    · exact hK _
    · exact id
theorem wLoad_mono (hK : ∀ q, K q → K' q) {t : TypeId} {p : PVal} (h : wLoad C t p σ K) : wLoad C t p σ K' := by
  unfold wLoad at h ⊢
  repeat' (first | exact loadCs_mono hK h | exact h.elim | split at h)
theorem wParts_mono {K K' : List PVal → Prop} (hK : ∀ q, K q → K' q) {place : Nat → Option (Nat × Nat)} {e : Env} : ∀ {ps : List (Nat × Operand)} {zs : List PVal}, wParts place e zs ps K → wParts place e zs ps K'
  | [], zs, h => hK _ h
  | (i, x) :: r, zs, h => by
    unfold wParts at h ⊢
    split at h
    · exact ⟨h.1, h.2.1, h.2.2.1, wParts_mono hK h.2.2.2⟩
    · exact h
theorem wBuild_mono (hK : ∀ q, K q → K' q) {t : TypeId} {ps : Array (Nat × Operand)} {e : Env} (h : wBuild C t ps e K) : wBuild C t ps e K' := by
  unfold wBuild at h ⊢
  split at h
  · exact wParts_mono (fun _ => hK _) h
  · split at h
    · exact wParts_mono (fun _ => hK _) h
    · exact h
theorem wNilCheck_mono (hK : ∀ q, K q → K' q) {p : PVal} (h : wNilCheck p σ K) : wNilCheck p σ K' := by
  unfold wNilCheck at h ⊢
  repeat' (first | exact hK _ h | exact h.elim | split at h)
theorem wInt_mono (hK : ∀ q, K q → K' q) {op : BinOp} {k k' : IntKind} {a b : Int} (h : wInt op k a k' b K) : wInt op k a k' b K' := by
  cases op <;> first | exact ⟨h.1, hK _ h.2⟩ | exact ⟨h.1, h.2.1, hK _ h.2.2⟩
theorem wStr_mono (hK : ∀ q, K q → K' q) {op : BinOp} {a b : List UInt8} (h : wStr op a b K) : wStr op a b K' := by
  cases op <;> first | exact hK _ h | exact h.elim | exact ⟨h.1, hK _ h.2⟩
theorem wEqs_mono (hK : ∀ q, K q → K' q) {op : BinOp} {b : Bool} (h : wEqs op b K) : wEqs op b K' := by
  cases op <;> first | exact hK _ h | exact h.elim
theorem wBin_mono (hK : ∀ q, K q → K' q) {op : BinOp} {t : TypeId} {x y : Operand} {p q : PVal} (h : wBin C op t x y p q σ K) : wBin C op t x y p q σ K' := by
  unfold wBin at h ⊢
  split at h
  · exact wInt_mono hK h
  · exact wStr_mono hK h
  · exact ⟨h.1, wEqs_mono hK h.2⟩
  · split at h
    · exact ⟨h.1, wEqs_mono hK h.2⟩
    · exact h
  · exact ⟨h.1, h.2.1, wEqs_mono hK h.2.2⟩
  · exact ⟨h.1, wEqs_mono hK h.2⟩
  · exact ⟨h.1, wEqs_mono hK h.2⟩
  · exact ⟨h.1, h.2.1, wEqs_mono hK h.2.2⟩
  · exact h
theorem wUn_mono (hK : ∀ q, K q → K' q) {op : UnOp} {p : PVal} (h : wUn op p K) : wUn op p K' := by
  unfold wUn at h ⊢
  repeat' (first | exact hK _ h | exact h.elim | split at h)
theorem wSlice_mono (hK : ∀ q, K q → K' q) {t : TypeId} {p : PVal} {lo hi : Option PVal} (h : wSlice C t p lo hi σ K) : wSlice C t p lo hi σ K' := by
  unfold wSlice at h ⊢
  split at h
  · refine ⟨h.1, ?_⟩
    replace h := h.2
    split at h
    · exact ⟨h.1, h.2.1, h.2.2.1, hK _ h.2.2.2⟩
    · exact h
  · split at h
    · exact ⟨h.1, h.2.1, h.2.2.1, h.2.2.2.1, hK _ h.2.2.2.2⟩
    · exact h
  · split at h
    · exact ⟨h.1, h.2.1, h.2.2.1, h.2.2.2.1, hK _ h.2.2.2.2⟩
    · exact h
  · split at h
    · exact ⟨h.1, h.2.1, hK _ h.2.2⟩
    · exact h
  · exact h
theorem wFieldAddr_mono (hK : ∀ q, K q → K' q) {s : TypeId} {p : PVal} {f : Nat} (h : wFieldAddr C s p f σ K) : wFieldAddr C s p f σ K' := by
  unfold wFieldAddr at h ⊢
  split at h
  · refine ⟨h.1, ?_⟩
    replace h := h.2
    split at h
    · split at h
      · exact hK _ h
      · exact h
    · exact hK _ h
    · exact hK _ h
    · exact h
  · exact h
theorem wField_mono (hK : ∀ q, K q → K' q) {t : TypeId} {p : PVal} {f : Nat} (h : wField C t p f K) : wField C t p f K' := by
  unfold wField at h ⊢
  repeat' (first | exact loadCs_mono hK h | exact h.elim | split at h)
theorem wIndexAddr_mono (hK : ∀ q, K q → K' q) {t : TypeId} {p ix : PVal} (h : wIndexAddr C t p ix σ K) : wIndexAddr C t p ix σ K' := by
  revert h
  unfold wIndexAddr
  repeat' (first | exact fun h => ⟨h.1, h.2.1, h.2.2.1, hK _ h.2.2.2⟩ | exact fun h => ⟨h.1, h.2.1, hK _ h.2.2⟩ | exact id | split)
theorem wIndex_mono (hK : ∀ q, K q → K' q) {t : TypeId} {p ix : PVal} (h : wIndex C t p ix K) : wIndex C t p ix K' := by
  unfold wIndex at h ⊢
  split at h
  · split at h
    · exact ⟨h.1, h.2.1, h.2.2.1, hK _ h.2.2.2⟩
    · split at h
      · split at h
        · exact ⟨h.1, h.2.1, loadCs_mono hK h.2.2⟩
        · exact h
      · exact h
    · exact h
  · exact h
theorem wExtract_mono (hK : ∀ q, K q → K' q) {p : PVal} {i : Nat} (h : wExtract p i K) : wExtract p i K' := by
  unfold wExtract at h ⊢
  repeat' (first | exact hK _ h | exact h.elim | split at h)
theorem putc_mono (hK : ∀ q, K q → K' q) {x : PVal} {off : Nat} {v : PVal} (h : putc x off v K) : putc x off v K' := by
  unfold putc at h ⊢
  split at h
  · exact ⟨h.1, hK _ h.2⟩
  · exact h
  · exact ⟨h.1, hK _ h.2⟩
theorem wStore_mono {K K' : St → Prop} (hK : ∀ q, K q → K' q) {t : TypeId} {p v : PVal} (h : wStore C t p v σ K) : wStore C t p v σ K' := by
  unfold wStore at h ⊢
  split at h
  · exact h
  · refine ⟨h.1, h.2.1, ?_⟩
    replace h := h.2.2
    split at h
    · split at h
      · split at h
        · exact putc_mono (fun _ => hK _) h
        · exact h
      · exact h
    · exact h
theorem wBuildSliceZ_mono (hK : ∀ q, K q → K' q) {t len : Nat} {ps : Array (Nat × Operand)} (h : wBuildSliceZ C t len ps σ K) : wBuildSliceZ C t len ps σ K' := by
  unfold wBuildSliceZ at h ⊢
  split at h
  · exact ⟨h.1, h.2.1, h.2.2.1, h.2.2.2.1, hK _ h.2.2.2.2⟩
  · exact h
theorem CallW_mono {K K' KP KP' : PVal → St → Prop} (hK : ∀ q τ, K q τ → K' q τ) (hP : ∀ q τ, KP q τ → KP' q τ) {g : FuncId} {as : List PVal} (h : CallW C g as σ K KP) : CallW C g as σ K' KP' :=
  ⟨h.1, fun V vs hM hL => (h.2 V vs hM hL).mono fun x w' ⟨V', σ', r, h1, h2, h3, h4⟩ => ⟨V', σ', r, h1, h2, h3, by
    cases r with
    | ret p => exact hK _ _ h4
    | pan p => exact hP _ _ h4⟩⟩

theorem wOp_mono {K K' KP KP' : PVal → St → Prop} (hK : ∀ q τ, K q τ → K' q τ) (hP : ∀ q τ, KP q τ → KP' q τ) {op : Op} (h : wOp C op σ K KP) : wOp C op σ K' KP' := by
  have hk : ∀ q, K q σ → K' q σ := fun q => hK q σ
  cases op <;> simp only [wOp] at h <;> simp only [wOp]
  case move x => exact hk _ h
  case assign x => exact hk _ h
  case pick c a b =>
    split at h
    · exact ⟨fun t => hk _ (h.1 t), fun t => hk _ (h.2 t)⟩
    · exact h.elim
  case alloc t =>
    unfold wAlloc at h ⊢
    split at h
    · exact ⟨h.1, hK _ _ h.2⟩
    · exact h
  case box t x => exact ⟨h.1, hK _ _ h.2⟩
  case build t ps => exact wBuild_mono hk h
  case buildSlice t m ps =>
    unfold wBuildSlice at h ⊢
    split at h
    · exact ⟨h.1, h.2.1, h.2.2.1, h.2.2.2.1, hK _ _ h.2.2.2.2⟩
    · exact h
  case load t x => exact wLoad_mono hk h
  case makeSlice t x y =>
    unfold wMakeSlice at h ⊢
    split at h
    · split at h
      · split at h
        · exact ⟨h.1, h.2.1, h.2.2.1, h.2.2.2.1, h.2.2.2.2.1, h.2.2.2.2.2.1, hK _ _ h.2.2.2.2.2.2⟩
        · exact h
      · exact h
    · exact h
  case store t x y => exact wStore_mono (fun τ => hK _ τ) h
  case nilCheck x => exact wNilCheck_mono hk h
  case binOp bo t x y ty => exact wBin_mono hk h
  case unOp bo t x => exact wUn_mono hk h
  case convert s t x => exact wConv_mono hk h
  case makeInterface t x => exact ⟨h.1, hk _ h.2⟩
  case makeFunc f a b => exact hk _ h
  case slice t x lo hi mx => exact ⟨h.1, wSlice_mono hk h.2⟩
  case fieldAddr s x f => exact wFieldAddr_mono hk h
  case field s x f => exact wField_mono hk h
  case indexAddr t x i => exact wIndexAddr_mono hk h
  case index t x i => exact wIndex_mono hk h
  case extract x i => exact wExtract_mono hk h
  case call c =>
    unfold wCall at h ⊢
    split at h
    · exact wBuiltin_mono hK hP h
    · split at h
      · exact CallW_mono hK hP h
      · exact h.elim
    · exact h.elim
  case panic x =>
    split at h
    · exact hP _ _ h
    · exact h.elim

end Go.V
