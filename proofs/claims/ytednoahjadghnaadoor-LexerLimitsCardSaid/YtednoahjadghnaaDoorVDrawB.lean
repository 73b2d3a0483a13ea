/-
  An operation looks at its operands alone: how it answers from another environment.
-/
import Derived.Test.YtednoahjadghnaaDoorVDraw
namespace Go.V
open Go

variable {C : Ctx} {n : Nat}

theorem val_agree {e e' : Env} {x : Operand} (h : ∀ t, x = .tmp t → gt e t = gt e' t) : val e' x = val e x := by
  cases x <;> first | rfl | exact (h _ rfl).symm
theorem valL_agree {e e' : Env} {xs : List Operand} (h : ∀ t, .tmp t ∈ xs → gt e t = gt e' t) : xs.map (val e') = xs.map (val e) :=
  List.map_congr_left fun _ hx => val_agree fun _ ht => h _ (ht ▸ hx)

/-- What follows, as seen from another environment. -/
def kE (K : PVal → St → Prop) (e e' : Env) (d : List PDef) : PVal → St → Prop := fun q τ => τ.e = e' ∧ τ.d = d ∧ K q ⟨e, τ.o, τ.l, d⟩

theorem wParts_agree {e e' : Env} (place : Nat → Option (Nat × Nat)) : ∀ (ps : List (Nat × Operand)) (zs : List PVal) (K : List PVal → Prop), (∀ t, .tmp t ∈ ps.map (·.2) → gt e t = gt e' t) → wParts place e' zs ps K = wParts place e zs ps K
  | [], _, _, _ => rfl
  | (i, x) :: r, zs, K, h => by
    have hx : val e' x = val e x := val_agree fun t ht => h t (by simp [ht])
    have ih := fun zs => wParts_agree place r zs K fun t ht => h t (by simp only [List.map_cons, List.mem_cons]; exact .inr ht)
    simp only [wParts, hx, ih]

theorem wBuild_agree {e e' : Env} {t : TypeId} {ps : Array (Nat × Operand)} (h : ∀ t, .tmp t ∈ ps.toList.map (·.2) → gt e t = gt e' t) (K : PVal → Prop) : wBuild C t ps e' K = wBuild C t ps e K := by
  unfold wBuild
  simp only [wParts_agree (e := e) (e' := e') _ _ _ _ h]

theorem dense_vals {e e' : Env} {i : Nat} {ps : List (Nat × Operand)} {xs : List Operand} (hd : dense i ps = some xs) (h : ∀ t, .tmp t ∈ ps.map (·.2) → gt e t = gt e' t) : xs.map (val e') = xs.map (val e) := by
  refine valL_agree fun t ht => h t ?_
  rw [dense_spec _ _ _ hd, List.map_map]
  obtain ⟨k, hk, hx⟩ := List.getElem_of_mem ht
  exact List.mem_map.2 ⟨(xs[k], i + k), List.mem_iff_getElem.2 ⟨k, by simpa using hk, by simp⟩, hx⟩

variable {e e' : Env} {o l : List Blk} {d : List PDef} {K KP : PVal → St → Prop}

theorem wStore_kE {t : TypeId} {p v : PVal} (h : wStore C t p v ⟨e, o, l, d⟩ fun τ => K .any τ) : wStore C t p v ⟨e', o, l, d⟩ fun τ => kE K e e' d .any τ := by
  unfold wStore at h ⊢
  split at h
  · exact h
  · obtain ⟨h1, h2, h⟩ := h
    refine ⟨h1, h2, ?_⟩
    split at h
    · rename_i r i off
      dsimp only at h ⊢
      split at h
      · rename_i elems size ty hB
        split at h
        · rename_i x hx
          have hk : (fun y => kE K e e' d .any (setBlk ⟨e', o, l, d⟩ r (.row (elems.set i y) size ty))) = fun y => K .any (setBlk ⟨e, o, l, d⟩ r (.row (elems.set i y) size ty)) := by
            funext y
            cases r <;> simp [kE, setBlk]
          rw [hk]; exact h
        · exact h.elim
      · exact h.elim
    · exact h.elim

theorem wBox_kE {t : TypeId} {p : PVal} (h : wBox t p ⟨e, o, l, d⟩ K) : wBox t p ⟨e', o, l, d⟩ (kE K e e' d) := ⟨h.1, rfl, rfl, h.2⟩
theorem wAlloc_kE {t : TypeId} (h : wAlloc C t ⟨e, o, l, d⟩ K) : wAlloc C t ⟨e', o, l, d⟩ (kE K e e' d) := by
  unfold wAlloc at h ⊢
  split at h
  · exact wBox_kE h
  · exact h

theorem wBuildSlice_kE {t len : Nat} {ps : Array (Nat × Operand)} (hv : ∀ t, .tmp t ∈ ps.toList.map (·.2) → gt e t = gt e' t) (h : wBuildSlice C t len ps ⟨e, o, l, d⟩ K) : wBuildSlice C t len ps ⟨e', o, l, d⟩ (kE K e e' d) := by
  unfold wBuildSlice at h ⊢
  split at h
  · rename_i e0 m b xs hq hd
    have := dense_vals hd hv
    simp only [this]
    exact ⟨h.1, h.2.1, h.2.2.1, h.2.2.2.1, rfl, rfl, h.2.2.2.2⟩
  · exact h.elim
theorem wBuildSliceZ_agree {t len : Nat} {ps : Array (Nat × Operand)} (hv : ∀ t, .tmp t ∈ ps.toList.map (·.2) → gt e t = gt e' t) (K : PVal → Prop) : wBuildSliceZ C t len ps ⟨e', o, l, d⟩ K = wBuildSliceZ C t len ps ⟨e, o, l, d⟩ K := by
  unfold wBuildSliceZ
  split
  · rename_i e0 m b xs hq hd
    simp only [dense_vals hd hv]
  · rfl

theorem CallW_kE {g : FuncId} {as : List PVal} (h : CallW C g as ⟨e, o, l, d⟩ K KP) : CallW C g as ⟨e', o, l, d⟩ (kE K e e' d) (kE KP e e' d) := by
  refine ⟨h.1, fun V vs hM hL => (h.2 V vs hM hL).mono fun x w' ⟨V', σ', r, h1, h2, h3, h4⟩ => ⟨V', ⟨e', σ'.o, σ'.l, d⟩, r, h1, ⟨h2.to, h2.later, h2.mem, rfl, rfl⟩, h3, ?_⟩⟩
  have e1 : σ' = ⟨e, σ'.o, σ'.l, d⟩ := by
    have := h2.e; have := h2.d
    cases σ'; simp_all
  cases r with
  | ret p => dsimp only at h4 ⊢; rw [e1] at h4; exact ⟨rfl, rfl, h4⟩
  | pan p => dsimp only at h4 ⊢; rw [e1] at h4; exact ⟨rfl, rfl, h4⟩

theorem wLen_mono {K K' : PVal → Prop} (hK : ∀ q, K q → K' q) {t : TypeId} {p : PVal} (h : wLen C t p K) : wLen C t p K' := by
  revert h
  unfold wLen
  repeat' (first | exact fun h => ⟨h.1, hK _ h.2⟩ | exact hK _ | exact id | split)
theorem wAppend_kE {t tx : TypeId} {p q : PVal} (h : wAppend C t tx p q ⟨e, o, l, d⟩ K) : wAppend C t tx p q ⟨e', o, l, d⟩ (kE K e e' d) := by
  unfold wAppend at h ⊢
  have hs : srcOf C tx q ⟨e', o, l, d⟩ = srcOf C tx q ⟨e, o, l, d⟩ := rfl
  rw [hs]
  split at h
  · obtain ⟨h1, h2, h3, h⟩ := h
    refine ⟨h1, h2, h3, ?_⟩
    split at h
    · exact ⟨h.1, h.2.1, rfl, rfl, h.2.2⟩
    · rename_i r off len
      dsimp only at h ⊢
      split at h
      · obtain ⟨h4, h5, h6, h7, h8, h9⟩ := h
        refine ⟨h4, h5, h6, h7, h8, ?_⟩
        cases r <;> exact ⟨rfl, rfl, h9⟩
      · exact h
    · exact h
  · exact h
theorem wAppend_mono {σ : St} {K K' : PVal → St → Prop} (hK : ∀ q τ, K q τ → K' q τ) {t tx : TypeId} {p q : PVal} (h : wAppend C t tx p q σ K) : wAppend C t tx p q σ K' := by
  unfold wAppend at h ⊢
  split at h
  · obtain ⟨h1, h2, h3, h⟩ := h
    refine ⟨h1, h2, h3, ?_⟩
    split at h
    · exact ⟨h.1, h.2.1, hK _ _ h.2.2⟩
    · split at h
      · obtain ⟨h4, h5, h6, h7, h8, h9⟩ := h
        exact ⟨h4, h5, h6, h7, h8, hK _ _ h9⟩
      · exact h
    · exact h
  · exact h
theorem wBuiltin_mono {b : Builtin} {ts : Array TypeId} {as : List PVal} {σ : St} {K K' KP KP' : PVal → St → Prop} (hK : ∀ q τ, K q τ → K' q τ) (hP : ∀ q τ, KP q τ → KP' q τ)
    (h : wBuiltin C b ts as σ K KP) : wBuiltin C b ts as σ K' KP' := by
  unfold wBuiltin at h ⊢
  split at h
  · split at h
    · exact ⟨h.1, wLen_mono (fun q => hK q σ) h.2⟩
    · exact h.elim
  · split at h
    · exact hK _ _ h
    · exact h.elim
  · split at h
    · exact hK _ _ h
    · exact h.elim
  · split at h
    · exact hP _ _ h
    · exact h.elim
  · split at h
    · exact wAppend_mono hK h
    · exact h.elim
  · exact h
theorem wBuiltin_kE {b : Builtin} {ts : Array TypeId} {as : List PVal} (h : wBuiltin C b ts as ⟨e, o, l, d⟩ K KP) : wBuiltin C b ts as ⟨e', o, l, d⟩ (kE K e e' d) (kE KP e e' d) := by
  unfold wBuiltin at h ⊢
  split at h
  · split at h
    · exact ⟨h.1, wLen_mono (fun q hq => ⟨rfl, rfl, hq⟩) h.2⟩
    · exact h.elim
  · split at h
    · exact ⟨rfl, rfl, h⟩
    · exact h.elim
  · split at h
    · exact ⟨rfl, rfl, h⟩
    · exact h.elim
  · split at h
    · exact ⟨rfl, rfl, h⟩
    · exact h.elim
  · split at h
    · exact wAppend_kE h
    · exact h.elim
  · exact h

theorem wConv_mono {s t : TypeId} {p : PVal} {σ σ' : St} {K K' : PVal → St → Prop} (hK : ∀ q, K q σ → K' q σ') (h : wConv C s t p σ K) : wConv C s t p σ' K' := by
  unfold wConv at h ⊢
  split at h
  · split at h
    · exact hK _ h
    · exact h.elim
  · exact ⟨h.1, h.2.1, hK _ h.2.2⟩
  · refine ⟨h.1, h.2.1, ?_⟩
    have h := h.2.2
    split at h
    · exact hK _ h
    · exact h
  · exact h

theorem wMakeSlice_kE {t : TypeId} {p q : PVal} (h : wMakeSlice C t p q ⟨e, o, l, d⟩ K) : wMakeSlice C t p q ⟨e', o, l, d⟩ (kE K e e' d) := by
  unfold wMakeSlice at h ⊢
  split at h
  · split at h
    · split at h
      · exact ⟨h.1, h.2.1, h.2.2.1, h.2.2.2.1, h.2.2.2.2.1, h.2.2.2.2.2.1, rfl, rfl, h.2.2.2.2.2.2⟩
      · exact h
    · exact h
  · exact h
theorem wOp_env {op : Op} (ha : ∀ t, .tmp t ∈ op.operands.toList → gt e t = gt e' t) (h : wOp C op ⟨e, o, l, d⟩ K KP) : wOp C op ⟨e', o, l, d⟩ (kE K e e' d) (kE KP e e' d) := by
  have hk : ∀ q, K q ⟨e, o, l, d⟩ → kE K e e' d q ⟨e', o, l, d⟩ := fun q h => ⟨rfl, rfl, h⟩
  have hp : ∀ q, KP q ⟨e, o, l, d⟩ → kE KP e e' d q ⟨e', o, l, d⟩ := fun q h => ⟨rfl, rfl, h⟩
  have hK : (fun q => kE K e e' d q ⟨e', o, l, d⟩) = fun q => K q ⟨e, o, l, d⟩ := by funext q; simp [kE]
  have hx : ∀ x, x ∈ op.operands.toList → val e' x = val e x := fun x hx => val_agree fun t ht => ha t (ht ▸ hx)
  cases op <;> simp only [wOp] at h <;> simp only [wOp]
  case move x => rw [hx x (by simp [Op.operands])]; exact hk _ h
  case assign x => rw [hx x (by simp [Op.operands])]; exact hk _ h
  case pick c a b =>
    rw [hx c (by simp [Op.operands]), hx a (by simp [Op.operands]), hx b (by simp [Op.operands])]
    split at h
    · exact ⟨fun t => hk _ (h.1 t), fun t => hk _ (h.2 t)⟩
    · exact h.elim
  case alloc t => exact wAlloc_kE h
  case box t x => rw [hx x (by simp [Op.operands])]; exact wBox_kE h
  case build t ps => rw [hK, wBuild_agree (fun t ht => ha t (by simpa [Op.operands] using ht))]; exact h
  case buildSlice t m ps => exact wBuildSlice_kE (fun t ht => ha t (by simpa [Op.operands] using ht)) h
  case load t x => rw [hK, hx x (by simp [Op.operands])]; exact h
  case makeSlice t x y => rw [hx x (by simp [Op.operands]), hx y (by simp [Op.operands])]; exact wMakeSlice_kE h
  case store t x y => rw [hx x (by simp [Op.operands]), hx y (by simp [Op.operands])]; exact wStore_kE h
  case nilCheck x => rw [hK, hx x (by simp [Op.operands])]; exact h
  case binOp bo t x y ty => rw [hK, hx x (by simp [Op.operands]), hx y (by simp [Op.operands])]; exact h
  case unOp bo t x => rw [hK, hx x (by simp [Op.operands])]; exact h
  case convert s t x => rw [hx x (by simp [Op.operands])]; exact wConv_mono hk h
  case makeInterface t x => rw [hK, hx x (by simp [Op.operands])]; exact h
  case makeFunc f a b =>
    rw [valL_agree (e := e) (e' := e') (xs := a.toList) (fun t ht => ha t (by simp [Op.operands]; exact .inl (by simpa using ht))),
      valL_agree (e := e) (e' := e') (xs := b.toList) (fun t ht => ha t (by simp [Op.operands]; exact .inr (by simpa using ht)))]
    exact hk _ h
  case slice t x lo hi mx =>
    have ho : ∀ y : Option Operand, (∀ z, y = some z → z ∈ (Op.slice t x lo hi mx).operands.toList) → y.map (val e') = y.map (val e) := fun y hy => by
      cases y with
      | none => rfl
      | some z => simp only [Option.map_some]; rw [hx z (hy z rfl)]
    rw [hK, hx x (by simp [Op.operands]), ho lo (fun z hz => by subst hz; simp [Op.operands]), ho hi (fun z hz => by subst hz; simp [Op.operands])]
    exact h
  case fieldAddr s x f => rw [hK, hx x (by simp [Op.operands])]; exact h
  case field s x f => rw [hK, hx x (by simp [Op.operands])]; exact h
  case indexAddr t x i => rw [hK, hx x (by simp [Op.operands]), hx i (by simp [Op.operands])]; exact h
  case index t x i => rw [hK, hx x (by simp [Op.operands]), hx i (by simp [Op.operands])]; exact h
  case extract x i => rw [hK, hx x (by simp [Op.operands])]; exact h
  case call c =>
    unfold wCall at h ⊢
    have hargs : c.args.toList.map (val e') = c.args.toList.map (val e) := valL_agree fun t ht => ha t (by
      simp only [Op.operands, Call.operands]
      first | (simp; exact .inr (by simpa using ht)) | (simp; exact .inl (by simpa using ht)) | (split <;> simp_all))
    simp only [hargs]
    dsimp only at h
    split at h
    · exact wBuiltin_kE h
    · rename_i f hc
      have : val e' f = val e f := hx f (by simp [Op.operands, Call.operands, hc])
      simp only [this]
      split at h
      · exact CallW_kE h
      · exact h.elim
    · exact h.elim
  case panic x =>
    rw [hx x (by simp [Op.operands])]
    split at h
    · exact hp _ h
    · exact h.elim
end Go.V
