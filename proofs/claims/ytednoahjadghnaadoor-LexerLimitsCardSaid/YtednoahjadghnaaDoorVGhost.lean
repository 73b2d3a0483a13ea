/-
  Steps of the telling alone: a row is given up (it may be read for ever), a nil slice is told as an empty row; scopes and labels.
-/
import Derived.Test.YtednoahjadghnaaDoorVSimpD
namespace Go.V
open Go

variable {C : Ctx} {n : Nat}

theorem rep_frz {V : View} (hlt : ∀ r b x y, V.loc r = .at b x y → b < V.w.heap.size) {r : Ref} {elems : List PVal} {size : Nat} {ty : TypeId} {off len : Nat} {v : Value} (hB : BlkRep V r (.row elems size ty)) (hp : Rep V (.ref r off len) v) (hle : off + len ≤ elems.length) :
    Rep (V.frz r) (.slc ((elems.drop off).take len)) v := by
  cases hp with
  | refDead hd _ => rcases hB with ⟨h1, _⟩ | ⟨_, _, _, _, h1, _⟩ <;> rw [h1] at hd <;> cases hd
  | refEmpty _ => simp only [List.take_zero]; exact .slcEmpty
  | @ref _ _ _ cap b base size' hl hcap _ =>
    rcases hB with ⟨h1, _⟩ | ⟨b', base', cells, fr, k1, k2, k3, k4, k5, k6, k7⟩
    · rw [h1] at hl; cases hl
    rw [hl] at k1; cases k1
    have hlen : ((elems.drop off).take len).length = len := by simp; omega
    have hm : off * size + len * size ≤ elems.length * size := by rw [← Nat.add_mul]; exact Nat.mul_le_mul_right _ hle
    have hget : ∀ (i : Nat) (x : PVal), ((elems.drop off).take len)[i]? = some x → i < len ∧ elems[off + i]? = some x := fun i x hx => by
      rw [List.getElem?_take] at hx
      split at hx
      · rename_i hi; rw [List.getElem?_drop] at hx; exact ⟨hi, hx⟩
      · cases hx
    have := Rep.slc (V := V.frz r) (xs := (elems.drop off).take len) (b := b) (off := base + off * size) (cap := cap) size (fun m => cells.getD (base + off * size + m) undef) (fun h => h.2 _ _ hl) (hlt _ _ _ _ hl) (by rw [hlen]; exact hcap)
      (fun m hm' => by
        rw [hlen] at hm'
        have hlt' : base + off * size + m < cells.size := by omega
        refine ⟨?_, k5 _ hlt'⟩
        show V.w.cell? ⟨b, base + off * size + m, none⟩ = _
        unfold World.cell?
        simp only [k2]
        rw [Array.getD_eq_getD_getElem?, Array.getElem?_eq_getElem hlt']; rfl)
      (fun i x hx => k6 _ x (hget i x hx).2)
      (fun i x j c hx hc => by
        have h := k7 _ x j c (hget i x hx).2 hc
        rw [show base + off * size + (i * size + j) = base + (off + i) * size + j by rw [Nat.add_mul]; omega]
        exact h.mono (V.to_frz r))
    rw [hlen] at this
    exact this

/-- A row of the function's own, which the temporary t holds, is given up: what t holds may be read for ever. -/
theorem WC.frz {c : Code} {e : Env} {o l : List Blk} {d : List PDef} {Q : AEx → St → Prop} (t k : Nat) {off len : Nat} {elems : List PVal} {size : Nat} {ty : TypeId} (ht : gt e t = .ref (.l k) off len) (hk : l[k]? = some (.row elems size ty)) (hle : off + len ≤ elems.length)
    (h : WC C n c ⟨(t, .slc ((elems.drop off).take len)) :: e, o, l.set k .dead, d⟩ Q) : WC C n c ⟨e, o, l, d⟩ Q := fun V a hR => by
  have hB : blkAt o l (.l k) = some (.row elems size ty) := hk
  have hW : Went C V ⟨e, o, l, d⟩ (V.frz (.l k)) ⟨e, o, l.set k .dead, d⟩ := ⟨V.to_frz _, V.later_frz _, by
    have := blkAt_setBlk (σ := ⟨e, o, l, d⟩) (k := .dead) hB
    show MemRel C _ (blkAt (setBlk ⟨e, o, l, d⟩ (.l k) .dead).o (setBlk ⟨e, o, l, d⟩ (.l k) .dead).l)
    rw [this]; exact hR.mem.frz _, rfl, rfl⟩
  have hR1 := hW.rel hR
  have hR2 : Rel C n (V.frz (.l k)) ⟨(t, .slc ((elems.drop off).take len)) :: e, o, l.set k .dead, d⟩ a := by
    refine ⟨hR1.mem, fun t' => ?_, hR1.tmps, hR1.defers⟩
    show Rep _ (gt ((t, _) :: e) t') _
    rw [gt_cons]
    split
    · rename_i e'
      subst e'
      have h1 := hR.env t
      simp only [ht] at h1
      exact rep_frz hR.mem.locLt (hR.mem.blk _ _ hB) h1 hle
    · exact hR1.env t'
  have h3 : c.wp C.P (Post C n (V.frz (.l k)) Q) a V.w := h (V.frz (.l k)) a hR2
  exact wp_mono h3 fun _ _ _ ⟨V', σ'', x, k1, k2, k3, k4, k5⟩ => ⟨V', σ'', x, k1, hW.later.trans k2, k3, k4, k5⟩

/-- A nil slice, told as an empty row of the function's own. -/
theorem WC.thaw {c : Code} {e : Env} {o l : List Blk} {d : List PDef} {Q : AEx → St → Prop} (t size : Nat) (ty : TypeId) (ht : gt e t = .nils)
    (h : WC C n c ⟨(t, .ref (.l l.length) 0 0) :: e, o, l ++ [.row [] size ty], d⟩ Q) : WC C n c ⟨e, o, l, d⟩ Q := fun V a hR => by
  have hfresh : blkAt o l (.l l.length) = none := by simp [blkAt]
  have hout : V.loc (.l l.length) = .out := hR.mem.out _ hfresh
  let V1 : View := { V with loc := setLoc V.loc (.l l.length) .none }
  have hTo : V.To V1 := ⟨Nat.le_refl _, fun _ _ _ => rfl, fun _ _ h => h, fun r hr => by
    by_cases e' : r = .l l.length
    · subst e'; exact absurd hout hr
    · exact .inl (setLoc_ne e'), fun _ _ _ _ _ _ _ _ h => h⟩
  have hL : Later V V1 := ⟨Nat.le_refl _, fun _ _ _ => rfl, fun _ _ h => h, fun _ _ h _ => h, fun r b x y _ hr => by
    by_cases e' : r = .l l.length
    · subst e'
      have : V1.loc (.l l.length) = .none := setLoc_same _ _ _
      rw [this] at hr; cases hr
    · have : V1.loc r = V.loc r := setLoc_ne e'
      rw [this] at hr; exact ⟨r, x, y, hr⟩, fun m _ => .inl (setLoc_ne (loc := V.loc) (r := .l l.length) (y := .o m) (x := .none) (by simp)), fun _ _ _ _ _ _ _ _ h => h, rfl, rfl, rfl⟩
  have hM : MemRel C V1 (blkAt (pushBlk ⟨e, o, l, d⟩ (.row [] size ty)).o (pushBlk ⟨e, o, l, d⟩ (.row [] size ty)).l) := by
    rw [blkAt_push]
    refine hR.mem.upd1 _ _ hTo (fun x hx => setLoc_ne hx) (fun _ _ _ _ => rfl) ?_ (fun _ _ ho _ => ho) ?_ hR.mem.lt (.inl ⟨setLoc_same _ _ _, rfl⟩)
    · intro b x y hb
      have : V1.loc (.l l.length) = .none := setLoc_same _ _ _
      rw [this] at hb; cases hb
    · intro b x y hb
      have : V1.loc (.l l.length) = .none := setLoc_same _ _ _
      rw [this] at hb; cases hb
  have hW : Went C V ⟨e, o, l, d⟩ V1 (pushBlk ⟨e, o, l, d⟩ (.row [] size ty)) := ⟨hTo, hL, hM, rfl, rfl⟩
  have hR1 := hW.rel hR
  have hR2 : Rel C n V1 ⟨(t, .ref (.l l.length) 0 0) :: e, o, l ++ [.row [] size ty], d⟩ a := by
    refine ⟨hR1.mem, fun t' => ?_, hR1.tmps, hR1.defers⟩
    show Rep _ (gt ((t, _) :: e) t') _
    rw [gt_cons]
    split
    · rename_i e'
      subst e'
      have h1 := hR.env t
      simp only [ht] at h1
      generalize a.tmps.getD t undef = v at h1
      cases h1
      exact .refEmpty (.inl (setLoc_same _ _ _))
    · exact hR1.env t'
  have h3 : c.wp C.P (Post C n V1 Q) a V.w := h V1 a hR2
  exact wp_mono h3 fun _ _ _ ⟨V', σ'', x, k1, k2, k3, k4, k5⟩ => ⟨V', σ'', x, k1, hL.trans k2, k3, k4, k5⟩

theorem WC.label {i : Nat} {σ : St} {Q : AEx → St → Prop} (h : Q .normal σ) : WC C n (.label i) σ Q := fun V _ hR => wp_label ⟨V, σ, .normal, rfl, Later.refl V, hR, trivial, h⟩
theorem WC.ls {i : Nat} {y : Code} {σ : St} {Q : AEx → St → Prop} (h : WC C n y σ Q) : WC C n (.seq (.label i) y) σ Q := WC.seq (WC.label h)
theorem WC.scope {c : Code} {σ : St} {Q : AEx → St → Prop} (h : WC C n c σ Q) : WC C n (.scope c) σ Q := fun V a hR => by
  refine wp_scope_straight (wp_mono (h V a hR) fun e a' w' hq => ?_)
  cases e with
  | goto l =>
    obtain ⟨V', σ', x, h1, h2, h3, h4, h5⟩ := hq
    cases x <;> exact h4.elim
  | normal => exact hq
  | exit id => exact hq
  | ret => exact hq
  | panic ch => exact hq
  | outgrown => exact hq
end Go.V
