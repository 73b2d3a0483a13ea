/-
  A call, by what the called function means.
-/
import Derived.Test.YtednoahjadghnaaDoorVCall
namespace Go.V
open Go

variable {C : Ctx} {n : Nat}

/-- To the callee, handed block number j is the caller's ρ[j]. -/
def fCall (ρ : List Ref) (len : Nat) : Ref → Ref
  | .o j => ρ.getD j (.l len)
  | .l _ => .l len
/-- To the caller, the callee's block number j. -/
def gCall (ρ : List Ref) (len : Nat) : Ref → Ref
  | .o j => if j < ρ.length then ρ.getD j (.l len) else .l (len + (j - ρ.length))
  | .l j => .l (len + (j + 1000000))

def setAll (σ : St) : List Ref → List Blk → St
  | r :: ρ, k :: ks => setAll (setBlk σ r k) ρ ks
  | [], ks => { σ with l := σ.l ++ ks }
  | _ :: _, [] => σ

theorem setAll_ed : ∀ (ρ : List Ref) (ks : List Blk) (σ : St), (setAll σ ρ ks).e = σ.e ∧ (setAll σ ρ ks).d = σ.d
  | [], ks, σ => by cases ks <;> exact ⟨rfl, rfl⟩
  | r :: ρ, [], σ => ⟨rfl, rfl⟩
  | r :: ρ, k :: ks, σ => by
    obtain ⟨h1, h2⟩ := setAll_ed ρ ks (setBlk σ r k)
    exact ⟨h1.trans (setBlk_e _ _ _), h2.trans (setBlk_d _ _ _)⟩

theorem setBlk_len (σ : St) (r : Ref) (k : Blk) : (setBlk σ r k).l.length = σ.l.length ∧ (setBlk σ r k).o.length = σ.o.length := by cases r <;> simp [setBlk]

theorem blkAt_setAll : ∀ (ρ : List Ref) (ks : List Blk) (σ : St), ρ.Nodup → (∀ r ∈ ρ, (blkAt σ.o σ.l r).isSome = true) → ρ.length ≤ ks.length →
    (∀ (j : Nat) (r : Ref), ρ[j]? = some r → blkAt (setAll σ ρ ks).o (setAll σ ρ ks).l r = ks[j]?) ∧
    (∀ r, r ∉ ρ → (∀ m, r = .l m → m < σ.l.length) → blkAt (setAll σ ρ ks).o (setAll σ ρ ks).l r = blkAt σ.o σ.l r) ∧
    (∀ q, blkAt (setAll σ ρ ks).o (setAll σ ρ ks).l (.l (σ.l.length + q)) = ks[ρ.length + q]?)
  | [], ks, σ, _, _, _ => by
    have e : setAll σ [] ks = { σ with l := σ.l ++ ks } := by cases ks <;> rfl
    rw [e]
    refine ⟨fun j r hr => by simp at hr, fun r _ hr => ?_, fun q => ?_⟩
    · cases r with
      | o j => rfl
      | l m => simp only [blkAt]; rw [List.getElem?_append_left (hr m rfl)]
    · simp only [blkAt]; rw [List.getElem?_append_right (by omega)]; simp
  | r :: ρ, [], σ, _, _, hl => by simp at hl
  | r :: ρ, k :: ks, σ, hnd, hs, hl => by
    have hr := hs r List.mem_cons_self
    obtain ⟨k0, hk0⟩ := Option.isSome_iff_exists.1 hr
    have hb := blkAt_setBlk (σ := σ) (k := k) hk0
    rw [List.nodup_cons] at hnd
    obtain ⟨h1, h2, h3⟩ := blkAt_setAll ρ ks (setBlk σ r k) hnd.2 (fun x hx => by
      have hne : x ≠ r := fun e => by subst e; exact hnd.1 hx
      rw [hb, upd_ne hne]; exact hs x (List.mem_cons_of_mem _ hx)) (by simpa using hl)
    have hlen := setBlk_len σ r k
    refine ⟨fun j x hx => ?_, fun x hx hx' => ?_, fun q => ?_⟩
    · cases j with
      | zero =>
        simp at hx; subst hx
        show blkAt (setAll (setBlk σ r k) ρ ks).o (setAll (setBlk σ r k) ρ ks).l r = _
        rw [h2 r hnd.1 (fun m hm => by
          rw [hlen.1]; subst hm
          simp only [blkAt] at hk0
          exact (List.getElem?_eq_some_iff.1 hk0).1), hb, upd_same]
        rfl
      | succ j => simp at hx; exact h1 j x hx
    · show blkAt (setAll (setBlk σ r k) ρ ks).o (setAll (setBlk σ r k) ρ ks).l x = _
      rw [h2 x (fun h => hx (List.mem_cons_of_mem _ h)) (fun m hm => by rw [hlen.1]; exact hx' m hm), hb, upd_ne (fun e => hx (by subst e; exact List.mem_cons_self))]
    · have := h3 q
      rw [hlen.1] at this
      show blkAt (setAll (setBlk σ r k) ρ ks).o (setAll (setBlk σ r k) ρ ks).l _ = _
      rw [this]
      simp only [List.length_cons]
      rw [show ρ.length + 1 + q = (ρ.length + q) + 1 by omega, List.getElem?_cons_succ]

/-- A CALL BY THE FUNCTION's MEANING: the blocks ρ are handed over. -/
theorem CallW.of {g : FuncId} {args : List PVal} {σ : St} {K KP : PVal → St → Prop} {args' : List PVal} {st : List Blk} {R : PRes → List Blk → Prop} (spec : FSem C g args' st R) (ρ : List Ref) (hnd : ρ.Nodup)
    (hargs : args = renL (fCall ρ σ.l.length) args') (hlen : ρ.length = st.length) (hst : ∀ (j : Nat) (r : Ref) (k : Blk), ρ[j]? = some r → st[j]? = some k → blkAt σ.o σ.l r = some (renB (fCall ρ σ.l.length) k))
    (hK : ∀ r st', R r st' → match r with
      | .ret p => K (ren (gCall ρ σ.l.length) p) (setAll σ ρ (st'.map (renB (gCall ρ σ.l.length))))
      | .pan p => KP (ren (gCall ρ σ.l.length) p) (setAll σ ρ (st'.map (renB (gCall ρ σ.l.length))))) : CallW C g args σ K KP := by
  refine ⟨spec.1, fun V vs hM hvs => ?_⟩
  have hout : V.loc (.l σ.l.length) = .out := hM.out _ (blkAt_fresh σ)
  have hsome : ∀ r ∈ ρ, (blkAt σ.o σ.l r).isSome = true := fun r hr => by
    obtain ⟨j, hj, rfl⟩ := List.getElem_of_mem hr
    rw [hst j _ _ (List.getElem?_eq_getElem hj) (List.getElem?_eq_getElem (by omega))]; rfl
  have hnew : ∀ m, σ.l.length ≤ m → Ref.l m ∉ ρ := fun m hm hr => by
    have := hsome _ hr
    simp [blkAt, hm] at this
  have hVc : ∀ j, (V.via (fCall ρ σ.l.length)).loc (.o j) = match ρ[j]? with | some r => V.loc r | none => .out := fun j => by
    simp only [View.via, fCall, List.getD_eq_getElem?_getD]
    cases ρ[j]? with
    | none => exact hout
    | some r => rfl
  have hMc : MemRel C (V.via (fCall ρ σ.l.length)) (blkAt st []) := by
    refine ⟨fun r k hk => ?_, fun r hk => ?_, fun r r' b x y x' y' h1 h2 => ?_, fun r b x y h1 => hM.own _ b x y h1, hM.lt, hM.glob⟩
    · cases r with
      | l j => simp [blkAt] at hk
      | o j =>
        simp only [blkAt] at hk
        have hj : j < ρ.length := by rw [hlen]; exact (List.getElem?_eq_some_iff.1 hk).1
        have e : fCall ρ σ.l.length (.o j) = ρ[j] := by simp [fCall, List.getD_eq_getElem?_getD, hj]
        refine BlkRep.via ?_
        rw [e]
        exact hM.blk _ _ (hst j _ k (List.getElem?_eq_getElem hj) hk)
    · cases r with
      | l j => exact hout
      | o j =>
        simp only [blkAt] at hk
        rw [hVc]
        have : ρ[j]? = none := by simp at hk ⊢; omega
        rw [this]
    · have e := hM.inj _ _ b x y x' y' h1 h2
      cases r with
      | l j => simp only [View.via, fCall] at h1; rw [hout] at h1; cases h1
      | o j =>
        cases r' with
        | l j => simp only [View.via, fCall] at h2; rw [hout] at h2; cases h2
        | o j' =>
          rw [hVc] at h1 h2
          cases h1' : ρ[j]? with
          | none => rw [h1'] at h1; cases h1
          | some u =>
            cases h2' : ρ[j']? with
            | none => rw [h2'] at h2; cases h2
            | some u' =>
              simp only [fCall, List.getD_eq_getElem?_getD, h1', h2', Option.getD_some] at e
              subst e
              have := (List.getElem?_inj (List.getElem?_eq_some_iff.1 h1').1 hnd).1 (h1'.trans h2'.symm)
              rw [this]
  have hvs' : ListRep (V.via (fCall ρ σ.l.length)) args' vs := by
    rw [hargs, renL_map] at hvs
    exact ⟨by simpa using hvs.1, fun j p hp => (hvs.2 j (ren (fCall ρ σ.l.length) p) (by simp [hp])).via p rfl⟩
  refine (spec.2 _ vs hMc hvs').mono fun e w' ⟨Vc', st', r, hw, hTo, hLa, hM', hEnd, hR⟩ => ?_
  subst hw
  -- how many blocks come back
  have hge : ρ.length ≤ st'.length := by
    rcases Nat.lt_or_ge st'.length ρ.length with h | h
    · exfalso
      have h1 : (V.via (fCall ρ σ.l.length)).loc (.o st'.length) ≠ .out := by
        rw [hVc, List.getElem?_eq_getElem h]
        intro h'
        replace h' : V.loc ρ[st'.length] = .out := h'
        have := hsome _ (List.getElem_mem h)
        obtain ⟨k, hk⟩ := Option.isSome_iff_exists.1 this
        have hb := hM.blk _ _ hk
        cases k with
        | dead => rw [show V.loc ρ[st'.length] = .dead from hb] at h'; cases h'
        | row => rcases hb with ⟨h1, _⟩ | ⟨_, _, _, _, h1, _⟩ <;> rw [h1] at h' <;> cases h'
        | mp => obtain ⟨_, _, _, h1, _⟩ := hb; rw [h1] at h'; cases h'
        | iter => obtain ⟨_, h1, _⟩ := hb; rw [h1] at h'; cases h'
      have h2 := hM'.out (.o st'.length) (by simp [blkAt])
      rcases hTo.loc _ h1 with h3 | h3
      · exact h1 (h3.symm.trans h2)
      · rw [h2] at h3; cases h3
    · exact h
  let L : Ref → Loc := fun r => if r ∈ ρ then Vc'.loc (.o (ρ.idxOf r)) else match r with
    | .l m => if σ.l.length ≤ m then Vc'.loc (.o (ρ.length + (m - σ.l.length))) else V.loc r
    | .o _ => V.loc r
  let V' : View := { w := Vc'.w, own := Vc'.own, loc := L }
  have hidx : ∀ (j : Nat) (hj : j < ρ.length), ρ.idxOf ρ[j] = j := fun j hj => List.Nodup.idxOf_getElem hnd j hj
  have Lin : ∀ (j : Nat) (hj : j < ρ.length), L ρ[j] = Vc'.loc (.o j) := fun j hj => by
    simp only [L, if_pos (List.getElem_mem hj), hidx j hj]
  have Lnew : ∀ q, L (.l (σ.l.length + q)) = Vc'.loc (.o (ρ.length + q)) := fun q => by
    simp only [L, if_neg (hnew _ (Nat.le_add_right _ q)), if_pos (Nat.le_add_right _ q), Nat.add_sub_cancel_left]
  have Lold : ∀ r, r ∉ ρ → (∀ m, r = .l m → m < σ.l.length) → L r = V.loc r := fun r hr hm => by
    simp only [L, if_neg hr]
    cases r with
    | o j => rfl
    | l m => have := hm m rfl; simp only; rw [if_neg (by omega)]
  have Lg : ∀ r, Vc'.loc r ≠ .out → V'.loc (gCall ρ σ.l.length r) = Vc'.loc r := fun r hr => by
    cases r with
    | l j => exact absurd (hM'.out (.l j) (by simp [blkAt])) hr
    | o j =>
      simp only [V', gCall]
      by_cases hj : j < ρ.length
      · rw [if_pos hj]
        have : ρ.getD j (.l σ.l.length) = ρ[j] := by simp [List.getD_eq_getElem?_getD, hj]
        rw [this]; exact Lin j hj
      · rw [if_neg hj, Lnew, show ρ.length + (j - ρ.length) = j by omega]
  have hTo' : V.To V' := by
    refine ⟨hTo.size, hTo.heap, hTo.own, fun x hx => ?_, fun x b base size hl he ty m hs => ?_⟩
    · by_cases hxr : x ∈ ρ
      · obtain ⟨j, hj, rfl⟩ := List.getElem_of_mem hxr
        have e1 : (V.via (fCall ρ σ.l.length)).loc (.o j) = V.loc ρ[j] := by rw [hVc, List.getElem?_eq_getElem hj]
        have := hTo.loc (.o j) (by rw [e1]; exact hx)
        rw [e1] at this
        simp only [V']; rw [Lin j hj]; exact this
      · refine .inl (Lold x hxr fun m hm => ?_)
        rcases Nat.lt_or_ge m σ.l.length with h | h
        · exact h
        · exact absurd (hM.out x (by subst hm; simp [blkAt, h])) hx
    · by_cases hxr : x ∈ ρ
      · obtain ⟨j, hj, rfl⟩ := List.getElem_of_mem hxr
        have e1 : (V.via (fCall ρ σ.l.length)).loc (.o j) = V.loc ρ[j] := by rw [hVc, List.getElem?_eq_getElem hj]
        exact hTo.shape (.o j) b base size (by rw [e1]; exact hl) (by rw [e1, ← Lin j hj]; exact he) ty m hs
      · have hb : b < V.w.heap.size := hM.lt b (hM.own x b _ _ hl)
        have := hLa.heap b hb fun r' x' y' h' => by
          cases r' with
          | l j => simp only [View.via, fCall] at h'; rw [hout] at h'; cases h'
          | o j =>
            rw [hVc] at h'
            cases hj : ρ[j]? with
            | none => rw [hj] at h'; cases h'
            | some u =>
              rw [hj] at h'
              have := hM.inj _ _ _ _ _ _ _ hl h'
              exact hxr (this ▸ List.mem_of_getElem? hj)
        rw [shape?_of_heap this]; exact hs
  have hnoVc : ∀ b, (∀ r x y, V.loc r ≠ .at b x y) → ∀ r x y, (V.via (fCall ρ σ.l.length)).loc r ≠ .at b x y := fun b h r x y hr => h _ x y hr
  have hLa' : Later V V' := by
    refine ⟨hTo.size, fun b hb h => hLa.heap b hb (hnoVc b h), hTo.own, fun b hb ho h => hLa.kept b hb ho (hnoVc b h), fun r b x y hb hr => ?_, fun j hj => hTo'.loc _ hj, fun j => hTo'.shape _, hLa.os, hLa.tape, hLa.output⟩
    have old : ∀ z, Vc'.loc z = .at b x y → ∃ r' x' y', V.loc r' = .at b x' y' := fun z hz => by
      obtain ⟨r', x', y', h'⟩ := hLa.locs z b x y hb hz
      exact ⟨_, x', y', h'⟩
    simp only [V', L] at hr
    split at hr
    · exact old _ hr
    · split at hr
      · split at hr
        · exact old _ hr
        · exact ⟨_, _, _, hr⟩
      · exact ⟨_, _, _, hr⟩
  obtain ⟨s1, s2, s3⟩ := blkAt_setAll ρ (st'.map (renB (gCall ρ σ.l.length))) σ hnd hsome (by simpa using hge)
  -- the names are of three kinds
  have kinds : ∀ r, (∃ j, ∃ hj : j < ρ.length, r = ρ[j]) ∨ (∃ q, r = .l (σ.l.length + q)) ∨ (r ∉ ρ ∧ ∀ m, r = .l m → m < σ.l.length) := fun r => by
    by_cases hr : r ∈ ρ
    · obtain ⟨j, hj, rfl⟩ := List.getElem_of_mem hr; exact .inl ⟨j, hj, rfl⟩
    · cases r with
      | o j => exact .inr (.inr ⟨hr, fun m hm => by cases hm⟩)
      | l m =>
        rcases Nat.lt_or_ge m σ.l.length with h | h
        · exact .inr (.inr ⟨hr, fun m' hm => by cases hm; exact h⟩)
        · exact .inr (.inl ⟨m - σ.l.length, by rw [Nat.add_sub_cancel' h]⟩)
  have gin : ∀ (j : Nat) (hj : j < ρ.length), gCall ρ σ.l.length (.o j) = ρ[j] := fun j hj => by
    simp [gCall, hj, List.getD_eq_getElem?_getD]
  have gnew : ∀ q, gCall ρ σ.l.length (.o (ρ.length + q)) = .l (σ.l.length + q) := fun q => by
    simp only [gCall]
    rw [if_neg (by omega), Nat.add_sub_cancel_left]
  have hMM : MemRel C V' (blkAt (setAll σ ρ (st'.map (renB (gCall ρ σ.l.length)))).o (setAll σ ρ (st'.map (renB (gCall ρ σ.l.length)))).l) := by
    refine ⟨fun r k hk => ?_, fun r hk => ?_, fun r r' b x y x' y' h1 h2 => ?_, fun r b x y h1 => ?_, hM'.lt, hM'.glob⟩
    · rcases kinds r with ⟨j, hj, rfl⟩ | ⟨q, rfl⟩ | ⟨hr, hm⟩
      · rw [s1 j _ (List.getElem?_eq_getElem hj)] at hk
        simp only [List.getElem?_map, Option.map_eq_some_iff] at hk
        obtain ⟨k', hk', rfl⟩ := hk
        rw [← gin j hj]
        exact BlkRep.of_via (V := V') (V' := Vc') rfl (fun _ h => h) Lg (hM'.blk (.o j) k' hk')
      · rw [s3 q] at hk
        simp only [List.getElem?_map, Option.map_eq_some_iff] at hk
        obtain ⟨k', hk', rfl⟩ := hk
        rw [← gnew q]
        exact BlkRep.of_via (V := V') (V' := Vc') rfl (fun _ h => h) Lg (hM'.blk (.o (ρ.length + q)) k' hk')
      · rw [s2 r hr hm] at hk
        refine (hM.blk r k hk).mono hTo' (Lold r hr hm) fun b x y hl => ?_
        refine hLa.heap b (hM.lt b (hM.own r b x y hl)) fun r' x' y' h' => ?_
        cases r' with
        | l j => simp only [View.via, fCall] at h'; rw [hout] at h'; cases h'
        | o j =>
          rw [hVc] at h'
          cases hj : ρ[j]? with
          | none => rw [hj] at h'; cases h'
          | some u =>
            rw [hj] at h'
            have := hM.inj _ _ _ _ _ _ _ hl h'
            exact hr (this ▸ List.mem_of_getElem? hj)
    · rcases kinds r with ⟨j, hj, rfl⟩ | ⟨q, rfl⟩ | ⟨hr, hm⟩
      · rw [s1 j _ (List.getElem?_eq_getElem hj)] at hk
        exfalso
        rw [List.getElem?_eq_getElem (by simp; omega)] at hk
        cases hk
      · rw [s3 q] at hk
        show L _ = _
        rw [Lnew]
        exact hM'.out _ (by simpa [blkAt] using hk)
      · rw [s2 r hr hm] at hk
        show L _ = _
        rw [Lold r hr hm]; exact hM.out r hk
    · -- no two names for one block
      have cross : ∀ z r2 b x y x' y', Vc'.loc z = .at b x y → r2 ∉ ρ → V.loc r2 = .at b x' y' → False := fun z r2 b x y x' y' hz hr2 h2 => by
        have hb : b < V.w.heap.size := hM.lt b (hM.own r2 b _ _ h2)
        obtain ⟨r3, x3, y3, h3⟩ := hLa.locs z b x y hb hz
        cases r3 with
        | l j => simp only [View.via, fCall] at h3; rw [hout] at h3; cases h3
        | o j =>
          rw [hVc] at h3
          cases hj : ρ[j]? with
          | none => rw [hj] at h3; cases h3
          | some u =>
            rw [hj] at h3
            have := hM.inj _ _ _ _ _ _ _ h2 h3
            exact hr2 (this ▸ List.mem_of_getElem? hj)
      rcases kinds r with ⟨j, hj, rfl⟩ | ⟨q, rfl⟩ | ⟨hr, hm⟩
      · have h1' : Vc'.loc (.o j) = .at b x y := by rw [← Lin j hj]; exact h1
        rcases kinds r' with ⟨j', hj', rfl⟩ | ⟨q', rfl⟩ | ⟨hr', hm'⟩
        · have h2' : Vc'.loc (.o j') = .at b x' y' := by rw [← Lin j' hj']; exact h2
          have := hM'.inj _ _ _ _ _ _ _ h1' h2'
          cases this; rfl
        · have h2' : Vc'.loc (.o (ρ.length + q')) = .at b x' y' := by rw [← Lnew q']; exact h2
          have := hM'.inj _ _ _ _ _ _ _ h1' h2'
          simp only [Ref.o.injEq] at this
          omega
        · exact (cross _ r' b x y x' y' h1' hr' (by rw [← Lold r' hr' hm']; exact h2)).elim
      · have h1' : Vc'.loc (.o (ρ.length + q)) = .at b x y := by rw [← Lnew q]; exact h1
        rcases kinds r' with ⟨j', hj', rfl⟩ | ⟨q', rfl⟩ | ⟨hr', hm'⟩
        · have h2' : Vc'.loc (.o j') = .at b x' y' := by rw [← Lin j' hj']; exact h2
          have := hM'.inj _ _ _ _ _ _ _ h1' h2'
          simp only [Ref.o.injEq] at this
          omega
        · have h2' : Vc'.loc (.o (ρ.length + q')) = .at b x' y' := by rw [← Lnew q']; exact h2
          have := hM'.inj _ _ _ _ _ _ _ h1' h2'
          simp only [Ref.o.injEq] at this
          rw [show q = q' by omega]
        · exact (cross _ r' b x y x' y' h1' hr' (by rw [← Lold r' hr' hm']; exact h2)).elim
      · have h1' : V.loc r = .at b x y := by rw [← Lold r hr hm]; exact h1
        rcases kinds r' with ⟨j', hj', rfl⟩ | ⟨q', rfl⟩ | ⟨hr', hm'⟩
        · exact (cross _ r b x' y' x y (by rw [← Lin j' hj']; exact h2) hr h1').elim
        · exact (cross _ r b x' y' x y (by rw [← Lnew q']; exact h2) hr h1').elim
        · exact hM.inj _ _ _ _ _ _ _ h1' (by rw [← Lold r' hr' hm']; exact h2)
    · rcases kinds r with ⟨j, hj, rfl⟩ | ⟨q, rfl⟩ | ⟨hr, hm⟩
      · exact hM'.own (.o j) b x y (by rw [← Lin j hj]; exact h1)
      · exact hM'.own (.o (ρ.length + q)) b x y (by rw [← Lnew q]; exact h1)
      · have h1' : V.loc r = .at b x y := by rw [← Lold r hr hm]; exact h1
        refine hLa.kept b (hM.lt b (hM.own r b x y h1')) (hM.own r b x y h1') fun r' x' y' h' => ?_
        cases r' with
        | l j => simp only [View.via, fCall] at h'; rw [hout] at h'; cases h'
        | o j =>
          rw [hVc] at h'
          cases hj : ρ[j]? with
          | none => rw [hj] at h'; cases h'
          | some u =>
            rw [hj] at h'
            have := hM.inj _ _ _ _ _ _ _ h1' h'
            exact hr (this ▸ List.mem_of_getElem? hj)
  obtain ⟨ee, ed⟩ := setAll_ed ρ (st'.map (renB (gCall ρ σ.l.length))) σ
  have hKK := hK r st' hR
  cases r with
  | ret p =>
    cases e with
    | returned v => exact ⟨V', _, .ret (ren (gCall ρ σ.l.length) p), rfl, ⟨hTo', hLa', hMM, ee, ed⟩, Rep.of_via (V := V') (V' := Vc') rfl (fun _ h => h) Lg hEnd, hKK⟩
    | panicked => exact hEnd.elim
    | outgrown => exact hEnd.elim
  | pan p =>
    cases e with
    | returned v => exact hEnd.elim
    | panicked chain =>
      obtain ⟨v, rfl, hv⟩ := hEnd
      exact ⟨V', _, .pan (ren (gCall ρ σ.l.length) p), rfl, ⟨hTo', hLa', hMM, ee, ed⟩, ⟨v, rfl, Rep.of_via (V := V') (V' := Vc') rfl (fun _ h => h) Lg hv⟩, hKK⟩
    | outgrown => exact hEnd.elim

/-! ### closed values -/
def ClosedL (ps : List PVal) : Prop := ∀ f, renL f ps = ps
theorem ClosedL.nil : ClosedL [] := fun f => by simp [renL]
theorem ClosedL.cons {p : PVal} {ps : List PVal} (h : Closed p) (k : ClosedL ps) : ClosedL (p :: ps) := fun f => by simp [renL, h f, k f]
theorem Closed.any : Closed .any := fun f => by simp [ren]
theorem Closed.bool (b : Bool) : Closed (.bool b) := fun f => by simp [ren]
theorem Closed.int (k : IntKind) (n : Int) : Closed (.int k n) := fun f => by simp [ren]
theorem Closed.str (s : List UInt8) : Closed (.str s) := fun f => by simp [ren]
theorem Closed.nilp : Closed .nilp := fun f => by simp [ren]
theorem Closed.nils : Closed .nils := fun f => by simp [ren]
theorem Closed.niliface : Closed .niliface := fun f => by simp [ren]
theorem Closed.nilfn : Closed .nilfn := fun f => by simp [ren]
theorem Closed.nilmap : Closed .nilmap := fun f => by simp [ren]
theorem Closed.gptr (g o : Nat) : Closed (.gptr g o) := fun f => by simp [ren]
theorem Closed.agg {cs : List PVal} (h : ClosedL cs) : Closed (.agg cs) := fun f => by simp [ren, h f]
theorem Closed.tuple {cs : List PVal} (h : ClosedL cs) : Closed (.tuple cs) := fun f => by simp [ren, h f]
theorem Closed.slc {cs : List PVal} (h : ClosedL cs) : Closed (.slc cs) := fun f => by simp [ren, h f]
theorem Closed.iface (t : TypeId) {v : PVal} (h : Closed v) : Closed (.iface t v) := fun f => by simp [ren, h f]
theorem Closed.fn (g : Fn) {a b : List PVal} (h : ClosedL a) (k : ClosedL b) : Closed (.fn g a b) := fun f => by simp [ren, h f, k f]
theorem Closed.fmap {a b : List PVal} (h : ClosedL a) (k : ClosedL b) : Closed (.fmap a b) := fun f => by simp [ren, h f, k f]
theorem Closed.eptr {x : PVal} (h : Closed x) (o : Nat) : Closed (.eptr x o) := fun f => by simp [ren, h f]
theorem ClosedL.map {α : Type} {enc : α → PVal} (h : ∀ x, Closed (enc x)) (xs : List α) : ClosedL (xs.map enc) := fun f => by
  induction xs with
  | nil => simp [renL]
  | cons x xs ih => simp [renL, h x f, ih]

/-- A call of a function that takes and hands back closed values, and touches nothing. -/
theorem CallW.pure {g : FuncId} {args : List PVal} {σ : St} {K KP : PVal → St → Prop} {p : PVal} (spec : FSem C g args [] fun r st => r = .ret p ∧ st = []) (ha : ClosedL args) (hp : Closed p) (h : K p σ) : CallW C g args σ K KP :=
  CallW.of spec [] List.nodup_nil (ha _).symm rfl (fun j r k hr => by simp at hr) fun r st' ⟨h1, h2⟩ => by
    subst h1; subst h2
    simp only [List.map_nil, setAll, List.append_nil, hp _]
    exact h
end Go.V
