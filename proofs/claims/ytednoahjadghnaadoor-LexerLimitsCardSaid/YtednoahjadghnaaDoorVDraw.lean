/-
  Regions that draw their order: one walk serves every order.
-/
import Derived.Test.YtednoahjadghnaaDoorVCallee
namespace Go.V
open Go

variable {C : Ctx} {n : Nat}

/-! ### A new block that is nobody's -/
def View.anon (V : View) (k : Obj) : View := { V with w := V.w.alloc k }
theorem View.to_anon {V : View} (hlt : ∀ r b x y, V.loc r = .at b x y → b < V.w.heap.size) (k : Obj) : V.To (V.anon k) where
  size := by simp [View.anon]
  heap b hb _ := heap_alloc_lt hb
  own _ _ h := h
  loc _ _ := .inl rfl
  shape x b base size hl _ ty n hs := by
    show (V.w.alloc k).shape? b = _
    rw [shape?_of_heap (heap_alloc_lt (hlt x b _ _ hl))]; exact hs
theorem View.later_anon {V : View} (hlt : ∀ r b x y, V.loc r = .at b x y → b < V.w.heap.size) (k : Obj) : Later V (V.anon k) where
  size := by simp [View.anon]
  heap b hb _ := heap_alloc_lt hb
  own _ _ h := h
  kept _ _ h _ := h
  locs r _ x y _ h := ⟨r, x, y, h⟩
  loc n hn := (View.to_anon hlt k).loc _ hn
  shape n := (View.to_anon hlt k).shape _
  os := rfl
  tape := rfl
  output := rfl
theorem MemRel.anon {V : View} {B : Ref → Option Blk} (h : MemRel C V B) (k : Obj) : MemRel C (V.anon k) B where
  blk r b hb := (h.blk r b hb).mono (View.to_anon h.locLt k) rfl fun _ _ _ hl => heap_alloc_lt (h.locLt _ _ _ _ hl)
  out := h.out
  inj := h.inj
  own := h.own
  lt b hb := by have := h.lt b hb; simp [View.anon]; omega
  glob g cs hg := by
    obtain ⟨h1, hb, h2⟩ := h.glob g cs hg
    have hTo := View.to_anon h.locLt k
    refine ⟨h1, Nat.lt_of_lt_of_le hb hTo.size, fun j c hc => ?_⟩
    obtain ⟨v, hv, h3, h4⟩ := h2 j c hc
    exact ⟨v, by rw [cell?_of_heap (hTo.heap g hb h1)]; exact hv, h3, h4.mono hTo.bare⟩
theorem Went.anon {V : View} {σ : St} (hM : MemRel C V (blkAt σ.o σ.l)) (k : Obj) : Went C V σ (V.anon k) σ := ⟨View.to_anon hM.locLt k, View.later_anon hM.locLt k, hM.anon k, rfl, rfl⟩

/-- A slice literal whose row nobody writes any more. -/
def wBuildSliceZ (C : Ctx) (t len : Nat) (parts : Array (Nat × Operand)) (σ : St) (K : PVal → Prop) : Prop :=
  match slq C.P t, dense 0 parts.toList with
  | some (_, n, _), some xs => xs.length = len ∧ len * n ≤ 16777216 ∧ 0 < n ∧ okCells n (xs.map (val σ.e)) ∧ K (.slc (xs.map (val σ.e)))
  | _, _ => False
/-- The cells of values side by side, in a row that nobody writes. -/
theorem anon_flat {V : View} {σ : St} (hM : MemRel C V (blkAt σ.o σ.l)) (ty n : Nat) (hn : 0 < n) (ps : List PVal) (vs : List Value) (hl : vs.length = ps.length)
    (hs : ∀ p ∈ ps, p.solid = true ∧ p.cells.length = n) (hr : ∀ (j : Nat) (p : PVal), ps[j]? = some p → Rep V p (vs.getD j undef)) :
    Rep (V.anon (.cells (vs.flatMap fun v => v.cells.toList).toArray ty)) (.slc ps) (.slice (some ⟨V.w.heap.size, 0, none⟩) ps.length ps.length) := by
  obtain ⟨hv', hW⟩ := push_flat hM ty n hn ps vs hl hs hr
  have hv : ∀ j (hj : j < vs.length), (∀ i, i < n → (vs[j].cells.getD i undef).oneCell' = true) ∧ ∀ (i : Nat) (c : PVal), (ps[j]'(by omega)).cells[i]? = some c → Rep V c (vs[j].cells.getD i undef) := fun j hj => by
    have hp := hs (ps[j]'(by omega)) (List.getElem_mem _)
    have h1 := hr j _ (List.getElem?_eq_getElem (by omega))
    have e : vs.getD j undef = vs[j] := by simp [List.getD_eq_getElem?_getD, hj]
    rw [e] at h1
    obtain ⟨a, b, c⟩ := rep_cells' h1 hp.1
    rw [hp.2] at b
    exact ⟨b, c⟩
  have hlen : (vs.flatMap fun v => v.cells.toList).length = vs.length * n := length_flat hv'
  refine .slc n (fun m => (vs.flatMap fun v => v.cells.toList).toArray.getD m undef) (fun h => absurd (hM.lt _ h) (Nat.lt_irrefl _)) (by simp [View.anon]) (Nat.le_refl _) (fun m hm => ?_) (fun i x hx => (hs x (List.mem_of_getElem? hx)).2) (fun i x j c hx hc => ?_)
  · have hlt : m < (vs.flatMap fun v => v.cells.toList).toArray.size := by simp only [List.size_toArray, hlen, hl]; exact hm
    refine ⟨?_, ?_⟩
    · have hh : (V.anon (.cells (vs.flatMap fun v => v.cells.toList).toArray ty)).w.heap[V.w.heap.size]? = some (.cells (vs.flatMap fun v => v.cells.toList).toArray ty) := heap_alloc_new
      unfold World.cell?
      simp only [hh, Nat.zero_add]
      rw [Array.getD_eq_getD_getElem?, Array.getElem?_eq_getElem hlt]
      rfl
    · have e : m = m / n * n + m % n := by rw [Nat.mul_comm]; exact (Nat.div_add_mod m n).symm
      simp only [List.size_toArray, hlen] at hlt
      have hd : m / n < vs.length := (Nat.div_lt_iff_lt_mul hn).2 hlt
      rw [e, getD_flat hn hv' (Nat.mod_lt _ hn), List.getElem?_eq_getElem hd]
      exact (hv _ hd).1 _ (Nat.mod_lt _ hn)
  · have hi : i < ps.length := (List.getElem?_eq_some_iff.1 hx).1
    have hx' : ps[i] = x := (List.getElem?_eq_some_iff.1 hx).2
    have hj : j < n := by rw [← (hs x (List.mem_of_getElem? hx)).2]; exact (List.getElem?_eq_some_iff.1 hc).1
    show Rep _ c ((vs.flatMap fun v => v.cells.toList).toArray.getD (i * n + j) undef)
    rw [getD_flat hn hv' hj, List.getElem?_eq_getElem (by omega)]
    exact ((hv i (by omega)).2 j c (by rw [hx']; exact hc)).mono (View.to_anon hM.locLt _)

theorem wBuildSliceZ_sound {V : View} {σ : St} {a : Act} (hR : Rel C n V σ a) {t len : Nat} {parts : Array (Nat × Operand)} {K : PVal → Prop} (h : wBuildSliceZ C t len parts σ K) :
    ∃ V' q u, (Instr.buildSlice t len (parts.map fun (i, x) => (i, a.eval x))).run C.P V.w = .ok u V'.w ∧ Went C V σ V' σ ∧ Rep V' q u ∧ K q := by
  unfold wBuildSliceZ at h
  split at h
  · rename_i e m _ xs hq hd
    obtain ⟨hlen, hsmall, hpos, hok, hK⟩ := h
    obtain ⟨i, z, hu, hi, hz, hsz, _⟩ := slq_spec hq
    have hparts := dense_spec _ _ _ hd
    have hrr : ∀ (j : Nat) (p : PVal), (xs.map (val σ.e))[j]? = some p → Rep V p ((xs.map a.eval).getD j undef) := fun j p hp => by
      simp only [List.getElem?_map, Option.map_eq_some_iff] at hp
      obtain ⟨x, hx, rfl⟩ := hp
      have : (xs.map a.eval).getD j undef = a.eval x := by simp [List.getD_eq_getElem?_getD, hx]
      rw [this]; exact val_rep hR x
    obtain ⟨hv, _⟩ := push_flat hR.mem e m hpos (xs.map (val σ.e)) (xs.map a.eval) (by simp) (okCells_spec hok) hrr
    have hrep := anon_flat hR.mem e m hpos (xs.map (val σ.e)) (xs.map a.eval) (by simp) (okCells_spec hok) hrr
    have hflat : (List.flatMap (fun v => v.cells.toList) (xs.map a.eval)).length = len * m := by rw [length_flat hv, List.length_map, hlen]
    rw [List.length_map, hlen] at hrep
    refine ⟨_, _, .slice (some ⟨V.w.heap.size, 0, none⟩) len len, ?_, Went.anon hR.mem _, hrep, hK⟩
    have hp2 : (parts.map fun (i, x) => (i, a.eval x)).toList = ((xs.map a.eval).zipIdx 0).map fun x => (x.2, x.1) := by
      rw [Array.toList_map, hparts, List.map_map, List.zipIdx_map, List.map_map]
      rfl
    by_cases h0 : len * m = 0
    · have hl0 : len = 0 := by rcases Nat.mul_eq_zero.1 h0 with h | h; exact h; omega
      have hx0 : xs = [] := List.length_eq_zero_iff.1 (by omega)
      subst hx0
      have hp0 : parts = #[] := by
        apply Array.toList_inj.1
        rw [hparts]; rfl
      subst hp0
      simp [Instr.buildSlice, run_underlying hu, sizeOf, typeInfo, hi, hl0, fill_nil, newRow, View.anon]
      congr 2
      apply Array.ext_getElem?
      intro j
      simp
    · rw [Go.run_buildSlice V.w t e len _ (List.flatMap (fun v => v.cells.toList) (xs.map a.eval)).toArray i z hu hi hz (by rw [hsz]; omega) (by rw [hsz]; exact h0) ?_]
      · rfl
      · rw [hsz, hp2]
        exact Great.fill_whole hpos _ _ hv (by simp [hlen])
  · exact h.elim

/-- A variable of its own that nobody writes any more. -/
def wBoxZ (e : TypeId) (p : PVal) (K : PVal → Prop) : Prop := p.solid = true ∧ K (.eptr p 0)
theorem wBoxZ_sound {V : View} {σ : St} (hM : MemRel C V (blkAt σ.o σ.l)) {e : TypeId} {p : PVal} {v : Value} (hp : Rep V p v) {K : PVal → Prop} (h : wBoxZ e p K) :
    ∃ V' q u, (Instr.box e v).run C.P V.w = .ok u V'.w ∧ Went C V σ V' σ ∧ Rep V' q u ∧ K q := by
  obtain ⟨hs, hK⟩ := h
  obtain ⟨c1, c2, c3⟩ := rep_cells' hp hs
  refine ⟨V.anon (.cells v.cells e), _, .pointer (some ⟨V.w.heap.size, 0, none⟩), ?_, Went.anon hM _, ?_, hK⟩
  · simp [Instr.box, newVar, newRow, View.anon]
  · refine .eptr (o := 0) (fun m => v.cells.getD m undef) (fun h => absurd (hM.lt _ h) (Nat.lt_irrefl _)) (by simp [View.anon]) (fun m hm => ⟨?_, c2 m hm⟩) (fun j c hc => (c3 j c hc).mono (View.to_anon hM.locLt _))
    have hh : (V.anon (.cells v.cells e)).w.heap[V.w.heap.size]? = some (.cells v.cells e) := heap_alloc_new
    have hlt : m < v.cells.size := by omega
    unfold World.cell?
    simp only [hh, Nat.zero_add]
    rw [Array.getD_eq_getD_getElem?, Array.getElem?_eq_getElem hlt]
    rfl
end Go.V
