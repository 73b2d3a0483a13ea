/-
  append.
-/
import Derived.Test.YtednoahjadghnaaDoorVMore
import Derived.Deep.AppendSrc
import Derived.Laws.MakeOwn
namespace Go.V
open Go

variable {C : Ctx} {V : View} {σ : St}

/-- What the second argument of an append yields. -/
def srcOf (C : Ctx) (tx : TypeId) (q : PVal) (σ : St) : Option (List PVal) :=
  match q with
  | .slc ys => if (slq C.P tx).isSome then some ys else none
  | .nils => if (slq C.P tx).isSome then some [] else none
  | .ref r off len => match blkAt σ.o σ.l r with
    | some (.row elems _ _) => if (slq C.P tx).isSome && decide (off + len ≤ elems.length) then some ((elems.drop off).take len) else none
    | _ => none
  | _ => none

def wAppend (C : Ctx) (t tx : TypeId) (p q : PVal) (σ : St) (K : PVal → St → Prop) : Prop :=
  match slq C.P t, srcOf C tx q σ with
  | some (e, n, by'), some ys => 0 < n ∧ 0 < ys.length ∧ (∀ y ∈ ys, y.cells.length = n) ∧ match p with
    | .nils => ys.length * by' ≤ 140737488355328 ∧ ys.length ≤ 9223372036854775807 ∧ K (.ref (.l σ.l.length) 0 ys.length) (pushBlk σ (.row ys n e))
    | .ref r off len => match blkAt σ.o σ.l r with
      | some (.row elems size ty) => size = n ∧ ty = e ∧ off + len = elems.length ∧ (len + ys.length) * by' ≤ 140737488355328 ∧ len + ys.length ≤ 9223372036854775807 ∧
        K (.ref (.l σ.l.length) 0 (len + ys.length)) (pushBlk (setBlk σ r .dead) (.row (elems.drop off ++ ys) n e))
      | _ => False
    | _ => False
  | _, _ => False

/-- Cells 'news' hold the elements ys side by side. -/
def Holds (V : View) (n : Nat) (ys : List PVal) (news : List Value) : Prop :=
  news.length = ys.length * n ∧ (∀ u ∈ news, u.oneCell' = true) ∧ ∀ (i : Nat) (y : PVal) (j : Nat) (c : PVal), ys[i]? = some y → y.cells[j]? = some c → Rep V c (news.getD (i * n + j) undef)

theorem Holds.nil (V : View) (n : Nat) : Holds V n [] [] := ⟨by simp, fun u hu => (by cases hu), fun j y _ _ hy => (by simp at hy)⟩
theorem Holds.mono {V V' : View} {n : Nat} {ys : List PVal} {news : List Value} (h : Holds V n ys news) (H : V.To V') : Holds V' n ys news := ⟨h.1, h.2.1, fun i y j c hy hc => (h.2.2 i y j c hy hc).mono H⟩
theorem Holds.append {n : Nat} {xs ys : List PVal} {as bs : List Value} (h : Holds V n xs as) (k : Holds V n ys bs) (hx : ∀ x ∈ xs, x.cells.length = n) : Holds V n (xs ++ ys) (as ++ bs) := by
  refine ⟨by rw [List.length_append, h.1, k.1, List.length_append, Nat.add_mul], fun u hu => (List.mem_append.1 hu).elim (h.2.1 u) (k.2.1 u), fun i y j c hy hc => ?_⟩
  rw [List.getD_eq_getElem?_getD]
  rcases Nat.lt_or_ge i xs.length with hi | hi
  · rw [List.getElem?_append_left hi] at hy
    have hj : j < n := by rw [← hx y (List.mem_of_getElem? hy)]; exact (List.getElem?_eq_some_iff.1 hc).1
    have : i * n + n ≤ xs.length * n := by rw [← Nat.succ_mul]; exact Nat.mul_le_mul_right _ hi
    rw [List.getElem?_append_left (by rw [h.1]; omega), ← List.getD_eq_getElem?_getD]
    exact h.2.2 i y j c hy hc
  · rw [List.getElem?_append_right hi] at hy
    have e : i * n = xs.length * n + (i - xs.length) * n := by rw [← Nat.add_mul]; congr 1; omega
    rw [List.getElem?_append_right (by rw [h.1, e]; omega), ← List.getD_eq_getElem?_getD, h.1, show i * n + j - xs.length * n = (i - xs.length) * n + j by rw [e]; omega]
    exact k.2.2 _ y j c hy hc

/-- A part of a row. -/
theorem row_part {elems : List PVal} {size base : Nat} {cells : Array Value} (h4 : base + elems.length * size ≤ cells.size)
    (h5 : ∀ n, n < cells.size → (cells.getD n undef).oneCell' = true) (h6 : ∀ (i : Nat) (x : PVal), elems[i]? = some x → x.cells.length = size)
    (h7 : ∀ (i : Nat) (x : PVal) (j : Nat) (c : PVal), elems[i]? = some x → x.cells[j]? = some c → Rep V c (cells.getD (base + i * size + j) undef)) (off len : Nat) (hle : off + len ≤ elems.length) :
    Holds V size ((elems.drop off).take len) ((cells.toList.drop (base + off * size)).take (len * size)) ∧ ∀ (j : Nat) (u : Value), ((cells.toList.drop (base + off * size)).take (len * size))[j]? = some u → cells[base + off * size + j]? = some u := by
  have hm : off * size + len * size ≤ elems.length * size := by rw [← Nat.add_mul]; exact Nat.mul_le_mul_right _ hle
  have hget : ∀ (j : Nat) (u : Value), ((cells.toList.drop (base + off * size)).take (len * size))[j]? = some u → cells[base + off * size + j]? = some u := fun j u hu => by
    rw [List.getElem?_take] at hu
    split at hu
    · rw [List.getElem?_drop, Array.getElem?_toList] at hu; exact hu
    · cases hu
  refine ⟨⟨?_, fun u hu => ?_, fun i y j c hy hc => ?_⟩, hget⟩
  · rw [List.length_take, List.length_drop, Array.length_toList, List.length_take, List.length_drop, Nat.min_eq_left (by omega), Nat.min_eq_left (by omega)]
  · obtain ⟨j, hj, rfl⟩ := List.getElem_of_mem hu
    have := hget j _ (List.getElem?_eq_getElem hj)
    have hlt := (Array.getElem?_eq_some_iff.1 this).1
    have h := h5 _ hlt
    rw [Array.getD_eq_getD_getElem?, this] at h
    exact h
  · rw [List.getElem?_take] at hy
    split at hy
    · rename_i hi
      rw [List.getElem?_drop] at hy
      have hj : j < size := by rw [← h6 _ y hy]; exact (List.getElem?_eq_some_iff.1 hc).1
      have : i * size + size ≤ len * size := by rw [← Nat.succ_mul]; exact Nat.mul_le_mul_right _ hi
      have h := h7 _ y j c hy hc
      rw [List.getD_eq_getElem?_getD, List.getElem?_take, if_pos (by omega), List.getElem?_drop, Array.getElem?_toList, ← Array.getD_eq_getD_getElem?]
      rw [show base + off * size + (i * size + j) = base + (off + i) * size + j by rw [Nat.add_mul]; omega]
      exact h
    · cases hy

theorem src_rep (hM : MemRel C V (blkAt σ.o σ.l)) {tx : TypeId} {q : PVal} {x : Value} (hq : Rep V q x) {n : Nat} (hn : 0 < n) {ys : List PVal} (hs : srcOf C tx q σ = some ys) (hc : ∀ y ∈ ys, y.cells.length = n) (hpos : 0 < ys.length) :
    ∃ news, Src C.P n tx x ys.length news V.w ∧ Holds V n ys news := by
  have hkind : (slq C.P tx).isSome = true → ∃ e', C.P.underlying tx = some (.slice e') := fun h => by
    obtain ⟨⟨e, m, b⟩, hq⟩ := Option.isSome_iff_exists.1 h
    obtain ⟨_, _, hu, _⟩ := slq_spec hq
    exact ⟨e, hu⟩
  unfold srcOf at hs
  split at hs
  · split at hs
    · rename_i hk
      obtain ⟨e', hu⟩ := hkind hk
      cases hs
      cases hq with
      | slcEmpty => simp at hpos
      | slc size f hown hb hcap hcc hss hx =>
        rename_i b off cap
        have hsz : size = n := by
          have h0 : ys[0]? = some ys[0] := List.getElem?_eq_getElem hpos
          rw [← hss 0 _ h0]; exact hc _ (List.getElem_mem _)
        subst hsz
        have hlen : ((List.range (ys.length * size)).map f).length = ys.length * size := by simp
        refine ⟨(List.range (ys.length * size)).map f, Src.ofSlice V.w hu ⟨b, off, none⟩ ys.length cap _ hlen (fun j u hu => ?_) (fun u hu => ?_), hlen, fun u hu => ?_, fun i y j c hy hcj => ?_⟩
        · rw [List.getElem?_map, Option.map_eq_some_iff] at hu
          obtain ⟨m, hm, rfl⟩ := hu
          have hj : j < ys.length * size := by
            have := (List.getElem?_eq_some_iff.1 hm).1
            simpa using this
          have : m = j := by rw [List.getElem?_range hj] at hm; cases hm; rfl
          subst this
          rw [Addr.add_lit]
          exact (hcc m hj).1
        · obtain ⟨m, hm, rfl⟩ := List.mem_map.1 hu
          exact (hcc m (List.mem_range.1 hm)).2
        · obtain ⟨m, hm, rfl⟩ := List.mem_map.1 hu
          exact (hcc m (List.mem_range.1 hm)).2
        · have hi : i < ys.length := (List.getElem?_eq_some_iff.1 hy).1
          have hj : j < size := by rw [← hss i y hy]; exact (List.getElem?_eq_some_iff.1 hcj).1
          have : i * size + size ≤ ys.length * size := by rw [← Nat.succ_mul]; exact Nat.mul_le_mul_right _ hi
          rw [List.getD_eq_getElem?_getD, List.getElem?_map, List.getElem?_range (by omega)]
          exact hx i y j c hy hcj
    · cases hs
  · split at hs
    · cases hs; simp at hpos
    · cases hs
  · rename_i r off len
    split at hs
    · rename_i elems size ty hB
      split at hs
      · rename_i hk
        simp only [Bool.and_eq_true, decide_eq_true_eq] at hk
        obtain ⟨e', hu⟩ := hkind hk.1
        cases hs
        have hl : ((elems.drop off).take len).length = len := by simp; omega
        rw [hl] at hpos ⊢
        rcases hM.blk _ _ hB with ⟨_, h0⟩ | ⟨b', base', cells, fr, k1, k2, k3, k4, k5, k6, k7⟩
        · subst h0; simp at hk; omega
        have hsz : size = n := by
          have h0 : elems[off]? = some elems[off] := List.getElem?_eq_getElem (by omega)
          rw [← k6 off _ h0]
          refine hc _ (List.mem_of_getElem? (i := 0) ?_)
          rw [List.getElem?_take, if_pos hpos, List.getElem?_drop]; exact h0
        subst hsz
        obtain ⟨hH, hget⟩ := row_part k4 k5 k6 k7 off len hk.2
        cases hq with
        | refDead hd _ => rw [k1] at hd; cases hd
        | refEmpty _ => omega
        | ref hloc hcap hshape =>
          rw [k1] at hloc; cases hloc
          have hlen := hH.1
          rw [hl] at hlen
          refine ⟨_, Src.ofSlice V.w hu _ len _ _ hlen (fun j u hu => ?_) hH.2.1, hH⟩
          rw [Addr.add_lit]
          unfold World.cell?
          simp only [k2]
          exact hget j u hu
      · cases hs
    · cases hs
  · cases hs

theorem heap_drew (w : World) : w.drew.heap = w.heap := rfl
theorem setBlk_len' (σ : St) (r : Ref) (k : Blk) : (setBlk σ r k).l.length = σ.l.length := by cases r <;> simp [setBlk]
theorem View.later_swap {r : Ref} {b base size k : Nat} (hr : V.loc r = .at b base size) {w' : World} (h : OnlyAt b V.w w') (base' : Nat) : Later V ((V.kill r).adopt (.l k) w' b base' size) where
  size := by simp [View.adopt, h.size]
  heap x _ hx := h.heap x fun e => hx r base size (by rw [e]; exact hr)
  own _ _ h := h
  kept _ _ h _ := h
  locs x b' p q _ hx := by
    by_cases e : x = .l k
    · subst e
      simp only [View.adopt, setLoc_same, Loc.at.injEq] at hx
      exact ⟨r, base, size, by rw [← hx.1]; exact hr⟩
    · simp only [View.adopt, setLoc_ne e, View.kill] at hx
      by_cases e' : x = r
      · subst e'; simp [setLoc_same] at hx
      · rw [setLoc_ne e'] at hx; exact ⟨x, p, q, hx⟩
  loc m hm := by
    have h1 : ((V.kill r).adopt (.l k) w' b base' size).loc (.o m) = setLoc V.loc r .dead (.o m) := setLoc_ne (loc := setLoc V.loc r .dead) (r := .l k) (y := .o m) (x := .at b base' size) (by simp)
    rw [h1]
    by_cases e : Ref.o m = r
    · right; rw [← e, setLoc_same]
    · left; rw [setLoc_ne e]
  shape m b' p q _ _ ty x hs := by
    show w'.shape? b' = _
    rw [h.shape' b']; exact hs
  os := h.os
  tape := h.tape
  output := h.output

theorem Went.kill (hM : MemRel C V (blkAt σ.o σ.l)) {r : Ref} {k : Blk} (hB : blkAt σ.o σ.l r = some k) : Went C V σ (V.kill r) (setBlk σ r .dead) :=
  ⟨V.to_kill r, V.later_kill r, by rw [blkAt_setBlk hB]; exact hM.kill r, setBlk_e _ _ _, setBlk_d _ _ _⟩
theorem Went.then {V' V'' : View} {σ' σ'' : St} (h : Went C V σ V' σ') (k : Went C V' σ' V'' σ'') : Went C V σ V'' σ'' :=
  ⟨h.to.trans k.to, h.later.trans k.later, k.mem, k.e.trans h.e, k.d.trans h.d⟩
theorem Went.drew (hM : MemRel C V (blkAt σ.o σ.l)) : Went C V σ V.drew σ := ⟨V.to_drew, V.later_drew, hM.drew, rfl, rfl⟩

/-- A new row with some zeros behind. -/
theorem grown_row (hM : MemRel C V (blkAt σ.o σ.l)) {e n : Nat} (ys : List PVal) (all : List Value) (hH : Holds V n ys all) (hc : ∀ y ∈ ys, y.cells.length = n) (z : Value) (hz : z.cells.size = n) (hzs : (ofV z).solid = true) (extra : Nat) :
    Went C V σ (V.alloc (.l σ.l.length) (.cells (all.toArray ++ Builtin.zeroCells z.cells extra) e) n) (pushBlk σ (.row ys n e)) := by
  have hget : ∀ m, m < all.length → (all.toArray ++ Builtin.zeroCells z.cells extra).getD m undef = all.getD m undef := fun m hm => by
    rw [Array.getD_eq_getD_getElem?, Array.getElem?_append_left (by simpa using hm), List.getElem?_toArray, ← List.getD_eq_getElem?_getD]
  refine push_row hM _ e n ys (by simp [hH.1]) (fun m hm => ?_) (fun i x hx => hc x (List.mem_of_getElem? hx)) (fun i x j c hx hcj => ?_)
  · rcases Nat.lt_or_ge m all.length with h | h
    · rw [hget m h]
      have := hH.2.1 all[m] (List.getElem_mem h)
      rw [List.getD_eq_getElem?_getD, List.getElem?_eq_getElem h]; exact this
    · rw [Array.getD_eq_getD_getElem?, Array.getElem?_append_right (by simpa using h)]
      simp only [List.size_toArray]
      obtain ⟨c1, c2, _⟩ := rep_cells' (ofV_rep V z) hzs
      simp only [Array.size_append, List.size_toArray, size_zeroCells] at hm
      cases hq : (Builtin.zeroCells z.cells extra)[m - all.length]? with
      | none => have := Array.getElem?_eq_none_iff.1 hq; rw [size_zeroCells] at this; omega
      | some u =>
        have hmem : u ∈ Builtin.zeroCells z.cells extra := Array.mem_of_getElem? hq
        have : u ∈ z.cells := by
          simp only [Builtin.zeroCells] at hmem
          simp at hmem
          obtain ⟨a, ha, rfl⟩ := hmem
          have hlt : a % z.cells.size < z.cells.size := Nat.mod_lt _ (by
            rcases Nat.eq_zero_or_pos z.cells.size with h0 | h0
            · rw [h0] at ha; simp at ha
            · exact h0)
          rw [getElem!_pos z.cells _ hlt]
          exact Array.getElem_mem hlt
        obtain ⟨j, hj, rfl⟩ := Array.getElem_of_mem this
        have := c2 j (by omega)
        rw [Array.getD_eq_getD_getElem?, Array.getElem?_eq_getElem hj] at this
        exact this
  · have hi : i < ys.length := (List.getElem?_eq_some_iff.1 hx).1
    have hj : j < n := by rw [← hc x (List.mem_of_getElem? hx)]; exact (List.getElem?_eq_some_iff.1 hcj).1
    have : i * n + n ≤ ys.length * n := by rw [← Nat.succ_mul]; exact Nat.mul_le_mul_right _ hi
    rw [hget _ (by rw [hH.1]; omega)]
    exact hH.2.2 i x j c hx hcj

theorem rep_grown {r : Ref} {all : List Value} {z : Array Value} {e n len cap : Nat} (ha : all.length = len * n) (hz : z.size = n) (hle : len ≤ cap) :
    Rep (V.alloc r (.cells (all.toArray ++ Builtin.zeroCells z (cap - len)) e) n) (.ref r 0 len) (.slice (some ⟨V.w.heap.size, 0, none⟩) len cap) := by
  have : Rep (V.alloc r (.cells (all.toArray ++ Builtin.zeroCells z (cap - len)) e) n) (.ref r 0 len) (.slice (some ⟨V.w.heap.size, 0 + 0 * n, none⟩) len cap) :=
    .ref (setLoc_same _ _ _) hle ⟨e, (all.toArray ++ Builtin.zeroCells z (cap - len)).size, by
      show (match (V.w.alloc (.cells (all.toArray ++ Builtin.zeroCells z (cap - len)) e)).heap[V.w.heap.size]? with
        | some (.cells c elem _) => some (elem, c.size)
        | _ => none) = _
      rw [heap_alloc_new], by
      simp only [Array.size_append, List.size_toArray, size_zeroCells, ha, hz, Nat.zero_add, ← Nat.add_mul]
      rw [show len + (cap - len) = cap by omega]; exact Nat.le_refl _⟩
  simpa using this

theorem wAppend_sound (hM : MemRel C V (blkAt σ.o σ.l)) {t tx : TypeId} {p q : PVal} {v x : Value} (hp : Rep V p v) (hq : Rep V q x) {K : PVal → St → Prop} (h : wAppend C t tx p q σ K) (ty : TypeId) :
    ∃ V' σ' r u, (Builtin.append_ #[t, tx] ty #[v, x]).run C.P V.w = .ok u V'.w ∧ Went C V σ V' σ' ∧ Rep V' r u ∧ K r σ' := by
  unfold wAppend at h
  split at h
  · rename_i e n by' ys hsl hsrc
    obtain ⟨hn, hpos, hc, h⟩ := h
    obtain ⟨i, z, hu, hi, hz, hsz, hby, hzc, hzs⟩ := slq_spec hsl
    subst hsz hby
    obtain ⟨news, hS, hH⟩ := src_rep hM hq hn hsrc hc hpos
    -- the arm that grows
    have grow : ∀ {V1 : View} {σ1 : St} (base : Option Addr) (sLen sCap : Nat) (xs : List PVal) (olds : List Value), Went C V σ V1 σ1 → V1.w = V.w → σ1.l.length = σ.l.length → xs.length = sLen → (∀ y ∈ xs, y.cells.length = i.size) → Holds V i.size xs olds →
        (Builtin.firstCells i.size sLen (.slice base sLen sCap)).run C.P V.w.drew = .ok olds.toArray V.w.drew → sCap < sLen + ys.length → (sLen + ys.length) * i.bytes ≤ 140737488355328 → sLen + ys.length ≤ 9223372036854775807 →
        K (.ref (.l σ.l.length) 0 (sLen + ys.length)) (pushBlk σ1 (.row (xs ++ ys) i.size e)) →
        ∃ V' σ' r u, (Builtin.append_ #[t, tx] ty #[.slice base sLen sCap, x]).run C.P V.w = .ok u V'.w ∧ Went C V σ V' σ' ∧ Rep V' r u ∧ K r σ' := fun {V1 σ1} base sLen sCap xs olds hW hw hl hx hxc hold hf hg hb hm hK => by
      have hr := run_append_grow_src V.w t tx ty e i z hu hi hz base sLen sCap olds hf x ys.length news hS hg (by omega) (growslice_fits hg hb)
      have hge := grownCap_ge V.w (sLen + ys.length) sCap e
      have hall : Holds V1.drew i.size (xs ++ ys) (olds ++ news) := ((hold.append hH hxc).mono hW.to).mono V1.to_drew
      have hW2 := grown_row (V := V1.drew) (σ := σ1) (e := e) hW.mem.drew (xs ++ ys) (olds ++ news) hall (fun y hy => (List.mem_append.1 hy).elim (hxc y) (hc y)) z hzc hzs (grownCap V.w (sLen + ys.length) sCap e - (sLen + ys.length))
      have hlen : (olds ++ news).length = (sLen + ys.length) * i.size := by rw [List.length_append, hold.1, hH.1, hx, Nat.add_mul]
      refine ⟨(V1.drew).alloc (.l σ1.l.length) (.cells ((olds ++ news).toArray ++ Builtin.zeroCells z.cells (grownCap V.w (sLen + ys.length) sCap e - (sLen + ys.length))) e) i.size, _, .ref (.l σ.l.length) 0 (sLen + ys.length), .slice (some ⟨V.w.heap.size, 0, none⟩) (sLen + ys.length) (grownCap V.w (sLen + ys.length) sCap e), ?_, (hW.then (.drew hW.mem)).then hW2, ?_, hK⟩
      · rw [hr]
        simp only [View.alloc, View.drew, hw]
      · have := rep_grown (V := V1.drew) (r := .l σ1.l.length) (e := e) (all := olds ++ news) (z := z.cells) hlen hzc hge
        rw [hl] at this
        rw [hl]
        simpa only [View.drew, hw, heap_drew] using this
    split at h
    · obtain ⟨hb, hm, hK⟩ := h
      cases hp
      have hn0 : Holds V i.size [] [] := .nil V _
      have := grow (V1 := V) (σ1 := σ) none 0 0 [] [] (.refl hM) rfl rfl rfl (fun y hy => by cases hy) hn0 (run_firstCells_none _ _ _ _ _) (by omega) (by simpa using hb) (by omega) (by simpa using hK)
      exact this
    · rename_i r off len
      split at h
      · rename_i elems size ty' hB
        obtain ⟨rfl, rfl, hol, hb, hm, hK⟩ := h
        have hkl : (setBlk σ r .dead).l.length = σ.l.length := (setBlk_len' σ r .dead)
        rcases hM.blk _ _ hB with ⟨k1, h0⟩ | ⟨b, base, cells, fr, k1, k2, k3, k4, k5, k6, k7⟩
        · subst h0
          have hl0 : len = 0 := by simp at hol; omega
          subst hl0
          have hn0 : Holds V i.size [] [] := .nil V _
          cases hp with
          | refDead hd _ => rw [k1] at hd; cases hd
          | ref hl _ _ => rw [k1] at hl; cases hl
          | @refEmpty _ _ a _ =>
            refine grow (V1 := V.kill r) (σ1 := setBlk σ r .dead) a 0 0 [] [] (.kill hM hB) rfl hkl rfl (fun y hy => by cases hy) hn0 ?_ (by omega) hb hm (by simpa using hK)
            cases a with
            | none => exact run_firstCells_none _ _ _ _ _
            | some a => exact run_firstCells_some _ _ _ _ _ _ _ (by simp) (fun j v hv => by simp at hv)
        · have hdl : elems.drop off = (elems.drop off).take len := by rw [List.take_of_length_le (by simp; omega)]
          have hxl : (elems.drop off).length = len := by simp; omega
          obtain ⟨hP, hget⟩ := row_part k4 k5 k6 k7 off len (by omega)
          rw [← hdl] at hP
          have hxc : ∀ y ∈ elems.drop off, y.cells.length = i.size := fun y hy => by
            obtain ⟨j, hj⟩ := List.getElem?_of_mem (List.mem_of_mem_drop hy)
            exact k6 j y hj
          have hplen : ((cells.toList.drop (base + off * i.size)).take (len * i.size)).length = len * i.size := by rw [hP.1, hxl]
          cases hp with
          | refDead hd _ => rw [k1] at hd; cases hd
          | @refEmpty _ _ a _ =>
            have hp0 : (cells.toList.drop (base + off * i.size)).take (0 * i.size) = [] := by simp
            refine grow (V1 := V.kill r) (σ1 := setBlk σ r .dead) a 0 0 (elems.drop off) _ (.kill hM hB) rfl hkl hxl hxc hP ?_ (by omega) hb hm hK
            rw [hp0]
            cases a with
            | none => exact run_firstCells_none _ _ _ _ _
            | some a => exact run_firstCells_some _ _ _ _ _ _ _ (by simp) (fun j v hv => by simp at hv)
          | ref hl hcap hshape =>
            rw [k1] at hl; cases hl
            rename_i cap
            obtain ⟨ty2, nc, hs1, hs2⟩ := hshape
            have hnc : nc = cells.size := by
              unfold World.shape? at hs1
              simp only [k2] at hs1
              cases hs1; rfl
            subst hnc
            rcases Nat.lt_or_ge cap (len + ys.length) with hg | hroom
            · refine grow (V1 := V.kill r) (σ1 := setBlk σ r .dead) _ len cap (elems.drop off) _ (.kill hM hB) rfl hkl hxl hxc hP ?_ hg hb hm hK
              refine run_firstCells_some _ _ _ _ _ _ _ hplen (fun j v hv => ?_)
              rw [Addr.add_lit]
              unfold World.cell?
              simp only [heap_drew, k2]
              exact hget j v hv
            · -- there is room: the row goes on under a new name
              have hend : base + off * i.size + len * i.size = base + elems.length * i.size := by rw [← hol, Nat.add_mul]; omega
              have hfits : base + off * i.size + len * i.size + news.length ≤ cells.size := by
                rw [hH.1, Nat.add_assoc, ← Nat.add_mul]
                have : (len + ys.length) * i.size ≤ cap * i.size := Nat.mul_le_mul_right _ hroom
                rw [Nat.add_mul] at hs2
                omega
              have hrun := run_append_room_src V.w t tx ty _ i hu hi b (base + off * i.size) len cap x ys.length news hS hroom
                (fun j hj => by rw [cell?_of_cells k2 (by omega)]; rfl) (fun j hj => k3 _ (by omega))
              obtain ⟨cells', g1, g2, g3⟩ := setCells_heap b _ fr news _ V.w cells k2 hfits
              have honly := onlyAt_setCells k2 hfits
              have hMk := hM.kill r
              have hfresh : upd (blkAt σ.o σ.l) r .dead (.l σ.l.length) = none := by
                rw [upd_ne (fun e => by rw [← e, blkAt_fresh] at hB; cases hB)]; exact blkAt_fresh σ
              have hTo : V.To ((V.kill r).adopt (.l σ.l.length) (V.w.setCells b (base + off * i.size + len * i.size) news) b (base + off * i.size) i.size) :=
                (V.to_kill r).trans (View.to_adopt (V := V.kill r) honly (hM.own _ _ _ _ k1) (hMk.out _ hfresh) _ _)
              refine ⟨_, pushBlk (setBlk σ r .dead) (.row (elems.drop off ++ ys) i.size _), .ref (.l σ.l.length) 0 (len + ys.length), _, hrun, ⟨hTo, View.later_swap k1 honly _, ?_, ?_, ?_⟩, ?_, hK⟩
              · rw [blkAt_push, blkAt_setBlk hB, hkl]
                refine hMk.adopt (V := V.kill r) honly (hM.own _ _ _ _ k1) hfresh _ _ (fun r' x' y' hr' => ?_) _ ?_
                · by_cases e : r' = r
                  · subst e; simp [View.kill, setLoc_same] at hr'
                  · simp only [View.kill, setLoc_ne e] at hr'
                    exact e (hM.inj _ _ _ _ _ _ _ hr' k1)
                · refine .inr ⟨b, base + off * i.size, cells', fr, setLoc_same _ _ _, g1, fun m hm' => ?_, ?_, fun m hm' => ?_, fun j y hy => ?_, fun j y m c hy hcy => ?_⟩
                  · show (V.w.setCells b (base + off * i.size + len * i.size) news).frozen? ⟨b, m, none⟩ = false
                    rw [World.frozen?_setCells]; exact k3 m (by omega)
                  · rw [List.length_append, hxl, g2, Nat.add_mul]
                    have := hH.1
                    omega
                  · rw [g3 m]
                    split
                    · rename_i hin
                      have hlt : m - (base + off * i.size + len * i.size) < news.length := by omega
                      rw [List.getD_eq_getElem?_getD, List.getElem?_eq_getElem hlt]
                      exact hH.2.1 _ (List.getElem_mem hlt)
                    · exact k5 m (by omega)
                  · rcases List.mem_append.1 (List.mem_of_getElem? hy) with h | h
                    · exact hxc y h
                    · exact hc y h
                  · refine Rep.mono hTo ?_
                    rw [g3]
                    rcases Nat.lt_or_ge j len with hj | hj
                    · rw [List.getElem?_append_left (by omega)] at hy
                      have hm' : m < i.size := by rw [← hxc y (List.mem_of_getElem? hy)]; exact (List.getElem?_eq_some_iff.1 hcy).1
                      have : j * i.size + i.size ≤ len * i.size := by rw [← Nat.succ_mul]; exact Nat.mul_le_mul_right _ hj
                      rw [if_neg (by omega)]
                      rw [List.getElem?_drop] at hy
                      have := k7 (off + j) y m c hy hcy
                      rw [Nat.add_mul] at this
                      rw [show base + off * i.size + j * i.size + m = base + (off * i.size + j * i.size) + m by omega]
                      exact this
                    · rw [List.getElem?_append_right (by omega), hxl] at hy
                      have hm' : m < i.size := by rw [← hc y (List.mem_of_getElem? hy)]; exact (List.getElem?_eq_some_iff.1 hcy).1
                      have hjl : j - len < ys.length := (List.getElem?_eq_some_iff.1 hy).1
                      have e1 : j * i.size = len * i.size + (j - len) * i.size := by rw [← Nat.add_mul]; congr 1; omega
                      have : (j - len) * i.size + i.size ≤ ys.length * i.size := by rw [← Nat.succ_mul]; exact Nat.mul_le_mul_right _ hjl
                      rw [if_pos (by rw [hH.1]; omega), show base + off * i.size + j * i.size + m - (base + off * i.size + len * i.size) = (j - len) * i.size + m by omega]
                      exact hH.2.2 _ y m c hy hcy
              · rw [show (pushBlk (setBlk σ r .dead) (.row (elems.drop off ++ ys) i.size _)).e = (setBlk σ r .dead).e from rfl, setBlk_e]
              · rw [show (pushBlk (setBlk σ r .dead) (.row (elems.drop off ++ ys) i.size _)).d = (setBlk σ r .dead).d from rfl, setBlk_d]
              · have : Rep ((V.kill r).adopt (.l σ.l.length) (V.w.setCells b (base + off * i.size + len * i.size) news) b (base + off * i.size) i.size) (.ref (.l σ.l.length) 0 (len + ys.length)) (.slice (some ⟨b, base + off * i.size + 0 * i.size, none⟩) (len + ys.length) cap) :=
                  .ref (setLoc_same _ _ _) hroom ⟨_, cells.size, by
                    show (V.w.setCells b (base + off * i.size + len * i.size) news).shape? b = _
                    rw [honly.shape' b]; exact hs1, by rw [Nat.zero_add]; rw [Nat.add_mul] at hs2; omega⟩
                simpa using this
      · exact h.elim
    · exact h.elim
  · exact h.elim
/-! ### make -/
def wMakeSlice (C : Ctx) (t : TypeId) (p q : PVal) (σ : St) (K : PVal → St → Prop) : Prop :=
  match p, q with
  | .int _ l, .int _ c => match slq C.P t with
    | some (e, n, by') => match tz C.P e with
      | some z => 0 < n ∧ 0 ≤ l ∧ l ≤ c ∧ c.toNat * n ≤ 16777216 ∧ (by' : Int) * c ≤ 281474976710656 ∧ c ≤ 9223372036854775807 ∧
        K (.ref (.l σ.l.length) 0 l.toNat) (pushBlk σ (.row (List.replicate l.toNat z) n e))
      | none => False
    | none => False
  | _, _ => False
theorem wMakeSlice_sound (hM : MemRel C V (blkAt σ.o σ.l)) {t : TypeId} {p q : PVal} {v x : Value} (hp : Rep V p v) (hq : Rep V q x) {K : PVal → St → Prop} (h : wMakeSlice C t p q σ K) :
    ∃ V' σ' r u, (Instr.makeSlice t v x).run C.P V.w = .ok u V'.w ∧ Went C V σ V' σ' ∧ Rep V' r u ∧ K r σ' := by
  unfold wMakeSlice at h
  split at h
  · rename_i kl l kc c
    cases hp; cases hq
    split at h
    · rename_i e n by' hsl
      split at h
      · rename_i z htz
        obtain ⟨hn, h0, hlc, hsm, hby, h63, hK⟩ := h
        obtain ⟨i, zv, hu, hi, hz, rfl, rfl, hzc, hzs⟩ := slq_spec hsl
        have hzz : z = ofV zv := by
          simp only [tz, hi, Option.bind_some, hz, Option.map_some, Option.some.injEq] at htz
          exact htz.symm
        subst hzz
        obtain ⟨c1, c2, c3⟩ := rep_cells' (ofV_rep V zv) hzs
        have hrun := run_makeSlice (P := C.P) V.w t e i zv hu hi hz kl kc l c h0 hlc hsm hby h63
        have hget : ∀ m, m < c.toNat * i.size → (madeCells zv.cells (c.toNat * i.size)).getD m undef = zv.cells.getD (m % i.size) undef := fun m hm => by
          have hlt : m % zv.cells.size < zv.cells.size := Nat.mod_lt _ (by omega)
          rw [Array.getD_eq_getD_getElem?, Array.getD_eq_getD_getElem?, ← hzc]
          simp only [madeCells, Array.getElem?_map, Array.getElem?_range, hzc, hm, if_true, Option.map_some, Option.getD_some]
          rw [hzc] at hlt
          rw [Array.getElem?_eq_getElem (by omega), getElem!_pos zv.cells _ (by omega)]; rfl
        have hW := push_row hM (madeCells zv.cells (c.toNat * i.size)) e i.size (List.replicate l.toNat (ofV zv))
          (by rw [List.length_replicate, size_madeCells]; exact Nat.mul_le_mul_right _ (by omega))
          (fun m hm => by
            rw [size_madeCells] at hm
            rw [hget m hm]
            exact c2 _ (by rw [← c1, hzc]; exact Nat.mod_lt _ hn))
          (fun j y hy => by
            have := List.eq_of_mem_replicate (List.mem_of_getElem? hy)
            rw [this, ← c1, hzc])
          (fun j y m cc hy hc => by
            have hjl : j < l.toNat := by
              have := (List.getElem?_eq_some_iff.1 hy).1
              rwa [List.length_replicate] at this
            have := List.eq_of_mem_replicate (List.mem_of_getElem? hy)
            subst this
            have hm : m < i.size := by rw [← hzc, c1]; exact (List.getElem?_eq_some_iff.1 hc).1
            have h1 : j * i.size + i.size ≤ c.toNat * i.size := by rw [← Nat.succ_mul]; exact Nat.mul_le_mul_right _ (by omega)
            rw [hget _ (by omega), Nat.add_comm, Nat.add_mul_mod_self_right, Nat.mod_eq_of_lt hm]
            exact c3 m cc hc)
        refine ⟨_, _, .ref (.l σ.l.length) 0 l.toNat, _, hrun, hW, ?_, hK⟩
        have : Rep (V.alloc (.l σ.l.length) (.cells (madeCells zv.cells (c.toNat * i.size)) e) i.size) (.ref (.l σ.l.length) 0 l.toNat) (.slice (some ⟨V.w.heap.size, 0 + 0 * i.size, none⟩) l.toNat c.toNat) :=
          .ref (setLoc_same _ _ _) (by omega) ⟨e, c.toNat * i.size, by
            show (match (V.w.alloc (.cells (madeCells zv.cells (c.toNat * i.size)) e)).heap[V.w.heap.size]? with
              | some (.cells c elem _) => some (elem, c.size)
              | _ => none) = _
            rw [heap_alloc_new]; simp only [size_madeCells], by simp⟩
        simpa using this
      · exact h.elim
    · exact h.elim
  · exact h.elim
end Go.V
