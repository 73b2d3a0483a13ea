/-
  The operations of the walk on abstract values, and that the model's operations do the same.
-/
import Derived.Test.YtednoahjadghnaaDoorVBase
import Derived.Great.BuildSlice
import Derived.Laws.MakeOwn
namespace Go.V
open Go

/-! ### Operands -/
def simple : Value → Bool
  | .bool _ | .int _ _ | .string _ | .pointer none | .slice none 0 0 | .map none | .nilFunc | .nilIface => true
  | _ => false
def ofS : Value → PVal
  | .bool b => .bool b
  | .int k n => .int k n
  | .string s => .str s.data.toList
  | .pointer none => .nilp
  | .slice none 0 0 => .nils
  | .map none => .nilmap
  | .nilFunc => .nilfn
  | .nilIface => .niliface
  | _ => .any
def ofV : Value → PVal
  | .agg cs => bif cs.toList.all simple then .agg (cs.toList.map ofS) else .any
  | v => ofS v

theorem ofS_rep (V : View) (v : Value) : Rep V (ofS v) v := by
  unfold ofS
  split <;> constructor
theorem simple_one {v : Value} (h : simple v = true) : v.oneCell' = true := by
  unfold simple at h; split at h <;> first | rfl | (simp at h)
theorem ofV_rep (V : View) (v : Value) : Rep V (ofV v) v := by
  unfold ofV
  split
  · rename_i cs
    cases h : cs.toList.all simple with
    | false => exact .any
    | true =>
      have h0 := List.all_eq_true.1 h
      refine .agg (by simp) (fun j hj => ?_) (fun j c hc => ?_)
      · simp at hj
        have e : cs.getD j undef = cs[j] := by simp [Array.getD, hj]
        rw [e]; exact simple_one (h0 _ (by simp))
      · simp only [List.getElem?_map, Option.map_eq_some_iff] at hc
        obtain ⟨v, hv, rfl⟩ := hc
        have hj : j < cs.size := by
          rcases Nat.lt_or_ge j cs.size with h' | h'
          · exact h'
          · simp [h'] at hv
        have e : cs.getD j undef = v := by simp [Array.getD, hj]; simpa [hj] using hv
        rw [e]; exact ofS_rep V v
  · exact ofS_rep V v

def val (e : Env) : Operand → PVal
  | .tmp t => gt e t
  | .const v => ofV v
  | .global g => .gptr g 0
  | .func f => .fn (.func f) [] []

theorem val_rep {C : Ctx} {n : Nat} {V : View} {σ : St} {a : Act} (h : Rel C n V σ a) (x : Operand) : Rep V (val σ.e x) (a.eval x) := by
  cases x with
  | tmp t => exact h.env t
  | const v => exact ofV_rep V v
  | global g => exact .gptr
  | func f => exact .fn rfl rfl (fun j c hc => by simp at hc) (fun j c hc => by simp at hc)

theorem vals_rep {C : Ctx} {n : Nat} {V : View} {σ : St} {a : Act} (h : Rel C n V σ a) (xs : Array Operand) : ListRep V (xs.toList.map (val σ.e)) (xs.map a.eval) := by
  refine ⟨by simp, fun j p hp => ?_⟩
  simp only [List.getElem?_map, Option.map_eq_some_iff] at hp
  obtain ⟨x, hx, rfl⟩ := hp
  have hj : j < xs.size := by
    rcases Nat.lt_or_ge j xs.size with h' | h'
    · exact h'
    · simp [h'] at hx
  have hx' : xs[j] = x := by simpa [hj] using hx
  have e : (xs.map a.eval).getD j undef = a.eval x := by simp [Array.getD, hj, hx']
  rw [e]; exact val_rep h x

/-! ### The types that an operation names -/
def tyq (P : Program) (t : TypeId) : Option (Bool × Nat) :=
  match P.underlying t, P.info? t with
  | some d, some i => some (d.isRow, i.size)
  | _, _ => none
theorem tyq_spec {P : Program} {t : TypeId} {ag : Bool} {n : Nat} (h : tyq P t = some (ag, n)) : ∃ d, P.underlying t = some d ∧ d.isRow = ag ∧ (P.info? t).map (·.size) = some n := by
  unfold tyq at h
  split at h
  · rename_i d i hd hi
    simp at h
    exact ⟨d, hd, h.1, by simp [hi, h.2]⟩
  · cases h
theorem run_sizeOf {P : Program} {t : TypeId} {n : Nat} (h : (P.info? t).map (·.size) = some n) (w : World) : (sizeOf t).run P w = .ok n w := by
  cases hq : P.info? t with
  | none => simp [hq] at h
  | some i => simp [hq] at h; simp [sizeOf, typeInfo, hq, h]
theorem run_isAgg {P : Program} {t : TypeId} {d : TypeDesc} (hu : P.underlying t = some d) (w : World) : (isAgg t).run P w = .ok d.isRow w := by
  unfold isAgg
  rw [Sem.run_bind, run_underlying hu w]
  cases d <;> simp_all

/-! ### Cells -/
structure CellsRep (V : View) (b o : Nat) (cs : List PVal) (f : Nat → Value) : Prop where
  cell : ∀ n, n < cs.length → V.w.cell? ⟨b, o + n, none⟩ = some (f n) ∧ (f n).oneCell' = true
  rep : ∀ (n : Nat) (c : PVal), cs[n]? = some c → Rep V c (f n)

def loadCs (ag : Bool) (n : Nat) (cs : List PVal) (off : Nat) (K : PVal → Prop) : Prop :=
  match ag with
  | true => off + n ≤ cs.length ∧ K (.agg ((cs.drop off).take n))
  | false => match cs[off]? with
    | some c => K c
    | none => False

theorem load_sound {P : Program} {V : View} {b o : Nat} {cs : List PVal} {f : Nat → Value} (hc : CellsRep V b o cs f) {t : TypeId} {ag : Bool} {n off : Nat} (ht : tyq P t = some (ag, n)) {K : PVal → Prop}
    (h : loadCs ag n cs off K) : ∃ v p, (loadVar t ⟨b, o + off, none⟩).run P V.w = .ok v V.w ∧ Rep V p v ∧ K p := by
  obtain ⟨d, hu, hd, hi⟩ := tyq_spec ht
  cases ag with
  | true =>
    obtain ⟨h1, h2⟩ := h
    let vs : List Value := (List.range n).map fun j => f (off + j)
    have hl : vs.length = n := by simp [vs]
    have hv : ∀ j, j < n → vs[j]? = some (f (off + j)) := fun j hj => by simp [vs, hj]
    refine ⟨.agg vs.toArray, _, run_loadVar_mid V.w b (o + off) t vs d (fun j v hj => ?_) hu hd (by rw [hi, hl]), ?_, h2⟩
    · have hjn : j < n := by
        rcases Nat.lt_or_ge j n with h' | h'
        · exact h'
        · rw [List.getElem?_eq_none (by omega)] at hj; cases hj
      rw [hv j hjn] at hj; cases hj
      rw [Nat.add_assoc]; exact (hc.cell (off + j) (by omega)).1
    · refine .agg (by simp [hl]; omega) (fun j hj => ?_) (fun j c hj => ?_)
      · simp at hj
        have e : vs.toArray.getD j undef = f (off + j) := by
          have := hv j (by omega)
          simp [Array.getD, hl, show j < n by omega]
          rw [List.getElem?_eq_getElem (by omega)] at this
          exact Option.some.inj this
        rw [e]; exact (hc.cell (off + j) (by omega)).2
      · rw [List.getElem?_take] at hj
        split at hj
        · rename_i hjn
          have e : vs.toArray.getD j undef = f (off + j) := by
            have := hv j hjn
            simp [Array.getD, hl, hjn]
            rw [List.getElem?_eq_getElem (by omega)] at this
            exact Option.some.inj this
          rw [e]
          rw [List.getElem?_drop] at hj
          exact hc.rep _ _ hj
        · cases hj
  | false =>
    unfold loadCs at h
    cases hq : cs[off]? with
    | none => simp [hq] at h
    | some c =>
      simp only [hq] at h
      have hlt : off < cs.length := (List.getElem?_eq_some_iff.1 hq).1
      refine ⟨f off, c, ?_, hc.rep _ _ hq, h⟩
      have h1 := (hc.cell off hlt).1
      unfold loadVar
      rw [Sem.run_bind, run_isAgg hu, hd]
      simp [h1]

/-! ### A store into a block -/
theorem setCell_heap {w : World} {b : Nat} {cells : Array Value} {ty : Nat} {fr : Nat × Nat} (h : w.heap[b]? = some (.cells cells ty fr)) (o : Nat) (v : Value) :
    (w.setCell ⟨b, o, none⟩ v).heap[b]? = some (.cells (cells.setIfInBounds o v) ty fr) := by
  simp [World.setCell, Array.getElem?_modify, h]
theorem setCell_heap_ne {w : World} {b x : Nat} (h : x ≠ b) (o : Nat) (v : Value) : (w.setCell ⟨b, o, none⟩ v).heap[x]? = w.heap[x]? := by
  simp [World.setCell, Array.getElem?_modify, Ne.symm h]

theorem getD_set {α : Type} (a : Array α) (i j : Nat) (v d : α) (hi : i < a.size) : (a.setIfInBounds i v).getD j d = if j = i then v else a.getD j d := by
  rw [Array.getD_eq_getD_getElem?, Array.getD_eq_getD_getElem?, Array.getElem?_setIfInBounds]
  by_cases e : i = j
  · subst e; simp [hi]
  · rw [if_neg e, if_neg (Ne.symm e)]

theorem setCells_heap (b : Nat) (ty : Nat) (fr : Nat × Nat) : ∀ (vs : List Value) (o : Nat) (w : World) (cells : Array Value), w.heap[b]? = some (.cells cells ty fr) → o + vs.length ≤ cells.size →
    ∃ cells', (w.setCells b o vs).heap[b]? = some (.cells cells' ty fr) ∧ cells'.size = cells.size ∧
      ∀ n, cells'.getD n undef = if o ≤ n ∧ n < o + vs.length then vs.getD (n - o) undef else cells.getD n undef
  | [], o, w, cells, h, _ => ⟨cells, h, rfl, fun n => by rw [if_neg (by simp)]⟩
  | v :: vs, o, w, cells, h, hl => by
    simp at hl
    obtain ⟨cells', h1, h2, h3⟩ := setCells_heap b ty fr vs (o + 1) (w.setCell ⟨b, o, none⟩ v) _ (setCell_heap h o v) (by simp; omega)
    refine ⟨cells', h1, by simpa using h2, fun n => ?_⟩
    rw [h3 n, getD_set _ _ _ _ _ (by omega)]
    by_cases e : n = o
    · subst e
      rw [if_neg (by omega), if_pos rfl, if_pos (by simp)]; simp
    · by_cases hn : o + 1 ≤ n ∧ n < o + 1 + vs.length
      · rw [if_pos hn, if_pos (by simp; omega), show n - o = (n - (o + 1)) + 1 by omega]; simp
      · rw [if_neg hn, if_neg e, if_neg (by simp; omega)]
theorem setCells_only (b : Nat) : ∀ (vs : List Value) (o : Nat) (w : World), (w.setCells b o vs).heap.size = w.heap.size ∧ (∀ x, x ≠ b → (w.setCells b o vs).heap[x]? = w.heap[x]?) ∧
    (w.setCells b o vs).os = w.os ∧ (w.setCells b o vs).tape = w.tape ∧ (w.setCells b o vs).output = w.output
  | [], _, w => ⟨rfl, fun _ _ => rfl, rfl, rfl, rfl⟩
  | v :: vs, o, w => by
    obtain ⟨h1, h2, h3, h4, h5⟩ := setCells_only b vs (o + 1) (w.setCell ⟨b, o, none⟩ v)
    exact ⟨by rw [World.setCells, h1]; simp, fun x hx => by rw [World.setCells, h2 x hx]; exact setCell_heap_ne hx o v, h3, h4, h5⟩
theorem onlyAt_setCells {w : World} {b : Nat} {cells : Array Value} {ty : Nat} {fr : Nat × Nat} (h : w.heap[b]? = some (.cells cells ty fr)) {vs : List Value} {o : Nat} (hl : o + vs.length ≤ cells.size) : OnlyAt b w (w.setCells b o vs) := by
  obtain ⟨cells', h1, h2, _⟩ := setCells_heap b ty fr vs o w cells h hl
  obtain ⟨g1, g2, g3, g4, g5⟩ := setCells_only b vs o w
  refine ⟨g1, g2, ?_, g3, g4, g5⟩
  simp [World.shape?, h1, h, h2]

theorem cell?_of_cells {w : World} {b : Nat} {cells : Array Value} {ty : Nat} {fr : Nat × Nat} (h : w.heap[b]? = some (.cells cells ty fr)) {n : Nat} (hn : n < cells.size) : w.cell? ⟨b, n, none⟩ = some (cells.getD n undef) := by
  simp [World.cell?, h, Array.getD, hn]

/-- The cells of a solid value, as the model has them. -/
theorem rep_cells {V : View} {p : PVal} {v : Value} (h : Rep V p v) (hs : p.solid = true) (h1 : ∀ cs, p ≠ .agg cs → v.oneCell' = true) :
    v.cells.size = p.cells.length ∧ (∀ j, j < p.cells.length → (v.cells.getD j undef).oneCell' = true) ∧ ∀ (j : Nat) (c : PVal), p.cells[j]? = some c → Rep V c (v.cells.getD j undef) := by
  by_cases hag : ∃ cs, p = .agg cs
  · obtain ⟨cs, rfl⟩ := hag
    cases h with
    | agg hl h2 h => exact ⟨hl, h2, h⟩
  · have hp : p.cells = [p] := by cases p <;> first | rfl | exact absurd ⟨_, rfl⟩ hag
    have hone : v.oneCell' = true := h1 [] (fun e => hag ⟨_, e⟩)
    have hv : v.cells = #[v] := by cases v <;> first | rfl | (simp [Value.oneCell'] at hone)
    rw [hp, hv]
    refine ⟨rfl, fun j hj => ?_, fun j c hc => ?_⟩
    · simp at hj; subst hj; simpa [Array.getD] using hone
    · cases j with
      | zero => simp at hc; subst hc; simpa [Array.getD] using h
      | succ j => simp at hc

theorem rep_one {V : View} {p : PVal} {v : Value} (h : Rep V p v) (hs : p.solid = true) (hna : ∀ cs, p ≠ .agg cs) : v.oneCell' = true := by
  cases h <;> first | rfl | assumption | exact absurd rfl (hna _) | (simp [PVal.solid] at hs)

theorem rep_cells' {V : View} {p : PVal} {v : Value} (h : Rep V p v) (hs : p.solid = true) :
    v.cells.size = p.cells.length ∧ (∀ j, j < p.cells.length → (v.cells.getD j undef).oneCell' = true) ∧ ∀ (j : Nat) (c : PVal), p.cells[j]? = some c → Rep V c (v.cells.getD j undef) := by
  by_cases hag : ∃ cs, p = .agg cs
  · obtain ⟨cs, rfl⟩ := hag
    cases h with
    | agg hl h1 h => exact ⟨hl, h1, h⟩
  · exact rep_cells h hs fun cs _ => rep_one h hs fun cs e => hag ⟨cs, e⟩

/-! ### Load and store at a pointer -/
theorem row_at {C : Ctx} {V : View} {B : Ref → Option Blk} (hM : MemRel C V B) {r : Ref} {elems : List PVal} {size ty : Nat} (hB : B r = some (.row elems size ty)) {i : Nat} {x : PVal} (hx : elems[i]? = some x) :
    ∃ b base cells fr, V.loc r = .at b base size ∧ V.w.heap[b]? = some (.cells cells ty fr) ∧ base + elems.length * size ≤ cells.size ∧ x.cells.length = size ∧ base + i * size + size ≤ cells.size ∧
      CellsRep V b (base + i * size) x.cells (fun j => cells.getD (base + i * size + j) undef) := by
  rcases hM.blk r _ hB with ⟨_, h⟩ | ⟨b, base, cells, fr, h1, h2, h3, h4, h5, h6, h7⟩
  · subst h; simp at hx
  · have hi : i < elems.length := (List.getElem?_eq_some_iff.1 hx).1
    have hs := h6 i x hx
    have hle : i * size + size ≤ elems.length * size := by rw [← Nat.succ_mul]; exact Nat.mul_le_mul_right _ hi
    refine ⟨b, base, cells, fr, h1, h2, h4, hs, by omega, fun n hn => ⟨cell?_of_cells h2 (by omega), h5 _ (by omega)⟩, fun n c hc => h7 i x n c hx hc⟩

def wLoad (C : Ctx) (t : TypeId) (p : PVal) (σ : St) (K : PVal → Prop) : Prop :=
  match tyq C.P t with
  | none => False
  | some (ag, n) => match p with
    | .ptr r i off => match blkAt σ.o σ.l r with
      | some (.row elems _ _) => match elems[i]? with
        | some x => loadCs ag n x.cells off K
        | none => False
      | _ => False
    | .eptr x off => loadCs ag n x.cells off K
    | .gptr g off => match C.G g with
      | some cs => loadCs ag n cs off K
      | none => False
    | _ => False

theorem wLoad_sound {C : Ctx} {V : View} {σ : St} (hM : MemRel C V (blkAt σ.o σ.l)) {t : TypeId} {p : PVal} {v : Value} (hp : Rep V p v) {K : PVal → Prop} (h : wLoad C t p σ K) :
    ∃ u q, (Instr.loadAt t v).run C.P V.w = .ok u V.w ∧ Rep V q u ∧ K q := by
  unfold wLoad at h
  split at h
  · exact h.elim
  · rename_i ag n ht
    split at h
    · rename_i r i off
      split at h
      · rename_i elems size ty hB
        split at h
        · rename_i x hx
          obtain ⟨b, base, cells, fr, h1, h2, h3, h4, h5, h6⟩ := row_at hM hB hx
          cases hp with
          | ptrDead hd _ => rw [h1] at hd; cases hd
          | ptr hl =>
            rw [h1] at hl; cases hl
            obtain ⟨u, q, hr, hq, hK⟩ := load_sound h6 ht h
            exact ⟨u, q, by simp only [Instr.loadAt, Instr.sureAddr, Sem.run_bind, Sem.run_pure, Result.andThen_ok, hr], hq, hK⟩
        · exact h.elim
      · exact h.elim
    · rename_i x off
      cases hp with
      | eptr f hown hb hc hx =>
        obtain ⟨u, q, hr, hq, hK⟩ := load_sound ⟨hc, hx⟩ ht h
        exact ⟨u, q, by simp only [Instr.loadAt, Instr.sureAddr, Sem.run_bind, Sem.run_pure, Result.andThen_ok, hr], hq, hK⟩
    · rename_i g off
      split at h
      · rename_i cs hg
        obtain ⟨_, _, h2⟩ := hM.glob g cs hg
        cases hp with
        | gptr =>
          have hf : ∀ j, ∃ v, j < cs.length → V.w.cell? ⟨g, j, none⟩ = some v ∧ v.oneCell' = true ∧ ∀ c, cs[j]? = some c → Rep V c v := fun j => by
            rcases Nat.lt_or_ge j cs.length with hj | hj
            · obtain ⟨v, a, b, c⟩ := h2 j cs[j] (List.getElem?_eq_getElem hj)
              exact ⟨v, fun _ => ⟨a, b, fun c' hc' => by rw [List.getElem?_eq_getElem hj] at hc'; cases hc'; exact c.of_bare V rfl rfl⟩⟩
            · exact ⟨undef, fun hj' => by omega⟩
          have hcr : CellsRep V g 0 cs (fun j => Classical.choose (hf j)) :=
            ⟨fun n hn => by have := Classical.choose_spec (hf n) hn; rw [Nat.zero_add]; exact ⟨this.1, this.2.1⟩,
             fun n c hc => (Classical.choose_spec (hf n) (List.getElem?_eq_some_iff.1 hc).1).2.2 c hc⟩
          obtain ⟨u, q, hr, hq, hK⟩ := load_sound hcr ht h
          rw [Nat.zero_add] at hr
          exact ⟨u, q, by simp only [Instr.loadAt, Instr.sureAddr, Sem.run_bind, Sem.run_pure, Result.andThen_ok, hr], hq, hK⟩
      · exact h.elim
    · exact h.elim

/-- Cells put in the place of cells. -/
def splice (cs : List PVal) (off : Nat) (vs : List PVal) : List PVal := cs.take off ++ vs ++ cs.drop (off + vs.length)
theorem length_splice {cs vs : List PVal} {off : Nat} (h : off + vs.length ≤ cs.length) : (splice cs off vs).length = cs.length := by
  simp [splice]; omega
theorem getElem?_splice {cs vs : List PVal} {off : Nat} (h : off + vs.length ≤ cs.length) (j : Nat) :
    (splice cs off vs)[j]? = if off ≤ j ∧ j < off + vs.length then vs[j - off]? else cs[j]? := by
  unfold splice
  by_cases h1 : j < off
  · rw [if_neg (by omega), List.append_assoc, List.getElem?_append_left (by simp; omega), List.getElem?_take, if_pos h1]
  · by_cases h2 : j < off + vs.length
    · rw [if_pos (by omega), List.append_assoc, List.getElem?_append_right (by simp; omega), List.getElem?_append_left (by simp; omega)]
      congr 1; simp; omega
    · rw [if_neg (by omega), List.getElem?_append_right (by simp; omega), List.getElem?_drop]
      congr 1; simp; omega

/-- An element with the value v at its cell off. -/
def putc (x : PVal) (off : Nat) (v : PVal) (K : PVal → Prop) : Prop :=
  match x, v with
  | .agg cs, v => off + v.cells.length ≤ cs.length ∧ K (.agg (splice cs off v.cells))
  | _, .agg _ => False
  | _, v => off = 0 ∧ K v

theorem putc_spec {x : PVal} {off : Nat} {v : PVal} {K : PVal → Prop} (h : putc x off v K) : ∃ y, K y ∧ off + v.cells.length ≤ x.cells.length ∧ y.cells = splice x.cells off v.cells := by
  unfold putc at h
  split at h
  · exact ⟨_, h.2, h.1, rfl⟩
  · exact h.elim
  · rename_i hx hv
    obtain ⟨rfl, hK⟩ := h
    have e1 : x.cells = [x] := by cases x <;> first | rfl | (exfalso; exact hx _ rfl)
    have e2 : v.cells = [v] := by cases v <;> first | rfl | (exfalso; exact hv _ rfl)
    exact ⟨v, hK, by rw [e1, e2]; simp, by rw [e1, e2]; simp [splice]⟩

def setBlk (σ : St) (r : Ref) (k : Blk) : St :=
  match r with
  | .o n => { σ with o := σ.o.set n k }
  | .l n => { σ with l := σ.l.set n k }
theorem blkAt_setBlk {σ : St} {r : Ref} {k k' : Blk} (h : blkAt σ.o σ.l r = some k') : blkAt (setBlk σ r k).o (setBlk σ r k).l = upd (blkAt σ.o σ.l) r k := by
  funext x
  cases r with
  | o n =>
    have hn : n < σ.o.length := (List.getElem?_eq_some_iff.1 h).1
    cases x with
    | o m =>
      simp only [setBlk, blkAt, upd, List.getElem?_set]
      by_cases e : n = m
      · subst e; simp [hn]
      · rw [if_neg e, if_neg (by simpa using Ne.symm e)]
    | l m => simp [setBlk, blkAt, upd]
  | l n =>
    have hn : n < σ.l.length := (List.getElem?_eq_some_iff.1 h).1
    cases x with
    | l m =>
      simp only [setBlk, blkAt, upd, List.getElem?_set]
      by_cases e : n = m
      · subst e; simp [hn]
      · rw [if_neg e, if_neg (by simpa using Ne.symm e)]
    | o m => simp [setBlk, blkAt, upd]
theorem setBlk_e (σ : St) (r : Ref) (k : Blk) : (setBlk σ r k).e = σ.e := by cases r <;> rfl
theorem setBlk_d (σ : St) (r : Ref) (k : Blk) : (setBlk σ r k).d = σ.d := by cases r <;> rfl

def wStore (C : Ctx) (t : TypeId) (p v : PVal) (σ : St) (K : St → Prop) : Prop :=
  match tyq C.P t with
  | none => False
  | some (_, n) => v.solid = true ∧ v.cells.length = n ∧ match p with
    | .ptr r i off => match blkAt σ.o σ.l r with
      | some (.row elems size ty) => match elems[i]? with
        | some x => putc x off v fun y => K (setBlk σ r (.row (elems.set i y) size ty))
        | none => False
      | _ => False
    | _ => False

/-- What an operation leaves. -/
structure Went (C : Ctx) (V : View) (σ : St) (V' : View) (σ' : St) : Prop where
  to : V.To V'
  later : Later V V'
  mem : MemRel C V' (blkAt σ'.o σ'.l)
  e : σ'.e = σ.e
  d : σ'.d = σ.d

theorem Went.refl {C : Ctx} {V : View} {σ : St} (hM : MemRel C V (blkAt σ.o σ.l)) : Went C V σ V σ := ⟨.refl _, .refl _, hM, rfl, rfl⟩

theorem wStore_sound {C : Ctx} {V : View} {σ : St} (hM : MemRel C V (blkAt σ.o σ.l)) {t : TypeId} {p q : PVal} {v u : Value} (hp : Rep V p v) (hq : Rep V q u) {K : St → Prop} (h : wStore C t p q σ K) :
    ∃ V' σ', (Instr.storeAt t v u).run C.P V.w = .ok () V'.w ∧ Went C V σ V' σ' ∧ K σ' := by
  unfold wStore at h
  split at h
  · exact h.elim
  · rename_i ag n ht
    obtain ⟨hs, hl, h⟩ := h
    split at h
    · rename_i r i off
      split at h
      · rename_i elems size ty hB
        split at h
        · rename_i x hx
          obtain ⟨y, hK, hle, hy⟩ := putc_spec h
          have hM' := hM.blk r _ hB
          obtain ⟨b, base, cells, fr, h1, h2, h3, h4, h5, h6⟩ := row_at hM hB hx
          rcases hM' with ⟨_, h0⟩ | ⟨b', base', cells', fr', k1, k2, k3, k4, k5, k6, k7⟩
          · subst h0; simp at hx
          rw [h1] at k1; cases k1
          rw [h2] at k2; cases k2
          obtain ⟨d, hu, _, hi⟩ := tyq_spec ht
          obtain ⟨c1, c2, c3⟩ := rep_cells' hq hs
          cases hp with
          | ptrDead hd _ => rw [h1] at hd; cases hd
          | ptr hloc =>
            rw [h1] at hloc; cases hloc
            have hcs : u.cells.toList.length = q.cells.length := by simpa using c1
            have hrange : base + i * size + off + u.cells.toList.length ≤ cells.size := by rw [hcs]; omega
            have hrun := run_storeCells_cells (P := C.P) b (base + i * size + off) u.cells.toList 0 V.w
              (fun j hj => by rw [Nat.add_zero, cell?_of_cells h2 (by omega)]; rfl)
              (fun j hj => by rw [Nat.add_zero]; exact k3 _ (by omega))
              (fun v hv => by
                obtain ⟨j, hj, rfl⟩ := List.getElem_of_mem hv
                have := c2 j (by omega)
                simp at hj
                simpa [Array.getD_eq_getD_getElem?, hj] using this)
            rw [Nat.add_zero] at hrun
            obtain ⟨cells', g1, g2, g3⟩ := setCells_heap b ty fr u.cells.toList _ V.w cells h2 hrange
            have honly := onlyAt_setCells h2 hrange
            refine ⟨V.setHeap (V.w.setCells b (base + i * size + off) u.cells.toList), _, ?_, ⟨View.to_setHeap honly (hM.own _ _ _ _ h1), View.later_setHeap honly h1, ?_, setBlk_e _ _ _, setBlk_d _ _ _⟩, hK⟩
            · simp only [Instr.storeAt, Instr.sureAddr, Sem.run_bind, Sem.run_pure, Result.andThen_ok]
              unfold storeVar
              rw [Sem.run_bind, run_sizeOf hi]
              simp only [Result.andThen_ok, c1, hl, ne_eq, not_true_eq_false, if_false]
              exact hrun
            · rw [blkAt_setBlk hB]
              refine hM.setHeap honly h1 _ (.inr ⟨b, base, cells', fr, h1, g1, fun m hm => ?_, ?_, fun m hm => ?_, fun i' x' hx' => ?_, fun i' x' j c hx' hc => ?_⟩)
              · simp only [View.setHeap]; rw [World.frozen?_setCells]; exact k3 m (by omega)
              · rw [List.length_set, g2]; exact h3
              · rw [g3 m]
                split
                · rename_i hin
                  have := c2 (m - (base + i * size + off)) (by omega)
                  simpa [Array.getD_eq_getD_getElem?, List.getD_eq_getElem?_getD] using this
                · exact k5 m (by omega)
              · rw [List.getElem?_set] at hx'
                split at hx'
                · split at hx'
                  · cases hx'; rw [hy, length_splice hle]; exact h4
                  · cases hx'
                · exact k6 i' x' hx'
              · have hmono : ∀ {c v}, Rep V c v → Rep (V.setHeap (V.w.setCells b (base + i * size + off) u.cells.toList)) c v := fun h => h.mono (View.to_setHeap honly (hM.own _ _ _ _ h1))
                rw [g3]
                rw [List.getElem?_set] at hx'
                split at hx'
                · rename_i e
                  subst e
                  split at hx'
                  · cases hx'
                    rw [hy, getElem?_splice hle] at hc
                    split at hc
                    · rename_i hin
                      rw [if_pos (by omega)]
                      have := c3 _ _ hc
                      have e2 : base + i * size + j - (base + i * size + off) = j - off := by omega
                      rw [e2]
                      simp only [List.getD_eq_getElem?_getD, Array.getElem?_toList]
                      rw [← Array.getD_eq_getD_getElem?]
                      exact hmono this
                    · rename_i hin
                      rw [if_neg (by omega)]
                      exact hmono (k7 i x j c hx hc)
                  · cases hx'
                · rename_i e
                  have hsz := k6 i' x' hx'
                  have hj : j < size := by rw [← hsz]; exact (List.getElem?_eq_some_iff.1 hc).1
                  rw [if_neg ?_]
                  · exact hmono (k7 i' x' j c hx' hc)
                  · intro hin
                    have h8 : off + q.cells.length ≤ size := by omega
                    rcases Nat.lt_or_gt_of_ne e with hlt | hlt
                    · have : i * size + size ≤ i' * size := by rw [← Nat.succ_mul]; exact Nat.mul_le_mul_right _ hlt
                      omega
                    · have : i' * size + size ≤ i * size := by rw [← Nat.succ_mul]; exact Nat.mul_le_mul_right _ hlt
                      omega
        · exact h.elim
      · exact h.elim
    · exact h.elim

/-! ### New blocks -/
def pushBlk (σ : St) (k : Blk) : St := { σ with l := σ.l ++ [k] }
theorem blkAt_push (σ : St) (k : Blk) : blkAt (pushBlk σ k).o (pushBlk σ k).l = upd (blkAt σ.o σ.l) (.l σ.l.length) k := by
  funext x
  cases x with
  | o m => simp [pushBlk, blkAt, upd]
  | l m =>
    simp only [pushBlk, blkAt, upd]
    by_cases e : m = σ.l.length
    · subst e; simp
    · rw [if_neg (by simpa using e)]
      rcases Nat.lt_or_ge m σ.l.length with h | h
      · rw [List.getElem?_append_left h]
      · rw [List.getElem?_eq_none (by simp; omega), List.getElem?_eq_none h]
theorem blkAt_fresh (σ : St) : blkAt σ.o σ.l (.l σ.l.length) = none := by simp [blkAt]

/-- A new row of cells behind which the elements lie. -/
theorem push_row {C : Ctx} {V : View} {σ : St} (hM : MemRel C V (blkAt σ.o σ.l)) (cells : Array Value) (ty size : Nat) (elems : List PVal)
    (h4 : elems.length * size ≤ cells.size) (h5 : ∀ n, n < cells.size → (cells.getD n undef).oneCell' = true)
    (h6 : ∀ (i : Nat) (x : PVal), elems[i]? = some x → x.cells.length = size)
    (h7 : ∀ (i : Nat) (x : PVal) (j : Nat) (c : PVal), elems[i]? = some x → x.cells[j]? = some c → Rep V c (cells.getD (i * size + j) undef)) :
    Went C V σ (V.alloc (.l σ.l.length) (.cells cells ty) size) (pushBlk σ (.row elems size ty)) := by
  have hro := hM.out _ (blkAt_fresh σ)
  refine ⟨View.to_alloc hro hM.locLt _ _, View.later_alloc hro hM.locLt _ _, ?_, rfl, rfl⟩
  rw [blkAt_push]
  exact hM.alloc (blkAt_fresh σ) _ _ _ (BlkRep.new_row hro hM.locLt h4 h5 h6 h7)

theorem length_flat {n : Nat} : ∀ {vs : List Value}, (∀ v ∈ vs, v.cells.size = n) → (vs.flatMap fun v => v.cells.toList).length = vs.length * n
  | [], _ => by simp
  | v :: vs, h => by
    simp only [List.flatMap_cons, List.length_append, List.length_cons, Array.length_toList]
    rw [length_flat (fun u hu => h u (List.mem_cons_of_mem _ hu)), h v List.mem_cons_self, Nat.succ_mul, Nat.add_comm]

theorem getD_flat {n : Nat} (hn : 0 < n) {vs : List Value} (hv : ∀ v ∈ vs, v.cells.size = n) {i j : Nat} (hj : j < n) :
    (vs.flatMap fun v => v.cells.toList).toArray.getD (i * n + j) undef = ((vs[i]?).map fun v => v.cells.getD j undef).getD undef := by
  rw [Array.getD_eq_getD_getElem?, List.getElem?_toArray, Great.flat_get hn vs hv]
  have e1 : (i * n + j) / n = i := by rw [Nat.add_comm, Nat.add_mul_div_right _ _ hn, Nat.div_eq_of_lt hj, Nat.zero_add]
  have e2 : (i * n + j) % n = j := by rw [Nat.add_comm, Nat.add_mul_mod_self_right, Nat.mod_eq_of_lt hj]
  rw [e1, e2]
  cases h : vs[i]? with
  | none => rfl
  | some v =>
    have := hv v (List.mem_of_getElem? h)
    simp [Array.getD_eq_getD_getElem?, this, hj]

/-- .. as the cells of values side by side. -/
theorem push_flat {C : Ctx} {V : View} {σ : St} (hM : MemRel C V (blkAt σ.o σ.l)) (ty n : Nat) (hn : 0 < n) (ps : List PVal) (vs : List Value) (hl : vs.length = ps.length)
    (hs : ∀ p ∈ ps, p.solid = true ∧ p.cells.length = n) (hr : ∀ (j : Nat) (p : PVal), ps[j]? = some p → Rep V p (vs.getD j undef)) :
    (∀ v ∈ vs, v.cells.size = n) ∧ Went C V σ (V.alloc (.l σ.l.length) (.cells (vs.flatMap fun v => v.cells.toList).toArray ty) n) (pushBlk σ (.row ps n ty)) := by
  have hv : ∀ j (hj : j < vs.length), vs[j].cells.size = n ∧ (∀ i, i < n → (vs[j].cells.getD i undef).oneCell' = true) ∧ ∀ (i : Nat) (c : PVal), (ps[j]'(by omega)).cells[i]? = some c → Rep V c (vs[j].cells.getD i undef) := fun j hj => by
    have hp := hs (ps[j]'(by omega)) (List.getElem_mem _)
    have h1 := hr j _ (List.getElem?_eq_getElem (by omega))
    have e : vs.getD j undef = vs[j] := by simp [List.getD_eq_getElem?_getD, hj]
    rw [e] at h1
    obtain ⟨a, b, c⟩ := rep_cells' h1 hp.1
    rw [hp.2] at a b
    exact ⟨a, b, c⟩
  have hv' : ∀ v ∈ vs, v.cells.size = n := fun v hv1 => by
    obtain ⟨j, hj, rfl⟩ := List.getElem_of_mem hv1
    exact (hv j hj).1
  have hlen : (vs.flatMap fun v => v.cells.toList).length = vs.length * n := length_flat hv'
  refine ⟨hv', push_row hM _ ty n ps ?_ ?_ ?_ ?_⟩
  · simp [hlen, hl]
  · intro m hm
    simp only [List.size_toArray, hlen] at hm
    have e : m = m / n * n + m % n := by rw [Nat.mul_comm]; exact (Nat.div_add_mod m n).symm
    rw [e, getD_flat hn hv' (Nat.mod_lt _ hn)]
    have hd : m / n < vs.length := (Nat.div_lt_iff_lt_mul hn).2 hm
    rw [List.getElem?_eq_getElem hd]
    exact (hv _ hd).2.1 _ (Nat.mod_lt _ hn)
  · intro i x hx; exact (hs x (List.mem_of_getElem? hx)).2
  · intro i x j c hx hc
    have hi : i < ps.length := (List.getElem?_eq_some_iff.1 hx).1
    have hx' : ps[i] = x := (List.getElem?_eq_some_iff.1 hx).2
    have hj : j < n := by rw [← (hs x (List.mem_of_getElem? hx)).2]; exact (List.getElem?_eq_some_iff.1 hc).1
    rw [getD_flat hn hv' hj, List.getElem?_eq_getElem (by omega)]
    exact (hv i (by omega)).2.2 j c (by rw [hx']; exact hc)

/-! #### box, alloc -/
def wBox (e : TypeId) (p : PVal) (σ : St) (K : PVal → St → Prop) : Prop :=
  p.solid = true ∧ K (.ptr (.l σ.l.length) 0 0) (pushBlk σ (.row [p] p.cells.length e))
theorem wBox_sound {C : Ctx} {V : View} {σ : St} (hM : MemRel C V (blkAt σ.o σ.l)) {e : TypeId} {p : PVal} {v : Value} (hp : Rep V p v) {K : PVal → St → Prop} (h : wBox e p σ K) :
    ∃ V' σ' q u, (Instr.box e v).run C.P V.w = .ok u V'.w ∧ Went C V σ V' σ' ∧ Rep V' q u ∧ K q σ' := by
  obtain ⟨hs, hK⟩ := h
  obtain ⟨c1, c2, c3⟩ := rep_cells' hp hs
  have hW := push_row hM v.cells e p.cells.length [p] (by simp [c1]) (fun n hn => c2 n (by omega)) (fun i x hx => by cases i <;> simp at hx; rw [hx]) (fun i x j c hx hc => by
    cases i with
    | succ i => simp at hx
    | zero => simp at hx; subst hx; simpa using c3 j c hc)
  refine ⟨_, _, _, .pointer (some ⟨V.w.heap.size, 0, none⟩), ?_, hW, ?_, hK⟩
  · simp [Instr.box, newVar, newRow, View.alloc]
  · have : Rep (V.alloc (.l σ.l.length) (.cells v.cells e) p.cells.length) (.ptr (.l σ.l.length) 0 0) (.pointer (some ⟨V.w.heap.size, 0 + 0 * p.cells.length + 0, none⟩)) := .ptr (setLoc_same _ _ _)
    simpa using this

/-- The zero value of a type. -/
def tz (P : Program) (t : TypeId) : Option PVal := ((P.info? t).bind (·.zero)).map ofV
def wAlloc (C : Ctx) (e : TypeId) (σ : St) (K : PVal → St → Prop) : Prop :=
  match tz C.P e with
  | some z => wBox e z σ K
  | none => False
theorem run_zeroValue {P : Program} {t : TypeId} {z : Value} (h : (P.info? t).bind (·.zero) = some z) (w : World) : (zeroValue t).run P w = .ok z w := by
  cases hi : P.info? t with
  | none => simp [hi] at h
  | some i => simp [hi] at h; simp [zeroValue, typeInfo, hi, h]
theorem wAlloc_sound {C : Ctx} {V : View} {σ : St} (hM : MemRel C V (blkAt σ.o σ.l)) {e : TypeId} {K : PVal → St → Prop} (h : wAlloc C e σ K) :
    ∃ V' σ' q u, (Instr.alloc e true (.tuple #[])).run C.P V.w = .ok u V'.w ∧ Went C V σ V' σ' ∧ Rep V' q u ∧ K q σ' := by
  unfold wAlloc at h
  split at h
  · rename_i z hz
    simp only [tz, Option.map_eq_some_iff] at hz
    obtain ⟨zv, hzv, rfl⟩ := hz
    obtain ⟨V', σ', q, u, hr, rest⟩ := wBox_sound (v := zv) hM (ofV_rep V zv) h
    refine ⟨V', σ', q, u, ?_, rest⟩
    unfold Instr.alloc
    rw [Sem.run_bind, run_zeroValue hzv]
    exact hr
  · exact h.elim

/-! #### slice literals -/
def dense : Nat → List (Nat × Operand) → Option (List Operand)
  | _, [] => some []
  | i, (j, x) :: r => bif Nat.beq i j then (dense (i + 1) r).map (x :: ·) else none
theorem dense_spec : ∀ (ps : List (Nat × Operand)) (i : Nat) (xs : List Operand), dense i ps = some xs → ps = (xs.zipIdx i).map fun x => (x.2, x.1)
  | [], i, xs, h => by cases h; rfl
  | (j, x) :: r, i, xs, h => by
    unfold dense at h
    cases hb : Nat.beq i j with
    | false => rw [hb] at h; cases h
    | true =>
      have := Nat.eq_of_beq_eq_true hb
      subst this
      rw [hb] at h
      simp only [cond_true, Option.map_eq_some_iff] at h
      obtain ⟨ys, hy, rfl⟩ := h
      rw [dense_spec r (i + 1) ys hy]; simp [List.zipIdx_cons]

/-- Of a slice type: its element's type, the element's cells and bytes. -/
def slq (P : Program) (t : TypeId) : Option (TypeId × Nat × Nat) :=
  match P.underlying t with
  | some (.slice e) => match P.info? e with
    | some i => match i.zero with
      | some z => if z.cells.size == i.size && (ofV z).solid then some (e, i.size, i.bytes) else none
      | none => none
    | none => none
  | _ => none
theorem slq_spec {P : Program} {t e n b : Nat} (h : slq P t = some (e, n, b)) : ∃ i z, P.underlying t = some (.slice e) ∧ P.info? e = some i ∧ i.zero = some z ∧ i.size = n ∧ i.bytes = b ∧ z.cells.size = n ∧ (ofV z).solid = true := by
  unfold slq at h
  split at h
  · rename_i e' hu
    split at h
    · rename_i i hi
      split at h
      · rename_i z hz
        split at h
        · rename_i hc
          simp at h hc
          obtain ⟨rfl, rfl, rfl⟩ := h
          exact ⟨i, z, hu, hi, hz, rfl, rfl, hc.1, hc.2⟩
        · cases h
      · cases h
    · cases h
  · cases h

/-- Every one of the values is solid and has n cells. -/
def okCells (n : Nat) : List PVal → Prop
  | [] => True
  | p :: r => p.solid = true ∧ p.cells.length = n ∧ okCells n r
theorem okCells_spec {n : Nat} : ∀ {ps : List PVal}, okCells n ps → ∀ p ∈ ps, p.solid = true ∧ p.cells.length = n
  | [], _, p, hp => by cases hp
  | q :: r, h, p, hp => by
    rcases List.mem_cons.1 hp with rfl | hp
    · exact ⟨h.1, h.2.1⟩
    · exact okCells_spec h.2.2 p hp
theorem okCells_of {n : Nat} : ∀ {ps : List PVal}, (∀ p ∈ ps, p.solid = true ∧ p.cells.length = n) → okCells n ps
  | [], _ => trivial
  | q :: _, h => ⟨(h q List.mem_cons_self).1, (h q List.mem_cons_self).2, okCells_of fun p hp => h p (List.mem_cons_of_mem _ hp)⟩

def wBuildSlice (C : Ctx) (t len : Nat) (parts : Array (Nat × Operand)) (σ : St) (K : PVal → St → Prop) : Prop :=
  match slq C.P t, dense 0 parts.toList with
  | some (e, n, _), some xs => xs.length = len ∧ len * n ≤ 16777216 ∧ 0 < n ∧ okCells n (xs.map (val σ.e)) ∧ K (.ref (.l σ.l.length) 0 len) (pushBlk σ (.row (xs.map (val σ.e)) n e))
  | _, _ => False

theorem fill_nil (place : Nat → Option (Nat × Nat)) (cells : Array Value) : Instr.fill place cells [] = some cells := rfl

theorem rep_new {V : View} {r : Ref} {cells : Array Value} {ty size len : Nat} (h : len * size ≤ cells.size) : Rep (V.alloc r (.cells cells ty) size) (.ref r 0 len) (.slice (some ⟨V.w.heap.size, 0, none⟩) len len) := by
  have : Rep (V.alloc r (.cells cells ty) size) (.ref r 0 len) (.slice (some ⟨V.w.heap.size, 0 + 0 * size, none⟩) len len) :=
    .ref (setLoc_same _ _ _) (Nat.le_refl _) ⟨ty, cells.size, by
      show (match (V.w.alloc (.cells cells ty)).heap[V.w.heap.size]? with
        | some (.cells c elem _) => some (elem, c.size)
        | _ => none) = _
      rw [heap_alloc_new], by simpa using h⟩
  simpa using this

theorem wBuildSlice_sound {C : Ctx} {n : Nat} {V : View} {σ : St} {a : Act} (hR : Rel C n V σ a) {t len : Nat} {parts : Array (Nat × Operand)} {K : PVal → St → Prop} (h : wBuildSlice C t len parts σ K) :
    ∃ V' σ' q u, (Instr.buildSlice t len (parts.map fun (i, x) => (i, a.eval x))).run C.P V.w = .ok u V'.w ∧ Went C V σ V' σ' ∧ Rep V' q u ∧ K q σ' := by
  unfold wBuildSlice at h
  split at h
  · rename_i e m b xs hq hd
    obtain ⟨hlen, hsmall, hpos, hok, hK⟩ := h
    obtain ⟨i, z, hu, hi, hz, hsz, _⟩ := slq_spec hq
    have hparts := dense_spec _ _ _ hd
    obtain ⟨hv, hW⟩ := push_flat hR.mem e m hpos (xs.map (val σ.e)) (xs.map a.eval) (by simp) (okCells_spec hok) (fun j p hp => by
      simp only [List.getElem?_map, Option.map_eq_some_iff] at hp
      obtain ⟨x, hx, rfl⟩ := hp
      have : (xs.map a.eval).getD j undef = a.eval x := by simp [List.getD_eq_getElem?_getD, hx]
      rw [this]; exact val_rep hR x)
    have hflat : (List.flatMap (fun v => v.cells.toList) (xs.map a.eval)).length = len * m := by rw [length_flat hv, List.length_map, hlen]
    refine ⟨_, _, _, .slice (some ⟨V.w.heap.size, 0, none⟩) len len, ?_, hW, rep_new (by simp only [List.size_toArray, hflat]; exact Nat.le_refl _), hK⟩
    have hp2 : (parts.map fun (i, x) => (i, a.eval x)).toList = ((xs.map a.eval).zipIdx 0).map fun x => (x.2, x.1) := by
      rw [Array.toList_map, hparts, List.map_map, List.zipIdx_map, List.map_map]
      rfl
    by_cases h0 : len * m = 0
    · have hl0 : len = 0 := by rcases Nat.mul_eq_zero.1 h0 with h | h; exact h; omega
      have hx0 : xs = [] := List.length_eq_zero_iff.1 (by omega)
      subst hx0
      have hp0 : parts = #[] := by
        apply Array.toList_inj.1
        rw [hparts]; rfl
      subst hp0
      simp [Instr.buildSlice, run_underlying hu, sizeOf, typeInfo, hi, hl0, fill_nil, newRow, View.alloc]
      congr 2
      apply Array.ext_getElem?
      intro j
      simp
    · rw [Go.run_buildSlice V.w t e len _ (List.flatMap (fun v => v.cells.toList) (xs.map a.eval)).toArray i z hu hi hz (by rw [hsz]; omega) (by rw [hsz]; exact h0) ?_]
      · rfl
      · rw [hsz, hp2]
        exact Great.fill_whole hpos _ _ hv (by simp [hlen])
  · exact h.elim
end Go.V
