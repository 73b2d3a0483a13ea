/-
  Other names for the blocks; what is forgotten; loops; functions; calls.
-/
import Derived.Test.YtednoahjadghnaaDoorVWalk
namespace Go.V
open Go

variable {C : Ctx} {n : Nat}

/-! ### other names -/
mutual
def ren (f : Ref → Ref) : PVal → PVal
  | .ptr r i o => .ptr (f r) i o
  | .ref r o l => .ref (f r) o l
  | .mref r => .mref (f r)
  | .eptr x o => .eptr (ren f x) o
  | .slc xs => .slc (renL f xs)
  | .agg cs => .agg (renL f cs)
  | .tuple cs => .tuple (renL f cs)
  | .iface t v => .iface t (ren f v)
  | .fn g a b => .fn g (renL f a) (renL f b)
  | .fmap ks vs => .fmap (renL f ks) (renL f vs)
  | .any => .any
  | .bool b => .bool b
  | .int k n => .int k n
  | .str s => .str s
  | .nilp => .nilp
  | .gptr g o => .gptr g o
  | .nils => .nils
  | .niliface => .niliface
  | .nilfn => .nilfn
  | .nilmap => .nilmap
def renL (f : Ref → Ref) : List PVal → List PVal
  | [] => []
  | x :: xs => ren f x :: renL f xs
end
theorem renL_map (f : Ref → Ref) (xs : List PVal) : renL f xs = xs.map (ren f) := by
  induction xs with
  | nil => simp [renL]
  | cons x xs ih => simp [renL, ih]
theorem ren_cells (f : Ref → Ref) (p : PVal) : (ren f p).cells = p.cells.map (ren f) := by
  cases p <;> simp [ren, PVal.cells, renL_map]

def View.via (V : View) (f : Ref → Ref) : View := { V with loc := fun r => V.loc (f r) }

theorem Rep.via {V : View} {f : Ref → Ref} {q : PVal} {v : Value} (h : Rep V q v) : ∀ p, q = ren f p → Rep (V.via f) p v := by
  induction h with
  | any => intro p hp; cases p <;> simp [ren] at hp; exact .any
  | bool => intro p hp; cases p <;> simp [ren] at hp; subst hp; exact .bool
  | int => intro p hp; cases p <;> simp [ren] at hp; obtain ⟨rfl, rfl⟩ := hp; exact .int
  | str => intro p hp; cases p <;> simp [ren] at hp; subst hp; exact .str
  | nilp => intro p hp; cases p <;> simp [ren] at hp; exact .nilp
  | ptr h => intro p hp; cases p <;> simp [ren] at hp; obtain ⟨rfl, rfl, rfl⟩ := hp; exact .ptr h
  | ptrDead h h1 => intro p hp; cases p <;> simp [ren] at hp; obtain ⟨rfl, rfl, rfl⟩ := hp; exact .ptrDead h h1
  | gptr => intro p hp; cases p <;> simp [ren] at hp; obtain ⟨rfl, rfl⟩ := hp; exact .gptr
  | eptr g a b c d ih =>
    intro p hp; cases p <;> simp [ren] at hp; obtain ⟨rfl, rfl⟩ := hp
    refine .eptr g a b (fun m hm => c m (by rw [ren_cells]; simpa using hm)) fun j x hx => ih j (ren f x) (by rw [ren_cells]; simp [hx]) x rfl
  | nils => intro p hp; cases p <;> simp [ren] at hp; exact .nils
  | slcEmpty =>
    intro p hp; cases p <;> simp [ren, renL_map] at hp
    subst hp; exact .slcEmpty
  | slc size g a b c d e f' ih =>
    intro p hp; cases p <;> simp [ren, renL_map] at hp
    subst hp
    simp only [List.length_map] at *
    refine .slc size g a b c d (fun i x hx => ?_) fun i x j y hx hy => ih i (ren f x) j (ren f y) (by simp [hx]) (by rw [ren_cells]; simp [hy]) y rfl
    have := e i (ren f x) (by simp [hx])
    rwa [ren_cells, List.length_map] at this
  | ref h a b => intro p hp; cases p <;> simp [ren] at hp; obtain ⟨rfl, rfl, rfl⟩ := hp; exact .ref h a b
  | refEmpty h => intro p hp; cases p <;> simp [ren] at hp; obtain ⟨rfl, rfl, rfl⟩ := hp; exact .refEmpty h
  | refDead h a => intro p hp; cases p <;> simp [ren] at hp; obtain ⟨rfl, rfl, rfl⟩ := hp; exact .refDead h a
  | agg a b c ih =>
    intro p hp; cases p <;> simp [ren, renL_map] at hp
    subst hp
    simp only [List.length_map] at *
    exact .agg a b fun j x hx => ih j (ren f x) (by simp [hx]) x rfl
  | tuple a c ih =>
    intro p hp; cases p <;> simp [ren, renL_map] at hp
    subst hp
    simp only [List.length_map] at *
    exact .tuple a fun j x hx => ih j (ren f x) (by simp [hx]) x rfl
  | iface h ih => intro p hp; cases p <;> simp [ren] at hp; obtain ⟨rfl, rfl⟩ := hp; exact .iface (ih _ rfl)
  | niliface => intro p hp; cases p <;> simp [ren] at hp; exact .niliface
  | fn a b c d ih ih' =>
    intro p hp; cases p <;> simp [ren, renL_map] at hp
    obtain ⟨rfl, rfl, rfl⟩ := hp
    simp only [List.length_map] at *
    exact .fn a b (fun j x hx => ih j (ren f x) (by simp [hx]) x rfl) fun j x hx => ih' j (ren f x) (by simp [hx]) x rfl
  | nilfn => intro p hp; cases p <;> simp [ren] at hp; exact .nilfn
  | nilmap => intro p hp; cases p <;> simp [ren] at hp; exact .nilmap
  | fmap a b c d e f' ih ih' =>
    intro p hp; cases p <;> simp [ren, renL_map] at hp
    obtain ⟨rfl, rfl⟩ := hp
    simp only [List.length_map] at *
    exact .fmap a b c d (fun j x hx => ih j (ren f x) (by simp [hx]) x rfl) fun j x hx => ih' j (ren f x) (by simp [hx]) x rfl
  | mref h => intro p hp; cases p <;> simp [ren] at hp; subst hp; exact .mref h
  | mrefDead h a => intro p hp; cases p <;> simp [ren] at hp; subst hp; exact .mrefDead h a

theorem Rep.of_via {V V' : View} {f : Ref → Ref} (hw : V'.w = V.w) (ho : ∀ b, V.own b → V'.own b) (hl : ∀ r, V'.loc r ≠ .out → V.loc (f r) = V'.loc r) {p : PVal} {v : Value} (h : Rep V' p v) : Rep V (ren f p) v := by
  have hne : ∀ r x, V'.loc r = x → x ≠ .out → V.loc (f r) = x := fun r x hx hn => by rw [← hx]; exact hl r (by rw [hx]; exact hn)
  induction h with
  | any => simp only [ren]; exact .any
  | bool => simp only [ren]; exact .bool
  | int => simp only [ren]; exact .int
  | str => simp only [ren]; exact .str
  | nilp => simp only [ren]; exact .nilp
  | ptr h => simp only [ren]; exact .ptr (hne _ _ h (by simp))
  | ptrDead h h1 => simp only [ren]; exact .ptrDead (hne _ _ h (by simp)) h1
  | gptr => simp only [ren]; exact .gptr
  | eptr g a b c d ih =>
    simp only [ren]
    refine .eptr g (fun h => a (ho _ h)) (by rw [← hw]; exact b) (fun m hm => by rw [← hw]; exact c m (by rwa [ren_cells, List.length_map] at hm)) fun j x hx => ?_
    rw [ren_cells] at hx
    simp only [List.getElem?_map, Option.map_eq_some_iff] at hx
    obtain ⟨y, hy, rfl⟩ := hx
    exact ih j y hy
  | nils => simp only [ren]; exact .nils
  | slcEmpty => simp only [ren, renL]; exact .slcEmpty
  | @slc xs b off cap size g a b' c d e f' ih =>
    simp only [ren, renL_map]
    have := Rep.slc (V := V) (xs := xs.map (ren f)) (cap := cap) size g (fun h => a (ho _ h)) (by rw [← hw]; exact b') (by simpa using c) (fun m hm => by rw [← hw]; exact d m (by simpa using hm))
      (fun i x hx => by
        simp only [List.getElem?_map, Option.map_eq_some_iff] at hx
        obtain ⟨y, hy, rfl⟩ := hx
        rw [ren_cells, List.length_map]; exact e i y hy)
      (fun i x j z hx hz => by
        simp only [List.getElem?_map, Option.map_eq_some_iff] at hx
        obtain ⟨y, hy, rfl⟩ := hx
        rw [ren_cells] at hz
        simp only [List.getElem?_map, Option.map_eq_some_iff] at hz
        obtain ⟨u, hu, rfl⟩ := hz
        exact ih i y j u hy hu)
    simpa using this
  | ref h a b => simp only [ren]; exact .ref (hne _ _ h (by simp)) a (by rw [← hw]; exact b)
  | refEmpty h =>
    simp only [ren]
    rcases h with h | ⟨b, base, size, h⟩
    · exact .refEmpty (.inl (hne _ _ h (by simp)))
    · exact .refEmpty (.inr ⟨b, base, size, hne _ _ h (by simp)⟩)
  | refDead h a => simp only [ren]; exact .refDead (hne _ _ h (by simp)) a
  | agg a b c ih =>
    simp only [ren, renL_map]
    refine .agg (by simpa using a) (by simpa using b) fun j x hx => ?_
    simp only [List.getElem?_map, Option.map_eq_some_iff] at hx
    obtain ⟨y, hy, rfl⟩ := hx
    exact ih j y hy
  | tuple a c ih =>
    simp only [ren, renL_map]
    refine .tuple (by simpa using a) fun j x hx => ?_
    simp only [List.getElem?_map, Option.map_eq_some_iff] at hx
    obtain ⟨y, hy, rfl⟩ := hx
    exact ih j y hy
  | iface h ih => simp only [ren]; exact .iface ih
  | niliface => simp only [ren]; exact .niliface
  | fn a b c d ih ih' =>
    simp only [ren, renL_map]
    refine .fn (by simpa using a) (by simpa using b) (fun j x hx => ?_) fun j x hx => ?_
    · simp only [List.getElem?_map, Option.map_eq_some_iff] at hx
      obtain ⟨y, hy, rfl⟩ := hx
      exact ih j y hy
    · simp only [List.getElem?_map, Option.map_eq_some_iff] at hx
      obtain ⟨y, hy, rfl⟩ := hx
      exact ih' j y hy
  | nilfn => simp only [ren]; exact .nilfn
  | nilmap => simp only [ren]; exact .nilmap
  | fmap a b c d e f' ih ih' =>
    simp only [ren, renL_map]
    refine .fmap (fun h => a (ho _ h)) (by rw [← hw]; exact b) (by simpa using c) (by simpa using d) (fun j x hx => ?_) fun j x hx => ?_
    · simp only [List.getElem?_map, Option.map_eq_some_iff] at hx
      obtain ⟨y, hy, rfl⟩ := hx
      exact ih j y hy
    · simp only [List.getElem?_map, Option.map_eq_some_iff] at hx
      obtain ⟨y, hy, rfl⟩ := hx
      exact ih' j y hy
  | mref h => simp only [ren]; exact .mref (hne _ _ h (by simp))
  | mrefDead h a => simp only [ren]; exact .mrefDead (hne _ _ h (by simp)) a

/-- No name of a block occurs. -/
def Closed (p : PVal) : Prop := ∀ f, ren f p = p

def renB (f : Ref → Ref) : Blk → Blk
  | .row elems size ty => .row (renL f elems) size ty
  | .mp ks vs => .mp (renL f ks) (renL f vs)
  | .dead => .dead
  | .iter s p => .iter s p

/-- A block, under the names of another view of the same world. -/
theorem BlkRep.via {V : View} {f : Ref → Ref} {r : Ref} {k : Blk} (h : BlkRep V (f r) (renB f k)) : BlkRep (V.via f) r k := by
  cases k with
  | dead => exact h
  | row elems size ty =>
    simp only [renB, renL_map] at h
    rcases h with ⟨h1, h2⟩ | ⟨b, base, cells, fr, h1, h2, h3, h4, h5, h6, h7⟩
    · exact .inl ⟨h1, by simpa using h2⟩
    · refine .inr ⟨b, base, cells, fr, h1, h2, h3, by simpa using h4, h5, fun i x hx => ?_, fun i x j c hx hc => ?_⟩
      · have := h6 i (ren f x) (by simp [hx])
        rwa [ren_cells, List.length_map] at this
      · exact (h7 i (ren f x) j (ren f c) (by simp [hx]) (by rw [ren_cells]; simp [hc])).via c rfl
  | mp ks vs =>
    simp only [renB, renL_map] at h
    obtain ⟨b, es, clock, h1, h2, h3, h4, h5, h6⟩ := h
    exact ⟨b, es, clock, h1, h2, by simpa using h3, by simpa using h4, fun i c hc => (h5 i (ren f c) (by simp [hc])).via c rfl, fun i c hc => (h6 i (ren f c) (by simp [hc])).via c rfl⟩
  | iter s pos => exact h

theorem BlkRep.of_via {V V' : View} {f : Ref → Ref} (hw : V'.w = V.w) (ho : ∀ b, V.own b → V'.own b) (hl : ∀ r, V'.loc r ≠ .out → V.loc (f r) = V'.loc r) {r : Ref} {k : Blk} (h : BlkRep V' r k) : BlkRep V (f r) (renB f k) := by
  have hne : ∀ r x, V'.loc r = x → x ≠ .out → V.loc (f r) = x := fun r x hx hn => by rw [← hx]; exact hl r (by rw [hx]; exact hn)
  cases k with
  | dead => exact hne _ _ h (by simp)
  | row elems size ty =>
    simp only [renB, renL_map]
    rcases h with ⟨h1, h2⟩ | ⟨b, base, cells, fr, h1, h2, h3, h4, h5, h6, h7⟩
    · exact .inl ⟨hne _ _ h1 (by simp), by simpa using h2⟩
    · refine .inr ⟨b, base, cells, fr, hne _ _ h1 (by simp), by rw [← hw]; exact h2, fun m hm => by rw [← hw]; exact h3 m hm, by simpa using h4, h5, fun i x hx => ?_, fun i x j c hx hc => ?_⟩
      · simp only [List.getElem?_map, Option.map_eq_some_iff] at hx
        obtain ⟨y, hy, rfl⟩ := hx
        rw [ren_cells, List.length_map]; exact h6 i y hy
      · simp only [List.getElem?_map, Option.map_eq_some_iff] at hx
        obtain ⟨y, hy, rfl⟩ := hx
        rw [ren_cells] at hc
        simp only [List.getElem?_map, Option.map_eq_some_iff] at hc
        obtain ⟨u, hu, rfl⟩ := hc
        exact (h7 i y j u hy hu).of_via hw ho hl
  | mp ks vs =>
    simp only [renB, renL_map]
    obtain ⟨b, es, clock, h1, h2, h3, h4, h5, h6⟩ := h
    refine ⟨b, es, clock, hne _ _ h1 (by simp), by rw [← hw]; exact h2, by simpa using h3, by simpa using h4, fun i c hc => ?_, fun i c hc => ?_⟩
    · simp only [List.getElem?_map, Option.map_eq_some_iff] at hc
      obtain ⟨y, hy, rfl⟩ := hc
      exact (h5 i y hy).of_via hw ho hl
    · simp only [List.getElem?_map, Option.map_eq_some_iff] at hc
      obtain ⟨y, hy, rfl⟩ := hc
      exact (h6 i y hy).of_via hw ho hl
  | iter s pos =>
    obtain ⟨b, h1, h2⟩ := h
    exact ⟨b, hne _ _ h1 (by simp), by rw [← hw]; exact h2⟩

/-! ### what is forgotten, and named anew -/
def thF (θ : List Nat) (m : Nat) : Ref → Ref
  | .o j => .o j
  | .l j => .l (θ.getD j m)

def EnvOk (f : Ref → Ref) (e : Env) : Env → Prop
  | [] => True
  | (k, p) :: r => gt e k = ren f p ∧ EnvOk f e r
def pick (l : List Blk) : List Nat → Option (List Blk)
  | [] => some []
  | j :: js => match l[j]?, pick l js with
    | some k, some ks => some (k :: ks)
    | _, _ => none
def renD (f : Ref → Ref) (d : PDef) : PDef := ⟨d.f, renL f d.args, renL f d.caps⟩
/-- σ' says of the same memory what σ says, or less; its local block number j is σ's number θ[j]. -/
structure Conv (σ σ' : St) (θ : List Nat) : Prop where
  nd : θ.Nodup
  env : EnvOk (thF θ σ.l.length) σ.e σ'.e
  o : σ.o = σ'.o.map (renB (thF θ σ.l.length))
  l : pick σ.l θ = some (σ'.l.map (renB (thF θ σ.l.length)))
  d : σ.d = σ'.d.map (renD (thF θ σ.l.length))

theorem envOk_gt {f : Ref → Ref} {e : Env} : ∀ {e' : Env}, EnvOk f e e' → ∀ t, gt e' t = .any ∨ gt e t = ren f (gt e' t)
  | [], _, _ => .inl rfl
  | (k, p) :: r, h, t => by
    simp only [gt]
    cases hb : Nat.beq k t with
    | true =>
      obtain rfl := Nat.eq_of_beq_eq_true hb
      exact .inr h.1
    | false => exact envOk_gt h.2 t
theorem pick_spec {l : List Blk} : ∀ {θ : List Nat} {ks : List Blk}, pick l θ = some ks → θ.length = ks.length ∧ ∀ (j : Nat) (k : Blk), ks[j]? = some k → ∃ i, θ[j]? = some i ∧ l[i]? = some k
  | [], ks, h => by cases h; exact ⟨rfl, fun j k hk => by simp at hk⟩
  | i :: θ, ks, h => by
    unfold pick at h
    split at h
    · rename_i k ks' hk hks
      cases h
      obtain ⟨h1, h2⟩ := pick_spec hks
      refine ⟨by simp [h1], fun j k' hk' => ?_⟩
      cases j with
      | zero => simp at hk'; subst hk'; exact ⟨i, rfl, hk⟩
      | succ j => simp at hk'; simpa using h2 j k' hk'
    · cases h

theorem Later.via (V : View) (f : Ref → Ref) (hf : ∀ j, f (.o j) = .o j) : Later V (V.via f) where
  size := Nat.le_refl _
  heap _ _ _ := rfl
  own _ _ h := h
  kept _ _ h _ := h
  locs r b x y _ h := ⟨f r, x, y, h⟩
  loc j _ := .inl (by simp [View.via, hf])
  shape _ _ _ _ _ _ _ _ h := h
  os := rfl
  tape := rfl
  output := rfl

theorem Rel.conv {V : View} {σ σ' : St} {a : Act} (hR : Rel C n V σ a) {θ : List Nat} (h : Conv σ σ' θ) : Later V (V.via (thF θ σ.l.length)) ∧ Rel C n (V.via (thF θ σ.l.length)) σ' a := by
  have hout : V.loc (.l σ.l.length) = .out := hR.mem.out _ (blkAt_fresh σ)
  obtain ⟨hlen, hl⟩ := pick_spec h.l
  rw [List.length_map] at hlen
  have hblk : ∀ r k, blkAt σ'.o σ'.l r = some k → blkAt σ.o σ.l (thF θ σ.l.length r) = some (renB (thF θ σ.l.length) k) := fun r k hk => by
    cases r with
    | o j =>
      simp only [blkAt, thF] at hk ⊢
      rw [h.o]; simp [hk]
    | l j =>
      simp only [blkAt, thF] at hk ⊢
      obtain ⟨i, hi, hli⟩ := hl j _ (show (σ'.l.map _)[j]? = some (renB (thF θ σ.l.length) k) by simp [hk])
      rw [List.getD_eq_getElem?_getD, hi]; exact hli
  have hnone : ∀ r, blkAt σ'.o σ'.l r = none → V.loc (thF θ σ.l.length r) = .out := fun r hk => by
    cases r with
    | o j =>
      refine hR.mem.out _ ?_
      simp only [blkAt, thF] at hk ⊢
      rw [h.o]; simpa using hk
    | l j =>
      simp only [blkAt] at hk
      have : θ.length ≤ j := by rw [hlen]; simpa using hk
      simp only [thF, List.getD_eq_getElem?_getD, List.getElem?_eq_none this, Option.getD_none]
      exact hout
  refine ⟨Later.via V _ fun j => rfl, ?_, fun t => ?_, hR.tmps, ?_⟩
  · refine ⟨fun r k hk => (hR.mem.blk _ _ (hblk r k hk)).via, fun r hk => hnone r hk, fun r r' b x y x' y' h1 h2 => ?_, fun r b x y h1 => hR.mem.own _ b x y h1, hR.mem.lt, fun g cs hg => ?_⟩
    · have e := hR.mem.inj _ _ b x y x' y' h1 h2
      cases r with
      | o j =>
        cases r' with
        | o j' => exact e
        | l j' => simp [thF] at e
      | l j =>
        cases r' with
        | o j' => simp [thF] at e
        | l j' =>
          simp only [thF, Ref.l.injEq] at e
          have lt : ∀ j, V.loc (.l (θ.getD j σ.l.length)) ≠ .out → j < θ.length := fun j hj => by
            rcases Nat.lt_or_ge j θ.length with h' | h'
            · exact h'
            · rw [List.getD_eq_getElem?_getD, List.getElem?_eq_none h', Option.getD_none] at hj
              exact absurd hout hj
          have l1 := lt j (by simp only [View.via, thF] at h1; rw [h1]; simp)
          have l2 := lt j' (by simp only [View.via, thF] at h2; rw [h2]; simp)
          rw [List.getD_eq_getElem?_getD, List.getD_eq_getElem?_getD, List.getElem?_eq_getElem l1, List.getElem?_eq_getElem l2] at e
          simp only [Option.getD_some] at e
          have e' : θ[j]? = θ[j']? := by rw [List.getElem?_eq_getElem l1, List.getElem?_eq_getElem l2]; exact congrArg some e
          have e2 := (List.getElem?_inj l1 h.nd).1 e'
          subst e2; rfl
    · exact hR.mem.glob g cs hg
  · rcases envOk_gt h.env t with e | e
    · rw [e]; exact .any
    · have := hR.env t
      rw [e] at this
      exact this.via _ rfl
  · have : ∀ (ps qs : List PDef) (ds : List Deferred), qs = ps.map (renD (thF θ σ.l.length)) → DefRel V qs ds → DefRel (V.via (thF θ σ.l.length)) ps ds := by
      intro ps
      induction ps with
      | nil => intro qs ds hq hd; subst hq; cases ds <;> exact hd
      | cons p ps ih =>
        intro qs ds hq hd
        subst hq
        cases ds with
        | nil => exact hd
        | cons d ds =>
          obtain ⟨⟨caps, args, h1, h2, h3⟩, h4⟩ := hd
          have conv : ∀ (xs : List PVal) (vs : Array Value), ListRep V (renL (thF θ σ.l.length) xs) vs → ListRep (V.via (thF θ σ.l.length)) xs vs := fun xs vs hx => by
            rw [renL_map] at hx
            exact ⟨by simpa using hx.1, fun j x hj => (hx.2 j (ren (thF θ σ.l.length) x) (by simp [hj])).via x rfl⟩
          exact ⟨⟨caps, args, h1, conv _ _ h2, conv _ _ h3⟩, ih _ ds rfl h4⟩
    exact this _ _ _ h.d hR.defers

theorem WC.conv {c : Code} {σ σ' : St} {Q : AEx → St → Prop} (θ : List Nat) (hc : Conv σ σ' θ) (h : WC C n c σ' Q) : WC C n c σ Q := fun V a hR => by
  obtain ⟨h1, h2⟩ := hR.conv hc
  have h3 := h (V.via (thF θ σ.l.length)) a h2
  exact wp_mono h3 fun _ _ _ ⟨V', σ'', x, k1, k2, k3, k4, k5⟩ => ⟨V', σ'', x, k1, h1.trans k2, k3, k4, k5⟩

/-! ### loops -/
theorem WC.loop {X : Type} (I : X → St) (P : X → Prop) (μ : X → Nat) {c : Code} {σ : St} {Q : AEx → St → Prop} (x0 : X) (θ0 : List Nat) (h0 : P x0) (hc : Conv σ (I x0) θ0)
    (round : ∀ x, P x → WC C n c (I x) (thenQ (fun σ' => ∃ x' θ, P x' ∧ μ x' < μ x ∧ Conv σ' (I x') θ) Q)) : WC C n (.loop c) σ Q := fun V0 a0 hR0 => by
  intro b k cs
  have key : ∀ (m : Nat) (x : X) (V : View) (a : Act), μ x = m → P x → Later V0 V → Rel C n V (I x) a →
      ∃ e a' w', Post C n V0 Q e a' w' ∧ Arrives C.P (lone (b.at a (.code c :: .inLoop c :: k)) cs V.w) b k cs e a' w' := by
    intro m
    induction m using Nat.strongRecOn with
    | _ m ih =>
      intro x V a hm hP hl hR
      obtain ⟨e, a₁, w₁, ⟨V', σ', ax, h1, h2, h3, h4, h5⟩, harr⟩ := round x hP V a hR b (.inLoop c :: k) cs
      subst h1
      have out : ∀ ax', ax' ≠ .normal → ExRel V' ax' e → Q ax' σ' → ∃ e a' w', Post C n V0 Q e a' w' ∧ Arrives C.P (lone (b.at a (.code c :: .inLoop c :: k)) cs V.w) b k cs e a' w' := fun ax' hne hx hq => by
        refine ⟨e, a₁, V'.w, ⟨V', σ', ax', rfl, hl.trans h2, h3, hx, hq⟩, .pass (x := .inLoop c) rfl (fun _ _ => .inl ?_) harr⟩
        intro he; subst he
        cases ax' <;> first | exact hx.elim | exact hne rfl
      cases ax with
      | normal =>
        cases e <;> first | exact h4.elim | skip
        obtain ⟨x', θ, hP', hlt, hcv⟩ := h5
        obtain ⟨l1, r1⟩ := h3.conv hcv
        obtain ⟨e₂, a₂, w₂, hq₂, harr₂⟩ := ih (μ x') (hm ▸ hlt) x' _ a₁ rfl hP' ((hl.trans h2).trans l1) r1
        exact ⟨e₂, a₂, w₂, hq₂, .of_steps (Steps.trans harr (.one step_inLoop)) harr₂⟩
      | exit id => exact out _ (by simp) h4 h5
      | ret => exact out _ (by simp) h4 h5
      | pan p => exact out _ (by simp) h4 h5
  obtain ⟨l0, r0⟩ := hR0.conv hc
  obtain ⟨e, a', w', hq, harr⟩ := key _ x0 _ a0 rfl h0 l0 r0
  exact ⟨e, a', w', hq, .of_steps (.one step_loop) harr⟩

/-! ### a function -/
def argEnv : Nat → List PVal → Env
  | _, [] => []
  | i, p :: ps => (i, p) :: argEnv (i + 1) ps
theorem gt_argEnv : ∀ (ps : List PVal) (i t : Nat), gt (argEnv i ps) t = if i ≤ t then ps.getD (t - i) .any else .any
  | [], i, t => by simp [argEnv, gt]
  | p :: ps, i, t => by
    simp only [argEnv, gt]
    cases hb : Nat.beq i t with
    | true =>
      obtain rfl := Nat.eq_of_beq_eq_true hb
      simp
    | false =>
      have hne : i ≠ t := fun e => by subst e; simp at hb
      rw [cond_false, gt_argEnv ps (i + 1) t]
      by_cases h : i ≤ t
      · rw [if_pos (by omega), if_pos h, show t - i = (t - (i + 1)) + 1 by omega]; simp
      · rw [if_neg (by omega), if_neg h]

/-- The results, out of their slots. -/
def wResL (C : Ctx) (σ : St) : List ResultVar → List PVal → (List PVal → Prop) → Prop
  | [], acc, K => K acc.reverse
  | .tmp t :: r, acc, K => wResL C σ r (gt σ.e t :: acc) K
  | .cell t ty :: r, acc, K => wLoad C ty (gt σ.e t) σ fun q => wResL C σ r (q :: acc) K
def tup : List PVal → PVal
  | [p] => p
  | ps => .tuple ps

def resOne (tmps : Array Value) : ResultVar → Sem Value
  | .tmp t => pure (tmps.getD t undef)
  | .cell a t => do loadVar t (← asAddr (tmps.getD a undef))

theorem wResL_sound {V : View} {σ : St} {a : Act} (hR : Rel C n V σ a) : ∀ (rs : List ResultVar) (acc : List PVal) (vacc : List Value) (K : List PVal → Prop), vacc.length = acc.length → (∀ (j : Nat) (p : PVal), acc[j]? = some p → Rep V p (vacc.getD j undef)) → wResL C σ rs acc K →
    ∃ vs ps, (rs.mapM (resOne a.tmps)).run C.P V.w = .ok vs V.w ∧ K ps ∧ ps.length = (vacc.reverse ++ vs).length ∧ ∀ (j : Nat) (p : PVal), ps[j]? = some p → Rep V p ((vacc.reverse ++ vs).getD j undef)
  | [], acc, vacc, K, hl, hr, h => by
    refine ⟨[], acc.reverse, rfl, h, by simp [hl], fun j p hj => ?_⟩
    have hlt : j < acc.length := by simpa using (List.getElem?_eq_some_iff.1 hj).1
    rw [List.getElem?_reverse hlt] at hj
    have := hr _ p hj
    rw [List.getD_eq_getElem?_getD] at this ⊢
    rw [List.append_nil, List.getElem?_reverse (by omega), hl]
    exact this
  | .tmp t :: r, acc, vacc, K, hl, hr, h => by
    obtain ⟨vs, ps, h1, h2, h3, h4⟩ := wResL_sound hR r (gt σ.e t :: acc) (a.tmps.getD t undef :: vacc) K (by simp [hl]) (fun j p hj => by
      cases j with
      | zero => simp at hj; subst hj; simpa using hR.env t
      | succ j => simp at hj; simpa using hr j p hj) h
    refine ⟨a.tmps.getD t undef :: vs, ps, ?_, h2, by simpa using h3, fun j p hj => by simpa using h4 j p hj⟩
    rw [List.mapM_cons]
    simp only [resOne, Sem.run_bind, Sem.run_pure, Result.andThen_ok, h1]
  | .cell c ty :: r, acc, vacc, K, hl, hr, h => by
    obtain ⟨u, q, hu, hq, hK⟩ := wLoad_sound hR.mem (hR.env c) h
    obtain ⟨vs, ps, h1, h2, h3, h4⟩ := wResL_sound hR r (q :: acc) (u :: vacc) K (by simp [hl]) (fun j p hj => by
      cases j with
      | zero => simp at hj; subst hj; simpa using hq
      | succ j => simp at hj; simpa using hr j p hj) hK
    refine ⟨u :: vs, ps, ?_, h2, by simpa using h3, fun j p hj => by simpa using h4 j p hj⟩
    have hsame : ((do loadVar ty (← asAddr (a.tmps.getD c undef))) : Sem Value).run C.P V.w = .ok u V.w := by
      unfold Instr.loadAt Instr.sureAddr at hu
      generalize a.tmps.getD c undef = v at hu
      cases v with
      | pointer p =>
        cases p with
        | none => simp at hu
        | some a => simpa [asAddr] using hu
      | _ => simp at hu
    rw [List.mapM_cons]
    simp only [Sem.run_bind]
    rw [show (resOne a.tmps (.cell c ty)).run C.P V.w = .ok u V.w from hsame]
    simp only [Result.andThen_ok, h1, Sem.run_pure]

/-- Whom a block name is to the caller: the handed blocks stay; of the function's own those of θ are handed out. -/
def fEnd (m len : Nat) (θ : List Nat) : Ref → Ref
  | .o j => if j < m then .o j else .l (θ.getD (j - m) len)
  | .l _ => .l len
/-- The result p, with the blocks of σ, as the caller sees them. -/
def EndsIn (σ : St) (p : PVal) (R : PVal → List Blk → Prop) : Prop :=
  ∃ (θ : List Nat) (p' : PVal) (st' : List Blk), θ.Nodup ∧ (∀ j ∈ θ, j < σ.l.length) ∧ st'.length = σ.o.length + θ.length ∧ p = ren (fEnd σ.o.length σ.l.length θ) p' ∧
    (∀ (j : Nat) (k : Blk), st'[j]? = some k → blkAt σ.o σ.l (fEnd σ.o.length σ.l.length θ (.o j)) = some (renB (fEnd σ.o.length σ.l.length θ) k)) ∧ R p' st'

def ClosedB (k : Blk) : Prop := ∀ f, renB f k = k
/-- Nothing of the function's own goes out. -/
theorem EndsIn.plain {σ : St} {p : PVal} {R : PVal → List Blk → Prop} (hp : Closed p) (ho : ∀ k ∈ σ.o, ClosedB k) (h : R p σ.o) : EndsIn σ p R :=
  ⟨[], p, σ.o, List.nodup_nil, by simp, by simp, (hp _).symm, fun j k hk => by
    have hj : j < σ.o.length := (List.getElem?_eq_some_iff.1 hk).1
    rw [fEnd, if_pos hj, ho k (List.mem_of_getElem? hk) _]; exact hk, h⟩

theorem endsIn_view {V : View} {σ : St} {a : Act} (hR : Rel C n V σ a) {p : PVal} {R : PVal → List Blk → Prop} (h : EndsIn σ p R) :
    ∃ V' p' st', V'.w = V.w ∧ Later V V' ∧ MemRel C V' (blkAt st' []) ∧ (∀ v, Rep V p v → Rep V' p' v) ∧ R p' st' ∧ (∀ b, V'.own b = V.own b) ∧ ∀ j, V.loc (.o j) ≠ .out → V'.loc (.o j) = V.loc (.o j) := by
  obtain ⟨θ, p', st', hnd, hlt, hlen, rfl, hblk, hr⟩ := h
  have hout : V.loc (.l σ.l.length) = .out := hR.mem.out _ (blkAt_fresh σ)
  have holt : ∀ j, V.loc (.o j) ≠ .out → j < σ.o.length := fun j hj => by
    rcases Nat.lt_or_ge j σ.o.length with h' | h'
    · exact h'
    · exact absurd (hR.mem.out (.o j) (by simp [blkAt, h'])) hj
  refine ⟨V.via (fEnd σ.o.length σ.l.length θ), p', st', rfl, ?_, ?_, fun v hv => hv.via _ rfl, hr, fun _ => rfl, fun j hj => by simp only [View.via, fEnd, if_pos (holt j hj)]⟩
  · exact ⟨Nat.le_refl _, fun _ _ _ => rfl, fun _ _ h => h, fun _ _ h _ => h, fun r b x y _ h => ⟨_, x, y, h⟩, fun j hj => .inl (by simp only [View.via, fEnd, if_pos (holt j hj)]), fun _ _ _ _ _ _ _ _ h => h, rfl, rfl, rfl⟩
  · have hl : ∀ j, (V.via (fEnd σ.o.length σ.l.length θ)).loc (.l j) = .out := fun j => hout
    have hge : ∀ j, σ.o.length + θ.length ≤ j → (V.via (fEnd σ.o.length σ.l.length θ)).loc (.o j) = .out := fun j hj => by
      simp only [View.via, fEnd]
      rw [if_neg (by omega), List.getD_eq_getElem?_getD, List.getElem?_eq_none (by omega)]
      exact hout
    refine ⟨fun r k hk => ?_, fun r hk => ?_, fun r r' b x y x' y' h1 h2 => ?_, fun r b x y h1 => hR.mem.own _ b x y h1, hR.mem.lt, hR.mem.glob⟩
    · cases r with
      | o j => exact (hR.mem.blk _ _ (hblk j k hk)).via
      | l j => simp [blkAt] at hk
    · cases r with
      | o j => exact hge j (by simp only [blkAt] at hk; rw [← hlen]; simpa using hk)
      | l j => exact hl j
    · have e := hR.mem.inj _ _ b x y x' y' h1 h2
      cases r with
      | l j => rw [hl j] at h1; cases h1
      | o j =>
        cases r' with
        | l j' => rw [hl j'] at h2; cases h2
        | o j' =>
          have l1 : j < σ.o.length + θ.length := by
            rcases Nat.lt_or_ge j (σ.o.length + θ.length) with h' | h'
            · exact h'
            · rw [hge j h'] at h1; cases h1
          have l2 : j' < σ.o.length + θ.length := by
            rcases Nat.lt_or_ge j' (σ.o.length + θ.length) with h' | h'
            · exact h'
            · rw [hge j' h'] at h2; cases h2
          simp only [fEnd] at e
          by_cases c1 : j < σ.o.length
          · by_cases c2 : j' < σ.o.length
            · rw [if_pos c1, if_pos c2] at e; exact e
            · rw [if_pos c1, if_neg c2] at e; cases e
          · by_cases c2 : j' < σ.o.length
            · rw [if_neg c1, if_pos c2] at e; cases e
            · rw [if_neg c1, if_neg c2] at e
              simp only [Ref.l.injEq, List.getD_eq_getElem?_getD] at e
              rw [List.getElem?_eq_getElem (by omega), List.getElem?_eq_getElem (by omega)] at e
              have e' : θ[j - σ.o.length]? = θ[j' - σ.o.length]? := by rw [List.getElem?_eq_getElem (by omega), List.getElem?_eq_getElem (by omega)]; exact congrArg some e
              have := (List.getElem?_inj (by omega) hnd).1 e'
              rw [show j = j' by omega]

/-- What is met at a function's end. -/
def FnQ (C : Ctx) (fn : Func) (R : PRes → List Blk → Prop) : AEx → St → Prop
  | .normal, σ | .ret, σ => σ.d = [] ∧ wResL C σ fn.results.toList [] fun ps => EndsIn σ (tup ps) fun p st => R (.ret p) st
  | .pan p, σ => σ.d = [] ∧ EndsIn σ p fun p st => R (.pan p) st
  | .exit _, _ => False

theorem FSem.enter {f : FuncId} {fn : Func} {c : Code} {args : List PVal} {st : List Blk} {R : PRes → List Blk → Prop} (hf : C.P.funcs[f]? = some fn) (hb : fn.body = some c) (hok : okF C.P f = true)
    (ha : args.length ≤ fn.ntmps) (h : WC C fn.ntmps c ⟨argEnv 0 args, st, [], []⟩ (FnQ C fn R)) : FSem C f args st R := by
  refine ⟨hok, fun V vs hM hvs => calls_of_wp hf hb ?_⟩
  have hsz : vs.size = args.length := hvs.1
  have hR : Rel C fn.ntmps V ⟨argEnv 0 args, st, [], []⟩ { tmps := vs ++ Array.replicate (fn.ntmps - vs.size) undef, defers := [] } := by
    refine ⟨hM, fun t => ?_, by simp; omega, trivial⟩
    rw [gt_argEnv, if_pos (Nat.zero_le _), Nat.sub_zero, List.getD_eq_getElem?_getD]
    cases hq : args[t]? with
    | none => exact .any
    | some p =>
      have hlt : t < args.length := (List.getElem?_eq_some_iff.1 hq).1
      have := hvs.2 t p hq
      rw [Array.getD_eq_getD_getElem?] at this ⊢
      rw [Array.getElem?_append_left (by omega)]
      exact this
  have hTo : ∀ (V' V'' : View) (σ' : St) (a' : Act), Later V V' → Rel C fn.ntmps V' σ' a' → True := fun _ _ _ _ _ _ => trivial
  refine wp_mono (h V _ hR) fun e a' w' ⟨V', σ', x, h1, h2, h3, h4, h5⟩ => ?_
  subst h1
  have to : ∀ V'' : View, V''.w = V'.w → Later V' V'' → (∀ j, V'.loc (.o j) ≠ .out → V''.loc (.o j) = V'.loc (.o j)) → V.To V'' := fun V'' hw hl hlo => by
    have hl2 := h2.trans hl
    refine ⟨hl2.size, fun b hb hno => hl2.heap b hb fun r x y hr => hno (hM.own r b x y hr), hl2.own, fun r hr => ?_, fun r b base size hr he ty m hs => ?_⟩
    · cases r with
      | o j => exact hl2.loc j hr
      | l j => exact absurd (hM.out (.l j) (by simp [blkAt])) hr
    · cases r with
      | o j => exact hl2.shape j b base size hr he ty m hs
      | l j => rw [hM.out (.l j) (by simp [blkAt])] at hr; cases hr
  have fin : σ'.d = [] ∧ wResL C σ' fn.results.toList [] (fun ps => EndsIn σ' (tup ps) fun p st => R (.ret p) st) →
      a'.defers = [] ∧ ∃ v, (results fn a'.tmps).run C.P V'.w = .ok v V'.w ∧ ∃ V'' st' r, V''.w = V'.w ∧ V.To V'' ∧ Later V V'' ∧ MemRel C V'' (blkAt st' []) ∧ EndRel V'' r (.returned v) ∧ R r st' := fun ⟨hd, hres⟩ => by
    constructor
    · have := h3.defers
      rw [hd] at this
      cases hdd : a'.defers with
      | nil => rfl
      | cons => rw [hdd] at this; exact this.elim
    · obtain ⟨rvs, ps, k1, k2, k3, k4⟩ := wResL_sound h3 fn.results.toList [] [] _ rfl (fun j p hj => by simp at hj) hres
      simp only [List.reverse_nil, List.nil_append] at k3 k4
      obtain ⟨V'', p', st', e1, e2, e3, e4, e5, e6, e7⟩ := endsIn_view h3 k2
      have hrun : (results fn a'.tmps).run C.P V'.w = .ok (if h : rvs.length = 1 then rvs[0] else .tuple rvs.toArray) V'.w := by
        have e : results fn a'.tmps = (do
            let vs ← fn.results.mapM (resOne a'.tmps)
            pure (if h : vs.size = 1 then vs[0] else .tuple vs)) := rfl
        rw [e, Array.mapM_eq_mapM_toList]
        simp [k1]
      refine ⟨_, hrun, V'', st', .ret p', e1, to V'' e1 e2 e7, h2.trans e2, e3, e4 _ ?_, e5⟩
      clear hres k2 e4 hrun
      by_cases h1 : rvs.length = 1
      · rw [dif_pos h1]
        obtain ⟨p, rfl⟩ : ∃ p, ps = [p] := by
          match ps, k3 with
          | [p], _ => exact ⟨p, rfl⟩
          | [], k3 => simp at k3; omega
          | _ :: _ :: _, k3 => simp at k3; omega
        have := k4 0 p rfl
        rw [List.getD_eq_getElem?_getD, List.getElem?_eq_getElem (by omega)] at this
        exact this
      · rw [dif_neg h1]
        have : tup ps = .tuple ps := by
          match ps, k3 with
          | [p], k3 => simp at k3; omega
          | [], _ => rfl
          | _ :: _ :: _, _ => rfl
        rw [this]
        refine .tuple (by simpa using k3.symm) fun j p hj => ?_
        have := k4 j p hj
        rw [List.getD_eq_getElem?_getD] at this
        rw [Array.getD_eq_getD_getElem?]
        simpa using this
  cases x with
  | normal => cases e <;> first | exact h4.elim | exact fin h5
  | ret => cases e <;> first | exact h4.elim | exact fin h5
  | exit id => exact h5.elim
  | pan p =>
    cases e <;> first | exact h4.elim | skip
    rename_i chain
    obtain ⟨v, rfl, hv⟩ := h4
    obtain ⟨hd, hend⟩ := h5
    obtain ⟨V'', p', st', e1, e2, e3, e4, e5, e6, e7⟩ := endsIn_view h3 hend
    refine ⟨?_, V'', st', .pan p', e1, to V'' e1 e2 e7, h2.trans e2, e3, ⟨v, rfl, e4 v hv⟩, e5⟩
    have := h3.defers
    rw [hd] at this
    cases hdd : a'.defers with
    | nil => rfl
    | cons => rw [hdd] at this; exact this.elim

theorem FSem.enter' {f : FuncId} {fn : Func} {c : Code} {n : Nat} {args : List PVal} {st : List Blk} {R : PRes → List Blk → Prop} (hf : C.P.funcs[f]? = some fn) (hb : fn.body = some c) (hn : fn.ntmps = n) (hok : okF C.P f = true)
    (ha : args.length ≤ n) (h : WC C n c ⟨argEnv 0 args, st, [], []⟩ (FnQ C fn R)) : FSem C f args st R := by
  subst hn; exact FSem.enter hf hb hok ha h
end Go.V
