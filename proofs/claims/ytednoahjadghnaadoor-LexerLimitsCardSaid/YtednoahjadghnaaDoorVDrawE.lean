/-
  Regions that draw their order: the exchange of operations, and the walk of a plan.
-/
import Derived.Test.YtednoahjadghnaaDoorVDrawD
namespace Go.V
open Go

variable {C : Ctx} {n : Nat} {ops : Array Oper}

/-! ### guards -/
def gd (all : List Oper) (o : Oper) (e : Env) (A B : Prop) : Prop :=
  match o.guard with
  | none => A
  | some (j, want) => match yld all e j with
    | .bool b => (b = want → A) ∧ (b = (!want) → B)
    | .tuple [] => B
    | _ => False
theorem wStep_gd {all : List Oper} {o : Oper} {σ : St} {K KP : PVal → St → Prop} : wStep C all o σ K KP = gd all o σ.e (wOp C o.op σ K KP) (K (.tuple []) σ) := by
  unfold wStep gd
  cases o.guard with
  | none => rfl
  | some g =>
    obtain ⟨j, want⟩ := g
    dsimp only
    cases yld all σ.e j with
    | tuple ps => cases ps <;> rfl
    | _ => rfl
theorem gd_mono {all : List Oper} {o : Oper} {e : Env} {A A' B B' : Prop} (hA : A → A') (hB : B → B') (h : gd all o e A B) : gd all o e A' B' := by
  unfold gd at h ⊢
  split at h
  · exact hA h
  · split at h
    · exact ⟨fun x => hA (h.1 x), fun x => hB (h.2 x)⟩
    · exact hB h
    · exact h
theorem operand_looks {o : Oper} {t : Tmp} (h : Operand.tmp t ∈ o.op.operands.toList) : t ∈ o.looksAt ops := by
  unfold Oper.looksAt
  exact List.mem_append_left _ (List.mem_filterMap.2 ⟨.tmp t, h, rfl⟩)
theorem gd_agree {o : Oper} {e e' : Env} (ha : ∀ t ∈ o.looksAt ops, gt e t = gt e' t) (A B : Prop) : gd ops.toList o e' A B = gd ops.toList o e A B := by
  unfold gd
  split
  · rfl
  · rename_i j want hg
    have : yld ops.toList e' j = yld ops.toList e j := by
      unfold yld
      split
      · rename_i o' ho'
        split
        · rename_i d hd
          refine (ha d ?_).symm
          unfold Oper.looksAt
          refine List.mem_append_right _ ?_
          have h2 : ops[j]? = some o' := by simpa using ho'
          simp [hg, h2, hd]
        · rfl
      · rfl
    rw [this]

/-! ### quiet steps -/
def wOpZ (C : Ctx) (op : Op) (σ : St) (K : PVal → Prop) : Prop :=
  match op with
  | .buildSlice t m ps => wBuildSliceZ C t m ps σ K
  | .box e x => wBoxZ e (val σ.e x) K
  | _ => False
def qOp (C : Ctx) (z : Nat) (op : Op) (σ : St) (p : PVal) : Prop :=
  match z with
  | 2 => wOpZ C op σ (· = p)
  | _ => wOp C op σ (fun q τ => q = p ∧ τ = σ) (fun _ _ => False)
def qSt (C : Ctx) (all : List Oper) (z : Nat) (o : Oper) (σ : St) (p : PVal) : Prop := gd all o σ.e (qOp C z o.op σ p) (p = .tuple [])

theorem qOp_env {z : Nat} {op : Op} {e e' : Env} {b l : List Blk} {d : List PDef} {p : PVal} (ha : ∀ t, .tmp t ∈ op.operands.toList → gt e t = gt e' t) (h : qOp C z op ⟨e, b, l, d⟩ p) : qOp C z op ⟨e', b, l, d⟩ p := by
  unfold qOp at h ⊢
  split at h
  · unfold wOpZ at h ⊢
    split at h
    · rw [wBuildSliceZ_agree (fun t ht => ha t (by simpa [Op.operands] using ht))]; exact h
    · rename_i x
      dsimp only at h ⊢
      rw [val_agree (e := e) (e' := e') (fun t ht => ha t (by subst ht; simp [Op.operands]))]
      exact h
    · exact h
  · refine wOp_mono (fun q τ hq => ?_) (fun q τ hq => hq.2.2) (wOp_env ha h)
    obtain ⟨h1, h2, h3, h4⟩ := hq
    refine ⟨h3, ?_⟩
    cases τ; simp_all
theorem qSt_env {z : Nat} {o : Oper} {e e' : Env} {b l : List Blk} {d : List PDef} {p : PVal} (ha : ∀ t ∈ o.looksAt ops, gt e t = gt e' t) (h : qSt C ops.toList z o ⟨e, b, l, d⟩ p) : qSt C ops.toList z o ⟨e', b, l, d⟩ p := by
  unfold qSt at h ⊢
  dsimp only at h ⊢
  rw [gd_agree ha]
  exact gd_mono (fun h => qOp_env (fun t ht => ha t (operand_looks ht)) h) id h
theorem wStep_env {o : Oper} {e e' : Env} {b l : List Blk} {d : List PDef} {K KP : PVal → St → Prop} (ha : ∀ t ∈ o.looksAt ops, gt e t = gt e' t) (h : wStep C ops.toList o ⟨e, b, l, d⟩ K KP) :
    wStep C ops.toList o ⟨e', b, l, d⟩ (kE K e e' d) (kE KP e e' d) := by
  rw [wStep_gd] at h ⊢
  dsimp only at h ⊢
  rw [gd_agree ha]
  exact gd_mono (fun h => wOp_env (fun t ht => ha t (operand_looks ht)) h) (fun h => ⟨rfl, rfl, h⟩) h
theorem wStep_mono {all : List Oper} {o : Oper} {σ : St} {K K' KP KP' : PVal → St → Prop} (hK : ∀ q τ, K q τ → K' q τ) (hP : ∀ q τ, KP q τ → KP' q τ) (h : wStep C all o σ K KP) : wStep C all o σ K' KP' := by
  rw [wStep_gd] at h ⊢
  exact gd_mono (wOp_mono hK hP) (hK _ _) h

/-! ### every order -/
structure Pd where
  k : Nat
  z : Nat
  o : Oper
  e : Env
  p : PVal
def Pd.ok (C : Ctx) (all : List Oper) (x : Pd) (σ : St) : Prop := qSt C all x.z x.o ⟨x.e, σ.o, σ.l, σ.d⟩ x.p
def endK (K : St → Prop) (σ : St) : Prop := ∃ e, (∀ t, gt e t = gt σ.e t) ∧ K ⟨e, σ.o, σ.l, σ.d⟩

def anyOp (C : Ctx) (n : Nat) (ops : Array Oper) (fl : Nat → Nat) (wt : Nat → Nat → Bool) (KP : PVal → St → Prop) (i : Nat) (pd : List Pd) (σ : St) (N : List Pd → St → Prop) : Prop :=
  match ops[i]? with
  | none => N pd σ
  | some o => if fl i = 1 then wStep C ops.toList o σ (fun p τ => (∀ x ∈ pd, wt i x.k = false → x.ok C ops.toList τ) ∧ N pd (τ.put n o.dst p)) (fun p τ => ∀ e, KP p ⟨e, τ.o, τ.l, τ.d⟩)
    else ∃ p, qSt C ops.toList (fl i) o σ p ∧ N (⟨i, fl i, o, σ.e, p⟩ :: pd) (σ.put n o.dst p)

def wAny (C : Ctx) (n : Nat) (ops : Array Oper) (fl : Nat → Nat) (wt : Nat → Nat → Bool) (K : St → Prop) (KP : PVal → St → Prop) : Nat → List Pd → Array Bool → St → Prop
  | 0, _, listed, σ => Region.ready .any ops listed = [] ∧ endK K σ
  | f + 1, pd, listed, σ => (Region.ready .any ops listed = [] → endK K σ) ∧
    ∀ i ∈ Region.ready .any ops listed, anyOp C n ops fl wt KP i pd σ fun pd τ => wAny C n ops fl wt K KP f pd (listed.setIfInBounds i true) τ

variable {fl : Nat → Nat} {wt : Nat → Nat → Bool} {K : St → Prop} {KP : PVal → St → Prop}

theorem gt_put (n : Nat) (d : Option Nat) (p : PVal) (e : Env) (t : Nat) : gt (put n d p e) t = if d = some t ∧ t < n then p else gt e t := by
  cases d with
  | none => simp [put]
  | some d =>
    simp only [put]
    cases h : Nat.blt d n with
    | false =>
      have hd : ¬ d < n := by intro h'; rw [show Nat.blt d n = true from by rw [Nat.blt_eq]; exact h'] at h; cases h
      rw [if_neg (by intro hh; obtain ⟨h1, h2⟩ := hh; simp at h1; omega)]; rfl
    | true =>
      have hd : d < n := by rwa [Nat.blt_eq] at h
      simp only [cond_true, gt]
      by_cases e : d = t
      · subst e; simp [hd]
      · have : Nat.beq d t = false := by
          cases hb : Nat.beq d t with
          | false => rfl
          | true => exact absurd (Nat.eq_of_beq_eq_true hb) e
        rw [this, if_neg (by simp [e])]; rfl

def Eqv (σ τ : St) : Prop := (∀ t, gt σ.e t = gt τ.e t) ∧ τ.o = σ.o ∧ τ.l = σ.l ∧ τ.d = σ.d
def PdLe (C : Ctx) (all : List Oper) (pd pd' : List Pd) : Prop := ∀ x ∈ pd', ∃ y ∈ pd, y.k = x.k ∧ ∀ σ, y.ok C all σ → x.ok C all σ
theorem PdLe.refl {all : List Oper} (pd : List Pd) : PdLe C all pd pd := fun x hx => ⟨x, hx, rfl, fun _ h => h⟩
theorem PdLe.cons {all : List Oper} {pd pd' : List Pd} (h : PdLe C all pd pd') {x y : Pd} (hk : y.k = x.k) (hxy : ∀ σ, y.ok C all σ → x.ok C all σ) : PdLe C all (y :: pd) (x :: pd') := fun z hz => by
  rcases List.mem_cons.1 hz with rfl | hz
  · exact ⟨y, List.mem_cons_self, hk, hxy⟩
  · obtain ⟨w, hw, h1, h2⟩ := h z hz
    exact ⟨w, List.mem_cons_of_mem _ hw, h1, h2⟩

theorem wAny_congr : ∀ (f : Nat) (pd pd' : List Pd) (listed : Array Bool) (σ σ' : St), PdLe C ops.toList pd pd' → Eqv σ σ' → wAny C n ops fl wt K KP f pd listed σ → wAny C n ops fl wt K KP f pd' listed σ'
  | 0, _, _, _, σ, σ', _, he, h => by
    obtain ⟨h1, e, h2, h3⟩ := h
    exact ⟨h1, e, fun t => (h2 t).trans (he.1 t), by rw [he.2.1, he.2.2.1, he.2.2.2]; exact h3⟩
  | f + 1, pd, pd', listed, σ, σ', hp, he, h => by
    have hend : endK K σ → endK K σ' := fun ⟨e, h2, h3⟩ => ⟨e, fun t => (h2 t).trans (he.1 t), by rw [he.2.1, he.2.2.1, he.2.2.2]; exact h3⟩
    refine ⟨fun h0 => hend (h.1 h0), fun i hi => ?_⟩
    have h1 := h.2 i hi
    unfold anyOp at h1 ⊢
    split at h1
    · exact wAny_congr f _ _ _ _ _ hp he h1
    · rename_i o ho
      obtain ⟨e, b, l, d⟩ := σ
      obtain ⟨e', b', l', d'⟩ := σ'
      obtain ⟨g, rfl, rfl, rfl⟩ := he
      dsimp only at g
      split at h1
      · rename_i hfl
        simp only [hfl, if_true]
        refine wStep_mono (fun q τ hq => ?_) (fun q τ hq => ?_) (wStep_env (e' := e') (fun t _ => g t) h1)
        · obtain ⟨q1, q2, q3, q4⟩ := hq
          obtain ⟨te, tb, tl, td⟩ := τ
          dsimp only at q1 q2
          subst q1 q2
          refine ⟨fun x hx hw => ?_, wAny_congr f pd pd' _ (St.put ⟨e, tb, tl, td⟩ n o.dst q) _ hp ⟨fun t => ?_, rfl, rfl, rfl⟩ q4⟩
          · obtain ⟨y, hy, hk, hxy⟩ := hp x hx
            exact hxy _ (q3 y hy (by rw [hk]; exact hw))
          · simp only [St.put, gt_put, g]
        · rw [hq.2.1]; exact hq.2.2
      · rename_i hfl
        simp only [hfl, if_false]
        obtain ⟨p, h2, h3⟩ := h1
        refine ⟨p, qSt_env (fun t _ => g t) h2, wAny_congr f (⟨i, fl i, o, e, p⟩ :: pd) _ _ (St.put ⟨e, b', l', d'⟩ n o.dst p) _ (hp.cons rfl fun τ hy => qSt_env (fun t _ => g t) hy) ⟨fun t => ?_, rfl, rfl, rfl⟩ h3⟩
        simp only [St.put, gt_put, g]

theorem wAny_first {i : Nat} {oi : Oper} {p : PVal} (hi : ops[i]? = some oi) (hfl : fl i ≠ 1)
    (hwt : ∀ j k, wt j k = true → ∃ oj, ops[j]? = some oj ∧ ∃ x ∈ oj.after, Region.binds .any x = true ∧ (x.on = k ∨ wt x.on k = true)) : ∀ (f : Nat) (pd : List Pd) (listed : Array Bool) (σ : St),
      (∀ j k, listed.getD j false = true → wt j k = true → listed.getD k false = true) →
      (∀ j oj, ops[j]? = some oj → j ≠ i → listed.getD j true = false → (∀ e ∈ oj.after, Region.binds .any e = true → e.on ≠ i) → oi.apart ops oj = true) →
      i ∈ Region.ready .any ops listed → qSt C ops.toList (fl i) oi σ p →
      wAny C n ops fl wt K KP f (⟨i, fl i, oi, σ.e, p⟩ :: pd) (listed.setIfInBounds i true) (σ.put n oi.dst p) → wAny C n ops fl wt K KP (f + 1) pd listed σ := by
  have self : ∀ (f : Nat) (pd : List Pd) (listed : Array Bool) (σ : St), qSt C ops.toList (fl i) oi σ p → wAny C n ops fl wt K KP f (⟨i, fl i, oi, σ.e, p⟩ :: pd) (listed.setIfInBounds i true) (σ.put n oi.dst p) →
      anyOp C n ops fl wt KP i pd σ fun pd τ => wAny C n ops fl wt K KP f pd (listed.setIfInBounds i true) τ := fun f pd listed σ hy H => by
    unfold anyOp
    simp only [hi, if_neg hfl]
    exact ⟨p, hy, H⟩
  intro f
  induction f with
  | zero =>
    intro pd listed σ _ _ hr hy H
    refine ⟨fun h => (by rw [h] at hr; cases hr), fun j hj => ?_⟩
    by_cases hji : j = i
    · subst hji; exact self _ _ _ _ hy H
    · have := ready_mono hj hji
      rw [H.1] at this
      cases this
  | succ f ih =>
    intro pd listed σ hcl hfree hr hy H
    refine ⟨fun h => (by rw [h] at hr; cases hr), fun j hj => ?_⟩
    by_cases hji : j = i
    · subst hji; exact self _ _ _ _ hy H
    · have h1 := H.2 j (ready_mono hj hji)
      obtain ⟨hjun, oj, hoj, hall⟩ := mem_ready.1 hj
      have hiun : listed.getD i false = false := by
        have h0 := (mem_ready.1 hr).1
        rcases Nat.lt_or_ge i listed.size with h' | h'
        · simp [h'] at h0 ⊢; exact h0
        · simp [Array.getElem?_eq_none h'] at h0
      have hnot : ∀ e ∈ oj.after, Region.binds .any e = true → e.on ≠ i := fun e he hb heq => by
        have h1 := hall e he hb
        rw [heq, hiun] at h1; cases h1
      have hap := hfree j oj hoj hji hjun hnot
      obtain ⟨a1, a2, a3⟩ := Oper.apart_spec hap
      have hfree' : ∀ k ok, ops[k]? = some ok → k ≠ i → (listed.setIfInBounds j true).getD k true = false →
          (∀ e ∈ ok.after, Region.binds .any e = true → e.on ≠ i) → oi.apart ops ok = true := fun k ok hk hki hun hno => by
        refine hfree k ok hk hki ?_ hno
        by_cases hjk : j = k
        · subst hjk; exact hjun
        · rw [getD_set_ne true hjk] at hun; exact hun
      have hw : ∀ k, wt j k = true → listed.getD k false = true := fun k hk => by
        obtain ⟨oj', hoj', x, hx, hb, hh⟩ := hwt j k hk
        have : oj' = oj := Option.some.inj (hoj'.symm.trans hoj)
        subst this
        have h2 := hall x hx hb
        rcases hh with rfl | hh
        · exact h2
        · exact hcl _ _ h2 hh
      have hcl' : ∀ j' k, (listed.setIfInBounds j true).getD j' false = true → wt j' k = true → (listed.setIfInBounds j true).getD k false = true := fun j' k h hk => by
        refine getD_set_true ?_
        by_cases hjj : j = j'
        · subst hjj; exact hw k hk
        · rw [getD_set_ne false hjj] at h; exact hcl _ _ h hk
      -- what oj looks at is not oi's, and the other way
      have ag1 : ∀ e : Env, ∀ t ∈ oj.looksAt ops, gt (put n oi.dst p e) t = gt e t := fun e t ht => by
        rw [gt_put, if_neg]
        rintro ⟨h1, _⟩
        exact a1 t h1 ht
      have ag2 : ∀ (e : Env) (q : PVal), ∀ t ∈ oi.looksAt ops, gt e t = gt (put n oj.dst q e) t := fun e q t ht => by
        rw [gt_put, if_neg]
        rintro ⟨h1, _⟩
        exact a3 t h1 ht
      have cm : ∀ (e : Env) (q : PVal) (t : Nat), gt (put n oj.dst q (put n oi.dst p e)) t = gt (put n oi.dst p (put n oj.dst q e)) t := fun e q t => by
        simp only [gt_put]
        by_cases h1 : oi.dst = some t ∧ t < n
        · have : ¬ (oj.dst = some t ∧ t < n) := fun h2 => a2 t h1.1 h2.1
          rw [if_neg this, if_pos h1, if_pos h1]
        · rw [if_neg h1, if_neg h1]
      unfold anyOp at h1 ⊢
      simp only [hoj] at h1 ⊢
      rw [show ((listed.setIfInBounds i true).setIfInBounds j true) = ((listed.setIfInBounds j true).setIfInBounds i true) from Array.setIfInBounds_comm _ _ (Ne.symm hji)] at h1
      obtain ⟨e, b, l, d⟩ := σ
      split at h1
      · rename_i hfj
        simp only [hfj, if_true]
        refine wStep_mono (fun q τ hq => ?_) (fun q τ hq => ?_) (wStep_env (e' := e) (ag1 e) h1)
        · obtain ⟨q1, q2, q3, q4⟩ := hq
          obtain ⟨te, tb, tl, td⟩ := τ
          dsimp only at q1 q2
          subst q1 q2
          refine ⟨fun x hx hwx => q3 x (List.mem_cons_of_mem _ hx) hwx, ih pd _ _ hcl' hfree' (ready_mono hr (Ne.symm hji)) ?_ ?_⟩
          · refine qSt_env (ag2 _ q) (q3 _ List.mem_cons_self ?_)
            cases hh : wt j i with
            | false => rfl
            | true => have := hw i hh; rw [hiun] at this; cases this
          · exact wAny_congr f (⟨i, fl i, oi, te, p⟩ :: pd) _ _ ((St.mk (put n oi.dst p te) tb tl td).put n oj.dst q) _ ((PdLe.refl pd).cons rfl fun τ hy => qSt_env (ag2 _ q) hy) ⟨fun t => cm _ q t, rfl, rfl, rfl⟩ q4
        · rw [hq.2.1]; exact hq.2.2
      · rename_i hfj
        simp only [hfj, if_false]
        obtain ⟨q, h2, h3⟩ := h1
        refine ⟨q, qSt_env (ag1 e) h2, ih _ _ _ hcl' hfree' (ready_mono hr (Ne.symm hji)) (qSt_env (ag2 _ q) hy) (wAny_congr f (⟨j, fl j, oj, put n oi.dst p e, q⟩ :: ⟨i, fl i, oi, e, p⟩ :: pd) _ _ (((St.mk e b l d).put n oi.dst p).put n oj.dst q) _ ?_ ⟨fun t => cm _ q t, rfl, rfl, rfl⟩ h3)⟩
        intro x hx
        rcases List.mem_cons.1 hx with rfl | hx
        · exact ⟨_, List.mem_cons_of_mem _ List.mem_cons_self, rfl, fun τ hy => qSt_env (ag2 _ q) hy⟩
        · rcases List.mem_cons.1 hx with rfl | hx
          · exact ⟨_, List.mem_cons_self, rfl, fun τ hy => qSt_env (ag1 e) hy⟩
          · exact ⟨x, List.mem_cons_of_mem _ (List.mem_cons_of_mem _ hx), rfl, fun _ h => h⟩
end Go.V
