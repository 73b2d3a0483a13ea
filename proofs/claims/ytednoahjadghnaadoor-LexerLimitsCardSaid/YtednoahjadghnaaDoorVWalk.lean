/-
  Rows of operations, control, functions, calls.
-/
import Derived.Test.YtednoahjadghnaaDoorVCode
namespace Go.V
open Go

variable {C : Ctx} {n : Nat}

/-! ### a row of operations -/
def put (n : Nat) (d : Option Nat) (p : PVal) (e : Env) : Env :=
  match d with
  | some d => bif Nat.blt d n then (d, p) :: e else e
  | none => e
def St.put (σ : St) (n : Nat) (d : Option Nat) (p : PVal) : St := { σ with e := V.put n d p σ.e }
def St.env (σ : St) (e : Env) : St := { σ with e := e }

def yld (ops : List Oper) (e : Env) (j : Nat) : PVal :=
  match ops[j]? with
  | some o => match o.dst with
    | some d => gt e d
    | none => .any
  | none => .any

/-- One operation, with its guard. -/
def wStep (C : Ctx) (all : List Oper) (o : Oper) (σ : St) (K KP : PVal → St → Prop) : Prop :=
  match o.guard with
  | none => wOp C o.op σ K KP
  | some (j, want) => match yld all σ.e j with
    | .bool b => (b = want → wOp C o.op σ K KP) ∧ (b = (!want) → K (.tuple []) σ)
    | .tuple [] => K (.tuple []) σ
    | _ => False

def wOps (C : Ctx) (n : Nat) (all : List Oper) : List Oper → St → (St → Prop) → (PVal → St → Prop) → Prop
  | [], σ, K, _ => K σ
  | o :: os, σ, K, KP => wStep C all o σ (fun p σ' => wOps C n all os (σ'.put n o.dst p) K KP) KP

theorem rel_put {V : View} {σ : St} {a : Act} (hR : Rel C n V σ a) {p : PVal} {v : Value} (hp : Rep V p v) (d : Option Nat) : Rel C n V (σ.put n d p) (a.put d v) := by
  cases d with
  | none => exact hR
  | some d =>
    refine ⟨hR.mem, fun t => ?_, ?_, hR.defers⟩
    · simp only [St.put, put, Act.put]
      cases h : Nat.blt d n with
      | false =>
        have hd : ¬ d < a.tmps.size := by rw [hR.tmps]; intro h'; rw [show Nat.blt d n = true from by rw [Nat.blt_eq]; exact h'] at h; cases h
        simp only [cond_false]
        rw [Array.setIfInBounds_eq_of_size_le (by omega)]
        exact hR.env t
      | true =>
        have hd : d < a.tmps.size := by rw [hR.tmps]; rwa [Nat.blt_eq] at h
        simp only [cond_true, gt]
        rw [getD_set _ _ _ _ _ hd]
        by_cases e : d = t
        · subst e; simp [hp]
        · rw [if_neg (Ne.symm e)]
          have : Nat.beq d t = false := by
            cases hb : Nat.beq d t with
            | false => rfl
            | true => exact absurd (Nat.eq_of_beq_eq_true hb) e
          rw [this]; exact hR.env t
    · simp [Act.put, hR.tmps]

theorem Went.rel {V V' : View} {σ σ' : St} {a : Act} (h : Went C V σ V' σ') (hR : Rel C n V σ a) : Rel C n V' σ' a where
  mem := h.mem
  env t := by rw [h.e]; exact (hR.env t).mono h.to
  tmps := hR.tmps
  defers := by
    rw [h.d]
    have : ∀ (ps : List PDef) (ds : List Deferred), DefRel V ps ds → DefRel V' ps ds := by
      intro ps
      induction ps with
      | nil => intro ds h; cases ds <;> exact h
      | cons p ps ih =>
        intro ds hd
        cases ds with
        | nil => exact hd
        | cons d ds =>
          obtain ⟨⟨caps, args, h1, h2, h3⟩, h4⟩ := hd
          exact ⟨⟨caps, args, h1, ⟨h2.1, fun j p hp => (h2.2 j p hp).mono h.to⟩, ⟨h3.1, fun j p hp => (h3.2 j p hp).mono h.to⟩⟩, ih ds h4⟩
    exact this _ _ hR.defers

theorem Went.trans {V V' V'' : View} {σ σ' σ'' : St} (h : Went C V σ V' σ') (k : Went C V' σ' V'' σ'') : Went C V σ V'' σ'' :=
  ⟨h.to.trans k.to, h.later.trans k.later, k.mem, k.e.trans h.e, k.d.trans h.d⟩

inductive AEx where
  | normal
  | exit (id : Nat)
  | ret
  | pan (p : PVal)

def ExRel (V : View) : AEx → Exit → Prop
  | .normal, .normal => True
  | .exit i, .exit j => i = j
  | .ret, .ret => True
  | .pan p, .panic chain => ∃ v, chain = [{ v, recovered := false }] ∧ Rep V p v
  | _, _ => False

/-- What is met at the end of a piece of code. -/
def Post (C : Ctx) (n : Nat) (V : View) (Q : AEx → St → Prop) (e : Exit) (a' : Act) (w' : World) : Prop :=
  ∃ V' σ' x, V'.w = w' ∧ Later V V' ∧ Rel C n V' σ' a' ∧ ExRel V' x e ∧ Q x σ'

theorem wanted_of (o : Oper) (ops : Array Oper) (tmps : Array Value) (j : Nat) (want : Bool) (hg : o.guard = some (j, want)) (d : Nat) (b : Bool)
    (hd : (ops[j]?).bind (·.dst) = some d) (hb : tmps.getD d undef = .bool b) : Region.wanted o (yielded ops tmps) = (b == want) := by
  have h : tmps[d]? = some (.bool b) := by
    rw [Array.getD_eq_getD_getElem?] at hb
    cases h : tmps[d]? with
    | none => rw [h] at hb; cases hb
    | some v => rw [h] at hb; simpa using hb
  unfold Region.wanted yielded
  simp [hg, hd, h]

theorem rep_und (V : View) : Rep V (.tuple []) undef := .tuple rfl (fun j c hc => by simp at hc)
theorem wanted_und (o : Oper) (ops : Array Oper) (tmps : Array Value) (j : Nat) (want : Bool) (hg : o.guard = some (j, want)) (d : Nat)
    (hd : (ops[j]?).bind (·.dst) = some d) (hb : tmps.getD d undef = .tuple #[]) : Region.wanted o (yielded ops tmps) = false := by
  unfold Region.wanted yielded
  simp only [hg, hd]
  rw [Array.getD_eq_getD_getElem?] at hb
  cases h : tmps[d]? with
  | none => simp [h]
  | some v =>
    rw [h] at hb
    simp at hb
    subst hb
    simp [h]

theorem wOps_sound {ops : Array Oper} {Q : AEx → St → Prop} {V0 : View} : ∀ (os : List Oper) (k : Nat) (V : View) (σ : St) (a : Act), (∀ j, os[j]? = ops[k + j]?) → Later V0 V → Rel C n V σ a →
    wOps C n ops.toList os σ (Q .normal) (fun p σ' => Q (.pan p) σ') → wpOps C.P ops (Post C n V0 Q) (List.range' k os.length) a V.w
  | [], k, V, σ, a, _, hl, hR, h => ⟨V, σ, .normal, rfl, hl, hR, trivial, h⟩
  | o :: os, k, V, σ, a, hk, hl, hR, h => by
    have hko : ops[k]? = some o := by simpa using (hk 0).symm
    have hos : ∀ j, os[j]? = ops[k + 1 + j]? := fun j => by
      have := hk (j + 1)
      rw [show k + (j + 1) = k + 1 + j by omega] at this
      simpa using this
    simp only [List.length_cons, List.range'_succ, wpOps, hko]
    have go : wOp C o.op σ (fun p σ' => wOps C n ops.toList os (σ'.put n o.dst p) (Q .normal) (fun p σ' => Q (.pan p) σ')) (fun p σ' => Q (.pan p) σ') →
        o.wp C.P a V.w (wpOps C.P ops (Post C n V0 Q) (List.range' (k + 1) os.length)) (Post C n V0 Q) := fun h => by
      refine wOp_sound hR h ⟨fun V' σ' p v hw hp hK => ?_, fun V' σ' p v hw hp hK => ?_⟩
      · exact wOps_sound os (k + 1) V' _ _ hos (hl.trans hw.later) (rel_put (hw.rel hR) hp o.dst) hK
      · exact ⟨V', σ', .pan p, rfl, hl.trans hw.later, hw.rel hR, ⟨v, rfl, hp⟩, hK⟩
    have skip : wOps C n ops.toList os (σ.put n o.dst (.tuple [])) (Q .normal) (fun p σ' => Q (.pan p) σ') →
        wpOps C.P ops (Post C n V0 Q) (List.range' (k + 1) os.length) (a.put o.dst undef) V.w := fun h =>
      wOps_sound os (k + 1) V _ _ hos hl (rel_put hR (rep_und V) o.dst) h
    simp only [wOps, wStep] at h
    have dst : ∀ j q, yld ops.toList σ.e j = q → (∃ d, (ops[j]?).bind (·.dst) = some d ∧ gt σ.e d = q) ∨ q = .any := fun j q hy => by
      unfold yld at hy
      split at hy
      · rename_i o' ho'
        have : ops[j]? = some o' := by simpa using ho'
        split at hy
        · rename_i d hd
          exact .inl ⟨d, by simp [this, hd], hy⟩
        · exact .inr hy.symm
      · exact .inr hy.symm
    split at h
    · rename_i hg
      have hw : Region.wanted o (yielded ops a.tmps) = true := by unfold Region.wanted; simp [hg]
      rw [if_pos hw]
      exact .inl (go h)
    · rename_i j want hg
      split at h
      · rename_i b hy
        rcases dst j _ hy with ⟨d, hdd, hd⟩ | hn
        · have hr := hR.env d
          rw [hd] at hr
          generalize hv : a.tmps.getD d undef = v at hr
          cases hr
          have hwant := wanted_of o ops a.tmps j want hg d b hdd hv
          rw [hwant]
          by_cases e : b = want
          · subst e
            simp only [beq_self_eq_true, if_true]
            exact .inl (go (h.1 rfl))
          · have : (b == want) = false := by simpa using e
            simp only [this, Bool.false_eq_true, if_false]
            exact skip (h.2 (by cases b <;> cases want <;> simp_all))
        · cases hn
      · rename_i hy
        rcases dst j _ hy with ⟨d, hdd, hd⟩ | hn
        · have hr := hR.env d
          rw [hd] at hr
          generalize hv : a.tmps.getD d undef = v at hr
          cases hr with
          | @tuple ps vs hl _ =>
            obtain rfl : vs = #[] := Array.eq_empty_of_size_eq_zero hl
            rw [wanted_und o ops a.tmps j want hg d hdd hv]
            simp only [Bool.false_eq_true, if_false]
            exact skip h
        · cases hn
      · exact h.elim

/-! ### code -/
def WC (C : Ctx) (n : Nat) (c : Code) (σ : St) (Q : AEx → St → Prop) : Prop :=
  ∀ V a, Rel C n V σ a → c.wp C.P (Post C n V Q) a V.w

theorem WC.mono {c : Code} {σ : St} {Q Q' : AEx → St → Prop} (h : WC C n c σ Q) (hq : ∀ x σ, Q x σ → Q' x σ) : WC C n c σ Q' := fun V a hR =>
  wp_mono (h V a hR) fun _ _ _ ⟨V', σ', x, h1, h2, h3, h4, h5⟩ => ⟨V', σ', x, h1, h2, h3, h4, hq _ _ h5⟩

theorem WC.region {id : Nat} {ops : Array Oper} {σ : St} {Q : AEx → St → Prop} (h : wOps C n ops.toList ops.toList σ (Q .normal) (fun p σ' => Q (.pan p) σ')) : WC C n (.region id ops false) σ Q := fun V a hR => by
  refine wp_region ?_
  rw [List.range_eq_range']
  have := wOps_sound (V0 := V) ops.toList 0 V σ a (by simp) (Later.refl V) hR h
  simpa using this

theorem WC.skip {σ : St} {Q : AEx → St → Prop} (h : Q .normal σ) : WC C n .skip σ Q := fun V _ hR => wp_skip ⟨V, σ, .normal, rfl, Later.refl V, hR, trivial, h⟩
theorem WC.ret {σ : St} {Q : AEx → St → Prop} (h : Q .ret σ) : WC C n .ret σ Q := fun V _ hR => wp_ret ⟨V, σ, .ret, rfl, Later.refl V, hR, trivial, h⟩
theorem WC.exit {id : Nat} {σ : St} {Q : AEx → St → Prop} (h : Q (.exit id) σ) : WC C n (.exit id) σ Q := fun V _ hR => wp_exit ⟨V, σ, .exit id, rfl, Later.refl V, hR, rfl, h⟩

/-- Behind a piece of code: where it goes on, 'next'. -/
def thenQ (next : St → Prop) (Q : AEx → St → Prop) : AEx → St → Prop
  | .normal, σ => next σ
  | x, σ => Q x σ
theorem WC.seq {x y : Code} {σ : St} {Q : AEx → St → Prop} (h : WC C n x σ (thenQ (fun σ' => WC C n y σ' Q) Q)) : WC C n (.seq x y) σ Q := fun V a hR => by
  refine wp_seq (wp_mono (h V a hR) fun e a' w' ⟨V', σ', ax, h1, h2, h3, h4, h5⟩ => ?_)
  subst h1
  cases ax with
  | normal =>
    cases e <;> first | exact h4.elim | skip
    refine wp_mono (h5 V' a' h3) fun e2 a2 w2 ⟨V2, σ2, x2, k1, k2, k3, k4, k5⟩ => ⟨V2, σ2, x2, k1, h2.trans k2, k3, k4, k5⟩
  | exit id => cases e <;> first | exact h4.elim | exact ⟨V', σ', _, rfl, h2, h3, h4, h5⟩
  | ret => cases e <;> first | exact h4.elim | exact ⟨V', σ', _, rfl, h2, h3, h4, h5⟩
  | pan p => cases e <;> first | exact h4.elim | exact ⟨V', σ', _, rfl, h2, h3, h4, h5⟩

theorem WC.cond {c : Operand} {x y : Code} {σ : St} {Q : AEx → St → Prop} {b : Bool} (hc : val σ.e c = .bool b) (ht : b = true → WC C n x σ Q) (hf : b = false → WC C n y σ Q) : WC C n (.cond c x y) σ Q := fun V a hR => by
  have hr := val_rep hR c
  rw [hc] at hr
  generalize hv : a.eval c = v at hr
  cases hr
  exact wp_cond_split hv (fun h => ht h V a hR) (fun h => hf h V a hR)

def inBlockQ (id : Nat) (Q : AEx → St → Prop) : AEx → St → Prop
  | .exit i, σ => (i = id → Q .normal σ) ∧ (i ≠ id → Q (.exit i) σ)
  | x, σ => Q x σ
theorem WC.block {id : Nat} {c : Code} {σ : St} {Q : AEx → St → Prop} (h : WC C n c σ (inBlockQ id Q)) : WC C n (.block id c) σ Q := fun V a hR => by
  refine wp_block (wp_mono (h V a hR) fun e a' w' ⟨V', σ', ax, h1, h2, h3, h4, h5⟩ => ?_)
  cases ax with
  | normal => cases e <;> first | exact h4.elim | exact ⟨V', σ', _, h1, h2, h3, h4, h5⟩
  | exit i =>
    cases e <;> first | exact h4.elim | skip
    obtain rfl : i = _ := h4
    unfold Exit.inBlock
    by_cases hi : i = id
    · simp only [hi, if_true]
      exact ⟨V', σ', .normal, h1, h2, h3, trivial, h5.1 hi⟩
    · simp only [hi, if_false]
      exact ⟨V', σ', .exit i, h1, h2, h3, rfl, h5.2 hi⟩
  | ret => cases e <;> first | exact h4.elim | exact ⟨V', σ', _, h1, h2, h3, h4, h5⟩
  | pan p => cases e <;> first | exact h4.elim | exact ⟨V', σ', _, h1, h2, h3, h4, h5⟩
end Go.V
