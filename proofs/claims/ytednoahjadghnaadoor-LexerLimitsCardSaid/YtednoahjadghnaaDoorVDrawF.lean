/-
  Regions that draw their order: the rule.
-/
import Derived.Test.YtednoahjadghnaaDoorVDrawE
namespace Go.V
open Go

variable {C : Ctx} {n : Nat} {ops : Array Oper} {fl : Nat → Nat} {wt : Nat → Nat → Bool}

theorem gd_sound {V : View} {σ : St} {a : Act} (hR : Rel C n V σ a) {o : Oper} {A B : Prop} (h : gd ops.toList o σ.e A B) {X Y Z : Prop} (hA : A → X) (hB : B → Z) :
    if Region.wanted o (yielded ops a.tmps) = true then X ∨ Y else Z := by
  unfold gd at h
  have dst : ∀ j q, yld ops.toList σ.e j = q → (∃ d, (ops[j]?).bind (·.dst) = some d ∧ gt σ.e d = q) ∨ q = .any := fun j q hy => by
    unfold yld at hy
    split at hy
    · rename_i o' ho'
      have : ops[j]? = some o' := by simpa using ho'
      split at hy
      · rename_i d hd
        exact .inl ⟨d, by simp [this, hd], hy⟩
      · exact .inr hy.symm
    · exact .inr hy.symm
  split at h
  · rename_i hg
    have hw : Region.wanted o (yielded ops a.tmps) = true := by unfold Region.wanted; simp [hg]
    rw [if_pos hw]
    exact .inl (hA h)
  · rename_i j want hg
    split at h
    · rename_i b hy
      rcases dst j _ hy with ⟨d, hdd, hd⟩ | hn
      · have hr := hR.env d
        rw [hd] at hr
        generalize hv : a.tmps.getD d undef = v at hr
        cases hr
        rw [wanted_of o ops a.tmps j want hg d b hdd hv]
        by_cases e : b = want
        · subst e
          rw [if_pos (by simp)]
          exact .inl (hA (h.1 rfl))
        · rw [if_neg (by simpa using e)]
          exact hB (h.2 (by cases b <;> cases want <;> simp_all))
      · cases hn
    · rename_i hy
      rcases dst j _ hy with ⟨d, hdd, hd⟩ | hn
      · have hr := hR.env d
        rw [hd] at hr
        generalize hv : a.tmps.getD d undef = v at hr
        cases hr with
        | @tuple ps vs hl _ =>
          obtain rfl : vs = #[] := Array.eq_empty_of_size_eq_zero hl
          rw [wanted_und o ops a.tmps j want hg d hdd hv, if_neg (by simp)]
          exact hB h
      · cases hn
    · exact h.elim

theorem qOp_sound {V : View} {σ : St} {a : Act} (hR : Rel C n V σ a) {o : Oper} {z : Nat} {p : PVal} (h : qOp C z o.op σ p) {next : Act → World → Prop} {Q : Exit → Act → World → Prop}
    (hn : ∀ V' v, Went C V σ V' σ → Rep V' p v → next (a.put o.dst v) V'.w) : o.wp C.P a V.w next Q := by
  unfold qOp at h
  split at h
  · have loud : ∀ {s : Sem Value}, execOp a.eval o = (do pure (.value (← s))) → (∃ V' q u, s.run C.P V.w = .ok u V'.w ∧ Went C V σ V' σ ∧ Rep V' q u ∧ q = p) → o.wp C.P a V.w next Q := fun {s} he ⟨V', q, u, hr, hw, hq, hk⟩ =>
      wp_value (by rw [he, Sem.run_bind, hr]; rfl) (hn V' u hw (hk ▸ hq))
    unfold wOpZ at h
    split at h
    · rename_i hop
      exact loud (by unfold execOp; rw [hop]) (wBuildSliceZ_sound hR h)
    · rename_i hop
      exact loud (by unfold execOp; rw [hop]) (wBoxZ_sound hR.mem (val_rep hR _) h)
    · exact h.elim
  · exact wOp_sound hR h ⟨fun V' σ' q v hw hq ⟨h1, h2⟩ => by subst h1 h2; exact hn V' v hw hq, fun V' σ' q v hw hq hh => hh.elim⟩

theorem wAny_sound {Q : AEx → St → Prop} {V0 : View} : ∀ (f : Nat) (pd : List Pd) (listed : Array Bool) (V : View) (σ : St) (a : Act), Later V0 V → Rel C n V σ a →
    wAny C n ops fl wt (Q .normal) (fun p σ => Q (.pan p) σ) f pd listed σ → wpAny C.P .any ops (Post C n V0 Q) f listed a V.w := by
  have fin : ∀ (V : View) (σ : St) (a : Act), Later V0 V → Rel C n V σ a → endK (Q .normal) σ → Post C n V0 Q .normal a V.w := fun V σ a hl hR ⟨e, h1, h2⟩ =>
    ⟨V, ⟨e, σ.o, σ.l, σ.d⟩, .normal, rfl, hl, ⟨hR.mem, fun t => by show Rep V (gt e t) _; rw [h1]; exact hR.env t, hR.tmps, hR.defers⟩, trivial, h2⟩
  intro f
  induction f with
  | zero => exact fun pd listed V σ a hl hR h => ⟨h.1, fin V σ a hl hR h.2⟩
  | succ f ih =>
    intro pd listed V σ a hl hR h
    refine ⟨fun h0 => fin V σ a hl hR (h.1 h0), fun i hi => ?_⟩
    have h1 := h.2 i hi
    unfold anyOp at h1
    unfold wpOp
    split
    · rename_i ho
      simp only [ho] at h1
      exact ih _ _ V σ a hl hR h1
    · rename_i o ho
      simp only [ho] at h1
      split at h1
      · rw [wStep_gd] at h1
        refine gd_sound hR h1 (fun h => ?_) (fun h => ih _ _ V _ _ hl (rel_put hR (rep_und V) o.dst) h.2)
        refine wOp_sound hR h ⟨fun V' σ' p v hw hp hK => ih _ _ V' _ _ (hl.trans hw.later) (rel_put (hw.rel hR) hp o.dst) hK.2, fun V' σ' p v hw hp hK => ?_⟩
        exact ⟨V', ⟨σ'.e, σ'.o, σ'.l, σ'.d⟩, .pan p, rfl, hl.trans hw.later, hw.rel hR, ⟨v, rfl, hp⟩, hK σ'.e⟩
      · obtain ⟨p, h2, h3⟩ := h1
        refine gd_sound hR h2 (fun h => ?_) (fun h => ?_)
        · exact qOp_sound hR h fun V' v hw hp => ih _ _ V' _ _ (hl.trans hw.later) (rel_put (hw.rel hR) hp o.dst) h3
        · subst h; exact ih _ _ V _ _ hl (rel_put hR (rep_und V) o.dst) h3

/-! ### the plan -/
/-- Operation i: how it is taken (0 quiet, 1 loud, 2 a literal that nobody writes, else a quiet call), whether its value is asked for again, and (of a loud one) whose values are asked for again behind it. -/
structure Pl where
  i : Nat
  z : Nat
  keep : Bool
  need : List Nat

def hasN : List Nat → Nat → Bool
  | [], _ => false
  | a :: r, k => if a = k then true else hasN r k
theorem hasN_nil (k : Nat) : hasN [] k = false := rfl
theorem hasN_cons (a : Nat) (r : List Nat) (k : Nat) : hasN (a :: r) k = if a = k then true else hasN r k := rfl

def obl (C : Ctx) (all : List Oper) (need : List Nat) : List Pd → St → Prop
  | [], _ => True
  | x :: r, σ => (hasN need x.k = true → x.ok C all σ) ∧ obl C all need r σ
theorem obl_spec {all : List Oper} {need : List Nat} : ∀ {pd : List Pd} {σ : St}, obl C all need pd σ → ∀ x ∈ pd, hasN need x.k = true → x.ok C all σ
  | [], _, _, x, hx, _ => by cases hx
  | y :: r, σ, h, x, hx, hn => by
    rcases List.mem_cons.1 hx with rfl | hx
    · exact h.1 hn
    · exact obl_spec h.2 x hx hn

def planOf (all : List Oper) : List Pl → List (Pl × Oper)
  | [] => []
  | x :: r => match all[x.i]? with
    | some o => (x, o) :: planOf all r
    | none => []

def keepIf : Bool → Pd → List Pd → List Pd
  | true, x, r => x :: r
  | false, _, r => r

def wDr (C : Ctx) (n : Nat) (all : List Oper) (K : St → Prop) (KP : PVal → St → Prop) : List (Pl × Oper) → List Pd → St → Prop
  | [], _, σ => K σ
  | (x, o) :: r, pd, σ => match x.z with
    | 0 => wStep C all o σ (fun p τ => wDr C n all K KP r (keepIf x.keep ⟨x.i, 0, o, σ.e, p⟩ pd) (τ.put n o.dst p)) (fun _ _ => False)
    | 1 => wStep C all o σ (fun p τ => obl C all x.need pd τ ∧ wDr C n all K KP r pd (τ.put n o.dst p)) (fun p τ => ∀ e, KP p ⟨e, τ.o, τ.l, τ.d⟩)
    | z => ∃ p, qSt C all z o σ p ∧ wDr C n all K KP r (keepIf x.keep ⟨x.i, z, o, σ.e, p⟩ pd) (σ.put n o.dst p)

def bitB (rows : List Nat) (j k : Nat) : Bool := (rows.getD j 0).testBit k
def planB (ops : Array Oper) (fl : Nat → Nat) (rows : List Nat) : List Pl → Array Bool → List (Nat × Bool) → Bool
  | [], listed, _ => (Region.ready .any ops listed).isEmpty
  | x :: r, listed, done => fl x.i == x.z && match ops[x.i]? with
    | none => false
    | some o => match x.z with
      | 1 => (Region.ready .any ops listed == [x.i]) && done.all (fun d => bitB rows x.i d.1 || (d.2 && hasN x.need d.1)) && planB ops fl rows r (listed.setIfInBounds x.i true) done
      | z => (z != 0 || plainOp o.op) && (Region.ready .any ops listed).contains x.i && Region.free .any ops listed x.i && planB ops fl rows r (listed.setIfInBounds x.i true) ((x.i, x.keep) :: done)

def flOf (plan : List Pl) (i : Nat) : Nat := ((plan.find? fun x => x.i == i).map (·.z)).getD 0
/-- 'rows' are right: whoever waits for k waits for it itself, or for one who does. -/
def rowsB (ops : Array Oper) (rows : List Nat) : Bool :=
  (List.range rows.length).all fun j => (List.range (ops.size + 1)).all fun k => !bitB rows j k || match ops[j]? with
    | some o => o.after.any fun e => Region.binds .any e && (e.on == k || bitB rows e.on k)
    | none => false
def hiB (ops : Array Oper) (rows : List Nat) : Bool := rows.all fun r => r < 2 ^ (ops.size + 1)
def drawB (ops : Array Oper) (plan : List Pl) (rows : List Nat) : Bool :=
  plan.length == ops.size && rowsB ops rows && hiB ops rows && planB ops (flOf plan) rows plan (Array.replicate ops.size false) []

theorem rows_spec {rows : List Nat} (h : rowsB ops rows = true) (h' : hiB ops rows = true) (j k : Nat) (hb : bitB rows j k = true) :
    ∃ oj, ops[j]? = some oj ∧ ∃ x ∈ oj.after, Region.binds .any x = true ∧ (x.on = k ∨ bitB rows x.on k = true) := by
  have hj : j < rows.length := by
    rcases Nat.lt_or_ge j rows.length with h | h
    · exact h
    · unfold bitB at hb
      rw [List.getD_eq_getElem?_getD, List.getElem?_eq_none h] at hb
      simp at hb
  have hk : k < ops.size + 1 := by
    rcases Nat.lt_or_ge k (ops.size + 1) with hk | hk
    · exact hk
    · exfalso
      have h1 := List.all_eq_true.1 h' (rows.getD j 0) (by
        rw [List.getD_eq_getElem?_getD, List.getElem?_eq_getElem hj]; exact List.getElem_mem _)
      have h2 : rows.getD j 0 < 2 ^ k := Nat.lt_of_lt_of_le (by simpa using h1) (Nat.pow_le_pow_right (by omega) hk)
      unfold bitB at hb
      rw [Nat.testBit_lt_two_pow h2] at hb
      cases hb
  have h1 := List.all_eq_true.1 (List.all_eq_true.1 h j (List.mem_range.2 hj)) k (List.mem_range.2 hk)
  rw [hb] at h1
  simp only [Bool.not_true, Bool.false_or] at h1
  split at h1
  · rename_i o ho
    obtain ⟨e, he, hb'⟩ := Array.any_eq_true'.1 h1
    simp only [Bool.and_eq_true, Bool.or_eq_true, beq_iff_eq] at hb'
    exact ⟨o, ho, e, he, hb'.1, hb'.2⟩
  · cases h1

theorem qSt_of_plain {all : List Oper} {o : Oper} {σ : St} {K : PVal → Prop} (hp : plainOp o.op = true) (h : wStep C all o σ (fun p τ => τ = σ → K p) (fun _ _ => False)) : ∃ p, qSt C all 0 o σ p ∧ K p := by
  rw [wStep_gd] at h
  unfold qSt gd at *
  cases hg : o.guard with
  | none =>
    rw [hg] at h
    obtain ⟨p, h1, h2⟩ := wOp_det hp h
    exact ⟨p, h1, h2 rfl⟩
  | some g =>
    obtain ⟨j, want⟩ := g
    rw [hg] at h
    dsimp only at h ⊢
    split at h
    · rename_i b hb
      by_cases e : b = want
      · obtain ⟨p, h1, h2⟩ := wOp_det hp (h.1 e)
        exact ⟨p, ⟨fun _ => h1, fun hn => by subst e; cases b <;> cases hn⟩, h2 rfl⟩
      · exact ⟨.tuple [], ⟨fun he => absurd he e, fun _ => rfl⟩, h.2 (by cases b <;> cases want <;> simp_all) rfl⟩
    · exact ⟨.tuple [], rfl, h rfl⟩
    · exact h.elim

theorem wStep_same {all : List Oper} {o : Oper} {σ : St} {K : PVal → St → Prop} (hp : plainOp o.op = true) (h : wStep C all o σ K (fun _ _ => False)) : ∃ p, qSt C all 0 o σ p ∧ K p σ :=
  qSt_of_plain hp (wStep_mono (fun _ _ hk e => e ▸ hk) (fun _ _ h => h) h)

theorem wAny_plan {rows : List Nat} (hr : rowsB ops rows = true) (hr' : hiB ops rows = true) {K : St → Prop} {KP : PVal → St → Prop} : ∀ (plan : List Pl) (listed : Array Bool) (done : List (Nat × Bool)) (pd pk : List Pd) (σ : St),
    (∀ j k, listed.getD j false = true → bitB rows j k = true → listed.getD k false = true) →
    (∀ x ∈ pd, ∃ kp, (x.k, kp) ∈ done ∧ (kp = true → x ∈ pk)) → planB ops fl rows plan listed done = true → wDr C n ops.toList K KP (planOf ops.toList plan) pk σ → wAny C n ops fl (bitB rows) K KP plan.length pd listed σ
  | [], listed, done, pd, pk, σ, _, _, hB, h => ⟨by simpa [planB] using hB, σ.e, fun _ => rfl, h⟩
  | x :: r, listed, done, pd, pk, σ, hcl, hpd, hB, h => by
    unfold planB at hB
    simp only [Bool.and_eq_true, beq_iff_eq] at hB
    obtain ⟨hf, hB⟩ := hB
    split at hB
    · cases hB
    · rename_i o ho
      have ho' : ops.toList[x.i]? = some o := by simpa using ho
      unfold planOf at h
      rw [ho'] at h
      dsimp only at h
      have hclr : x.i ∈ Region.ready .any ops listed → ∀ j k, (listed.setIfInBounds x.i true).getD j false = true → bitB rows j k = true → (listed.setIfInBounds x.i true).getD k false = true := fun hx j k h hk => by
        refine getD_set_true ?_
        by_cases hj : x.i = j
        · subst hj
          obtain ⟨_, o2, ho2, hall⟩ := mem_ready.1 hx
          obtain ⟨o3, ho3, e, he, hb, hh⟩ := rows_spec hr hr' _ _ hk
          have : o3 = o2 := Option.some.inj (ho3.symm.trans ho2)
          subst this
          have h2 := hall e he hb
          rcases hh with rfl | hh
          · exact h2
          · exact hcl _ _ h2 hh
        · rw [getD_set_ne false hj] at h; exact hcl _ _ h hk
      unfold wDr at h
      have quiet : ∀ p, fl x.i ≠ 1 → x.i ∈ Region.ready .any ops listed → Region.free .any ops listed x.i = true → planB ops fl rows r (listed.setIfInBounds x.i true) ((x.i, x.keep) :: done) = true →
          qSt C ops.toList (fl x.i) o σ p → wDr C n ops.toList K KP (planOf ops.toList r) (keepIf x.keep ⟨x.i, fl x.i, o, σ.e, p⟩ pk) (σ.put n o.dst p) →
          wAny C n ops fl (bitB rows) K KP (r.length + 1) pd listed σ := fun p hne hrd hfree hB hq hK => by
        refine wAny_first ho hne (rows_spec hr hr') r.length pd listed σ hcl (Region.free_spec ho hfree) hrd hq (wAny_plan hr hr' r _ _ _ _ _ (hclr hrd) ?_ hB hK)
        intro y hy
        rcases List.mem_cons.1 hy with rfl | hy
        · refine ⟨x.keep, List.mem_cons_self, fun hk => ?_⟩
          rw [hk]; exact List.mem_cons_self
        · obtain ⟨kp, h1, h2⟩ := hpd y hy
          refine ⟨kp, List.mem_cons_of_mem _ h1, fun hk => ?_⟩
          cases x.keep
          · exact h2 hk
          · exact List.mem_cons_of_mem _ (h2 hk)
      split at hB
      · rename_i hz
        simp only [Bool.and_eq_true, beq_iff_eq] at hB
        obtain ⟨⟨h1, h2⟩, h3⟩ := hB
        have hmem : x.i ∈ Region.ready .any ops listed := by rw [h1]; exact List.mem_singleton.2 rfl
        rw [hz] at h hf
        refine ⟨fun h0 => (by rw [h1] at h0; cases h0), fun i hi => ?_⟩
        rw [h1] at hi
        have : i = x.i := List.mem_singleton.1 hi
        subst this
        unfold anyOp
        simp only [ho, hf, if_true]
        refine wStep_mono (fun p τ hk => ⟨fun y hy hw => ?_, wAny_plan hr hr' r _ _ _ _ _ (hclr hmem) hpd h3 hk.2⟩) (fun _ _ h => h) h
        obtain ⟨kp, hd, hin⟩ := hpd y hy
        have h4 := List.all_eq_true.1 h2 _ hd
        rw [hw] at h4
        simp only [Bool.false_or, Bool.and_eq_true] at h4
        exact obl_spec hk.1 y (hin h4.1) h4.2
      · rename_i hz
        simp only [Bool.and_eq_true, Bool.or_eq_true] at hB
        obtain ⟨⟨⟨h0, h1⟩, h2⟩, h3⟩ := hB
        have hmem : x.i ∈ Region.ready .any ops listed := by simpa using h1
        split at h
        · rename_i hz0
          have hp : plainOp o.op = true := by
            rcases h0 with h0 | h0
            · rw [hz0] at h0; simp at h0
            · exact h0
          obtain ⟨p, hq, hK⟩ := wStep_same hp h
          rw [hz0] at hf
          exact quiet p (by rw [hf]; decide) hmem h2 h3 (by rw [hf]; exact hq) (by rw [hf]; exact hK)
        · rename_i hz1
          exact absurd hz1 hz
        · obtain ⟨p, hq, hK⟩ := h
          exact quiet p (by rw [hf]; exact hz) hmem h2 h3 (by rw [hf]; exact hq) (by rw [hf]; exact hK)

theorem Rel.drew {V : View} {σ : St} {a : Act} (h : Rel C n V σ a) : Rel C n V.drew σ a :=
  Went.rel ⟨V.to_drew, V.later_drew, h.mem.drew, rfl, rfl⟩ h

/-- THE RULE: a region that draws its order, walked by a plan. -/
theorem WC.draw {id : Nat} {l : List Oper} {σ : St} {Q : AEx → St → Prop} (plan : List Pl) (rows : List Nat) (hm : C.P.follows .mixedOrders = true) (hB : drawB l.toArray plan rows = true)
    (h : wDr C n l (Q .normal) (fun p σ => Q (.pan p) σ) (planOf l plan) [] σ) : WC C n (.region id l.toArray true) σ Q := fun V a hR => by
  unfold drawB at hB
  simp only [Bool.and_eq_true, beq_iff_eq] at hB
  obtain ⟨⟨⟨h1, h2⟩, h3⟩, h4⟩ := hB
  refine wp_region_any hm ?_
  rw [← h1]
  refine wAny_sound (V0 := V) (fl := flOf plan) (wt := bitB rows) plan.length [] _ V.drew σ a V.later_drew hR.drew ?_
  exact wAny_plan h2 h3 plan _ [] [] [] σ (fun j k hj => by rw [show (Array.replicate plan.length false).getD j false = false from by rcases Nat.lt_or_ge j plan.length with h | h <;> simp [h]] at hj; cases hj) (fun x hx => by cases hx) (by rw [h1]; exact h4) h
end Go.V
