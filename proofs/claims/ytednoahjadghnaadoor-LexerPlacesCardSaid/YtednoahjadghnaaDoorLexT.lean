import Derived.Test.YtednoahjadghnaaDoorLexQ
set_option linter.unusedSimpArgs false
set_option linter.unusedVariables false
namespace Go.LexSem
open Go Go.V Go.Proofs

/-! The tokens of a text, read off what is left of it: the plain law of blanks and of places. -/
def iv (x : UInt8) : Int := (x.toNat : Int)
theorem gb_cons {s : List UInt8} {a : Nat} {x : UInt8} {r : List UInt8} (h : s.drop a = x :: r) : a < s.length ∧ gb s a = iv x ∧ s.drop (a + 1) = r := by
  have hlt : a < s.length := by
    rcases Nat.lt_or_ge a s.length with h' | h'
    · exact h'
    · rw [List.drop_eq_nil_of_le h'] at h; cases h
  rw [List.drop_eq_getElem_cons hlt] at h
  simp only [List.cons.injEq] at h
  refine ⟨hlt, ?_, h.2⟩
  simp [gb, iv, List.getD_eq_getElem?_getD, hlt, h.1]
theorem take_tw {α : Type} (p : α → Bool) : ∀ l : List α, l.take (l.takeWhile p).length = l.takeWhile p
  | [] => rfl
  | x :: l => by
    rw [List.takeWhile_cons]
    split
    · rw [List.length_cons, List.take_succ_cons, take_tw p l]
    · rfl
theorem tw_append {α : Type} (p : α → Bool) {u r : List α} (hu : ∀ x ∈ u, p x = true) (hr : ∀ x r', r = x :: r' → p x = false) : (u ++ r).takeWhile p = u := by
  induction u with
  | nil =>
    cases r with
    | nil => rfl
    | cons x r => rw [List.nil_append, List.takeWhile_cons, if_neg (by simp [hr x r rfl])]
  | cons y u ih =>
    rw [List.cons_append, List.takeWhile_cons, if_pos (hu y (by simp)), ih fun x hx => hu x (List.mem_cons_of_mem _ hx)]
theorem tw_all {α : Type} (p : α → Bool) : ∀ (l : List α) (x : α), x ∈ l.takeWhile p → p x = true
  | [], x, h => by simp at h
  | y :: l, x, h => by
    rw [List.takeWhile_cons] at h
    split at h
    · rename_i hy
      rcases List.mem_cons.1 h with rfl | h
      · exact hy
      · exact tw_all p l x h
    · simp at h
def twI (p : Int → Bool) (d : List UInt8) : List UInt8 := d.takeWhile fun x => p (iv x)
theorem runTo_tw (p : Int → Bool) (s : List UInt8) : ∀ f t, s.length - t ≤ f → t ≤ s.length → runTo p s f t = t + (twI p (s.drop t)).length
  | 0, t, hf, ht => by
    rw [List.drop_eq_nil_of_le (by omega)]; rfl
  | f + 1, t, hf, ht => by
    unfold runTo
    cases hd : s.drop t with
    | nil =>
      have : s.length ≤ t := by simpa using hd
      rw [if_neg (by omega)]; rfl
    | cons x r =>
      obtain ⟨h1, h2, h3⟩ := gb_cons hd
      unfold twI
      rw [List.takeWhile_cons, h2]
      by_cases hp : p (iv x) = true
      · rw [if_pos ⟨h1, hp⟩, if_pos hp, runTo_tw p s f (t + 1) (by omega) (by omega), h3, List.length_cons]
        unfold twI; omega
      · rw [if_neg (fun h => hp h.2), if_neg hp]; rfl
theorem runAt_tw (p : Int → Bool) {s : List UInt8} {a : Nat} (h : a ≤ s.length) : runAt p s a = twI p (s.drop a) := by
  rw [runAt, runTo_tw p s _ a (by omega) h, Nat.add_sub_cancel_left]
  exact take_tw _ _

/-- The token at the front. -/
def tokS (d : List UInt8) : Nat × List UInt8 × Nat :=
  match d with
  | [] => (0, [], 4)
  | x :: _ =>
    if wordI false (iv x) = true then
      if twI (wordI true) d ∈ kws then (3, twI (wordI true) d, 0) else if 12 < (twI (wordI true) d).length then (0, [], 9) else (1, twI (wordI true) d, 0)
    else if digitI (iv x) = true then if 60 < (twI digitI d).length then (0, [], 9) else (2, twI digitI d, 0)
    else match signAt d sgs with
      | some x => (4, x, 0)
      | none => (0, [], 4)
theorem tokenF_S {s : List UInt8} {a : Nat} (ha : a < s.length) : tokenF s a = tokS (s.drop a) := by
  have hd := List.drop_eq_getElem_cons ha
  obtain ⟨_, h2, _⟩ := gb_cons hd
  unfold tokenF tokS
  rw [runAt_tw _ (Nat.le_of_lt ha), runAt_tw _ (Nat.le_of_lt ha), h2, hd]
  rfl

theorem signAt_some : ∀ {l : List (List UInt8)} {d t : List UInt8}, signAt d l = some t → t ∈ l ∧ t.length ≤ d.length ∧ d.take t.length = t
  | [], _, _, h => by cases h
  | x :: r, d, t, h => by
    unfold signAt at h
    split at h
    · rename_i hc; cases h; exact ⟨by simp, hc.1, hc.2⟩
    · obtain ⟨h1, h2, h3⟩ := signAt_some h
      exact ⟨List.mem_cons_of_mem _ h1, h2, h3⟩
theorem sgs_all : ∀ t ∈ sgs, 0 < t.length ∧ t.length ≤ 2 ∧ ∀ x ∈ t, wordI true (iv x) = false ∧ blankI (iv x) = false ∧ ¬ iv x = 35 := by decide

theorem wordI_of (x : Int) (h : wordI false x = true) : wordI true x = true := by
  simp only [wordI, Bool.false_and, Bool.or_false, Bool.true_and] at h ⊢
  revert h; cases decide (x = 95) <;> cases (decide (97 ≤ x) && decide (x ≤ 122)) <;> cases (decide (65 ≤ x) && decide (x ≤ 90)) <;> simp
/-- A token stands at the front, is not empty, and is short where it is none of the signs. -/
theorem tokS_front {d : List UInt8} (h : (tokS d).2.2 = 0) : 0 < (tokS d).2.1.length ∧ ∃ r, d = (tokS d).2.1 ++ r := by
  unfold tokS at h ⊢
  cases d with
  | nil => cases h
  | cons x r =>
    dsimp only at h ⊢
    have tw : ∀ p : Int → Bool, p (iv x) = true → 0 < (twI p (x :: r)).length ∧ ∃ r', x :: r = twI p (x :: r) ++ r' := fun p hp => by
      refine ⟨?_, (x :: r).dropWhile (fun y => p (iv y)), (List.takeWhile_append_dropWhile).symm⟩
      unfold twI; rw [List.takeWhile_cons, if_pos hp]; simp
    by_cases hw : wordI false (iv x) = true
    · simp only [if_pos hw] at h ⊢
      by_cases hk : twI (wordI true) (x :: r) ∈ kws
      · simp only [if_pos hk]; exact tw _ (wordI_of _ hw)
      · simp only [if_neg hk] at h ⊢
        by_cases hl : 12 < (twI (wordI true) (x :: r)).length
        · simp only [if_pos hl] at h; cases h
        · simp only [if_neg hl]; exact tw _ (wordI_of _ hw)
    · simp only [if_neg hw] at h ⊢
      by_cases hg : digitI (iv x) = true
      · simp only [if_pos hg] at h ⊢
        by_cases hl : 60 < (twI digitI (x :: r)).length
        · simp only [if_pos hl] at h; cases h
        · simp only [if_neg hl]; exact tw _ hg
      · simp only [if_neg hg] at h ⊢
        cases hs : signAt (x :: r) sgs with
        | none => rw [hs] at h; cases h
        | some t =>
          dsimp only
          obtain ⟨h1, h2, h3⟩ := signAt_some hs
          refine ⟨(sgs_all t h1).1, (x :: r).drop t.length, ?_⟩
          conv => rhs; lhs; rw [← h3]
          exact (List.take_append_drop _ _).symm

/-! ### the tokens, read off what is left -/
def lexD (d : List UInt8) : Option (List (Nat × List UInt8)) :=
  match hd : d with
  | [] => some []
  | x :: r =>
    if blankI (iv x) = true then lexD r
    else if iv x = 35 then lexD (r.dropWhile fun y => notNl (iv y))
    else if (tokS (x :: r)).2.2 = 0 then (lexD (r.drop ((tokS (x :: r)).2.1.length - 1))).map (((tokS (x :: r)).1, (tokS (x :: r)).2.1) :: ·)
    else none
termination_by d.length
decreasing_by
  · simp
  · have := (List.dropWhile_suffix (l := r) fun y => notNl (iv y)).length_le; simp; omega
  · simp; omega

def proj (t : Tok) : Nat × List UInt8 := (t.1, t.2.1)
theorem drop_add' {s : List UInt8} {a n : Nat} {u r : List UInt8} (h : s.drop a = u ++ r) (hn : u.length = n) : s.drop (a + n) = r := by
  rw [← List.drop_drop, h, ← hn, List.drop_left]
/-- The tokens with their places, and the tokens without. -/
theorem lexF_D (s : List UInt8) : ∀ k a l c acc, s.length - a = k → a ≤ s.length →
    match lexD (s.drop a) with
    | some ks => ∃ us l' c', us.map proj = ks ∧ lexF s a l c acc = (acc ++ us ++ [(5, [], l', c')], (0, 0), 0)
    | none => (lexF s a l c acc).2.2 ≠ 0 := by
  intro k
  induction k using Nat.strongRecOn with
  | _ k ih =>
    intro a l c acc hk ha
    cases hd : s.drop a with
    | nil =>
      have hge : s.length ≤ a := by simpa using hd
      unfold lexD lexF
      rw [dif_neg (by omega)]
      exact ⟨[], l, c, rfl, by simp⟩
    | cons x r =>
      obtain ⟨h1, h2, h3⟩ := gb_cons hd
      unfold lexD lexF
      rw [dif_pos h1, h2]
      by_cases hb : blankI (iv x) = true
      · rw [if_pos hb, if_pos hb]
        have := ih (s.length - (a + 1)) (by omega) (a + 1) (adv s 1 (a, l, c)).2.1 (adv s 1 (a, l, c)).2.2 acc rfl (by omega)
        rw [h3] at this
        exact this
      · rw [if_neg hb, if_neg hb]
        by_cases hc : iv x = 35
        · rw [if_pos hc, if_pos hc]
          have hr : runAt notNl s a = twI notNl (x :: r) := by rw [runAt_tw _ (Nat.le_of_lt h1), hd]
          have hx : twI notNl (x :: r) = x :: twI notNl r := by unfold twI; rw [List.takeWhile_cons, if_pos (by rw [hc]; rfl)]
          have hlen : (runAt notNl s a).length = (twI notNl r).length + 1 := by rw [hr, hx]; rfl
          have hsp : s.drop a = (x :: twI notNl r) ++ r.dropWhile (fun y => notNl (iv y)) := by
            rw [hd]; unfold twI; rw [List.cons_append, List.takeWhile_append_dropWhile]
          have hdr := drop_add' hsp rfl
          have hle : a + (twI notNl r).length + 1 ≤ s.length := by
            have := congrArg List.length hsp
            simp at this; omega
          have hmax : max (a + 1) (adv s (runAt notNl s a).length (a, l, c)).1 = a + ((twI notNl r).length + 1) := by rw [adv_at, hlen]; omega
          rw [hmax]
          have := ih (s.length - (a + ((twI notNl r).length + 1))) (by omega) (a + ((twI notNl r).length + 1)) (adv s (runAt notNl s a).length (a, l, c)).2.1 (adv s (runAt notNl s a).length (a, l, c)).2.2 acc rfl (by omega)
          rw [List.length_cons] at hdr
          rw [hdr] at this
          exact this
        · rw [if_neg hc, if_neg hc]
          have ht := tokenF_S h1
          rw [hd] at ht
          rw [ht]
          by_cases he : (tokS (x :: r)).2.2 = 0
          · rw [if_pos he, if_pos he]
            obtain ⟨hp, r', hr'⟩ := tokS_front he
            generalize htk : tokS (x :: r) = tk at *
            obtain ⟨kd, t, er⟩ := tk
            dsimp only at *
            have hdr : s.drop (a + t.length) = r' := drop_add' (hd.trans hr') rfl
            have hrd : r.drop (t.length - 1) = r' := by
              have : (x :: r).drop t.length = r' := by rw [hr', List.drop_left]
              rw [show t.length = (t.length - 1) + 1 by omega, List.drop_succ_cons] at this
              exact this
            have hle : a + t.length ≤ s.length := by
              have := congrArg List.length (hd.trans hr')
              simp at this; omega
            have hmax : max (a + 1) (adv s t.length (a, l, c)).1 = a + t.length := by rw [adv_at]; omega
            rw [hmax]
            have := ih (s.length - (a + t.length)) (by omega) (a + t.length) (adv s t.length (a, l, c)).2.1 (adv s t.length (a, l, c)).2.2 (acc ++ [(kd, t, l, c)]) rfl (by omega)
            rw [hdr] at this
            rw [hrd]
            cases hq : lexD r' with
            | none => rw [hq] at this; exact this
            | some ks =>
              rw [hq] at this
              obtain ⟨us, l', c', e1, e2⟩ := this
              refine ⟨(kd, t, l, c) :: us, l', c', by rw [List.map_cons, e1]; rfl, ?_⟩
              rw [e2]; simp
          · rw [if_neg he, if_neg he]
            exact he
theorem tokensF_D {s : List UInt8} (hs : s.length ≤ 8192) : match lexD s with
    | some ks => ∃ us l c, us.map proj = ks ∧ tokensF s = (us ++ [(5, [], l, c)], (0, 0), 0)
    | none => (tokensF s).2.2 ≠ 0 := by
  have := lexF_D s s.length 0 1 1 [] (by omega) (Nat.zero_le _)
  rw [List.drop_zero] at this
  rw [tokensF, if_neg (by omega)]
  cases hq : lexD s with
  | none => rw [hq] at this; exact this
  | some ks => rw [hq] at this; simpa using this

/-! ### blanks between -/
def betw : List (List UInt8) := [[32], [10], [9, 32], [35, 120, 10], [32, 35, 32, 121, 32, 35, 32, 122, 10, 10]]
theorem lexD_nil : lexD [] = some [] := by unfold lexD; rfl
theorem lexD_cons (x : UInt8) (r : List UInt8) : lexD (x :: r) = if blankI (iv x) = true then lexD r
    else if iv x = 35 then lexD (r.dropWhile fun y => notNl (iv y))
    else if (tokS (x :: r)).2.2 = 0 then (lexD (r.drop ((tokS (x :: r)).2.1.length - 1))).map (((tokS (x :: r)).1, (tokS (x :: r)).2.1) :: ·)
    else none := by conv => lhs; unfold lexD
theorem lexD_blank {x : UInt8} (h : blankI (iv x) = true) (r : List UInt8) : lexD (x :: r) = lexD r := by rw [lexD_cons, if_pos h]
theorem dw_cons_pos {p : UInt8 → Bool} {x : UInt8} (h : p x = true) (r : List UInt8) : (x :: r).dropWhile p = r.dropWhile p := by rw [List.dropWhile_cons, if_pos h]
theorem dw_cons_neg {p : UInt8 → Bool} {x : UInt8} (h : p x = false) (r : List UInt8) : (x :: r).dropWhile p = x :: r := by rw [List.dropWhile_cons, if_neg (by simp [h])]
/-- Blanks and comments in front of a text change nothing. -/
theorem lexD_betw {b : List UInt8} (hb : b ∈ betw) (r : List UInt8) : lexD (b ++ r) = lexD r := by
  have h35 : ∀ r, lexD (35 :: r) = lexD (r.dropWhile fun y => notNl (iv y)) := fun r => by rw [lexD_cons, if_neg (by decide), if_pos (by decide)]
  have hnl : ∀ r, (10 :: r).dropWhile (fun y => notNl (iv y)) = 10 :: r := fun r => dw_cons_neg (by decide) r
  have h32 : ∀ r, lexD (32 :: r) = lexD r := fun r => lexD_blank (by decide) r
  have h10 : ∀ r, lexD (10 :: r) = lexD r := fun r => lexD_blank (by decide) r
  have h9 : ∀ r, lexD (9 :: r) = lexD r := fun r => lexD_blank (by decide) r
  have d1 : ∀ r, (120 :: r).dropWhile (fun y => notNl (iv y)) = r.dropWhile fun y => notNl (iv y) := fun r => dw_cons_pos (by decide) r
  have d2 : ∀ r, (32 :: r).dropWhile (fun y => notNl (iv y)) = r.dropWhile fun y => notNl (iv y) := fun r => dw_cons_pos (by decide) r
  have d3 : ∀ r, (121 :: r).dropWhile (fun y => notNl (iv y)) = r.dropWhile fun y => notNl (iv y) := fun r => dw_cons_pos (by decide) r
  have d4 : ∀ r, (35 :: r).dropWhile (fun y => notNl (iv y)) = r.dropWhile fun y => notNl (iv y) := fun r => dw_cons_pos (by decide) r
  have d5 : ∀ r, (122 :: r).dropWhile (fun y => notNl (iv y)) = r.dropWhile fun y => notNl (iv y) := fun r => dw_cons_pos (by decide) r
  simp only [betw, List.mem_cons, List.not_mem_nil, or_false] at hb
  rcases hb with rfl | rfl | rfl | rfl | rfl <;> simp only [List.cons_append, List.nil_append, h35, h32, h10, h9, hnl, d1, d2, d3, d4, d5]
theorem betw_head {b : List UInt8} (hb : b ∈ betw) : ∃ x r, b = x :: r ∧ (x = 32 ∨ x = 10 ∨ x = 9 ∨ x = 35) ∧ b.length ≤ 10 := by
  simp only [betw, List.mem_cons, List.not_mem_nil, or_false] at hb
  rcases hb with rfl | rfl | rfl | rfl | rfl <;> exact ⟨_, _, rfl, by simp, by simp⟩

theorem signAt_sep : ∀ t ∈ sgs, ∀ x ∈ ([32, 10, 9, 35] : List UInt8), signAt (t ++ [x]) sgs = some t := by decide +kernel
theorem signAt_mono {d : List UInt8} : ∀ {l : List (List UInt8)} {r : List UInt8}, (∀ u ∈ l, u.length ≤ d.length) → signAt (d ++ r) l = signAt d l
  | [], _, _ => rfl
  | u :: l, r, h => by
    have hu := h u (by simp)
    unfold signAt
    rw [List.take_append_of_le_length hu, signAt_mono fun v hv => h v (List.mem_cons_of_mem _ hv)]
    simp only [List.length_append, hu, true_and, show u.length ≤ d.length + r.length by omega]
/-- A token in front of a blank is this token. -/
theorem tokS_sep {d : List UInt8} (h : (tokS d).2.2 = 0) {x : UInt8} (hx : x = 32 ∨ x = 10 ∨ x = 9 ∨ x = 35) (r : List UInt8) : tokS ((tokS d).2.1 ++ x :: r) = tokS d := by
  have hw : wordI true (iv x) = false := by rcases hx with rfl | rfl | rfl | rfl <;> decide
  have hg : digitI (iv x) = false := by rcases hx with rfl | rfl | rfl | rfl <;> decide
  cases d with
  | nil => cases h
  | cons y d =>
    have tw : ∀ p : Int → Bool, p (iv x) = false → twI p (twI p (y :: d) ++ x :: r) = twI p (y :: d) := fun p hp => by
      refine tw_append _ (fun z hz => ?_) fun z r' hz => ?_
      · exact tw_all (fun x => p (iv x)) _ _ hz
      · cases hz; exact hp
    have hd : ∀ p : Int → Bool, p (iv y) = true → ∃ u, twI p (y :: d) = y :: u := fun p hp => ⟨_, by unfold twI; rw [List.takeWhile_cons, if_pos hp]⟩
    unfold tokS at h ⊢
    dsimp only at h ⊢
    by_cases hy : wordI false (iv y) = true
    · simp only [if_pos hy] at h ⊢
      obtain ⟨u, hu⟩ := hd _ (wordI_of _ hy)
      have ht := tw _ hw
      generalize twI (wordI true) (y :: d) = t at *
      subst hu
      have e : (if y :: u ∈ kws then (3, y :: u, 0) else if 12 < (y :: u).length then (0, [], 9) else (1, y :: u, 0) : Nat × List UInt8 × Nat).2.1 = y :: u := by
        by_cases hk : y :: u ∈ kws
        · rw [if_pos hk]
        · rw [if_neg hk] at h ⊢
          by_cases hl : 12 < (y :: u).length
          · rw [if_pos hl] at h; cases h
          · rw [if_neg hl]
      rw [e, List.cons_append]
      rw [List.cons_append] at ht
      simp only [if_pos hy, ht]
    · simp only [if_neg hy] at h ⊢
      by_cases hdg : digitI (iv y) = true
      · simp only [if_pos hdg] at h ⊢
        obtain ⟨u, hu⟩ := hd _ hdg
        have ht := tw _ hg
        generalize twI digitI (y :: d) = t at *
        subst hu
        by_cases hl : 60 < (y :: u).length
        · rw [if_pos hl] at h; cases h
        · simp only [if_neg hl]
          rw [List.cons_append] at ht ⊢
          simp only [if_neg hy, if_pos hdg, ht, if_neg hl]
      · simp only [if_neg hdg] at h ⊢
        cases hs : signAt (y :: d) sgs with
        | none => rw [hs] at h; cases h
        | some t =>
          obtain ⟨h1, h2, h3⟩ := signAt_some hs
          obtain ⟨g1, g2, g3⟩ := sgs_all t h1
          dsimp only
          have hsep : signAt (t ++ x :: r) sgs = some t := by
            have e := signAt_sep t h1 x (by rcases hx with rfl | rfl | rfl | rfl <;> simp)
            rw [show t ++ x :: r = (t ++ [x]) ++ r by simp]
            by_cases hl : ∀ u ∈ sgs, u.length ≤ (t ++ [x]).length
            · rw [signAt_mono (d := t ++ [x]) hl]; exact e
            · exfalso; apply hl; intro u hu; have := (sgs_all u hu).2.1; simp; omega
          cases t with
          | nil => simp at g1
          | cons z u =>
            rw [List.cons_append] at hsep ⊢
            have hz := (g3 z (by simp)).1
            have hz1 : ¬ wordI false (iv z) = true := fun hh => by rw [wordI_of _ hh] at hz; cases hz
            have hz2 : ¬ digitI (iv z) = true := fun hh => by
              simp only [wordI, hh] at hz; simp at hz
            simp only [if_neg hz1, if_neg hz2, hsep]

/-- Each of the tokens is one that is read again in front of a blank. -/
def goodT (kt : Nat × List UInt8) : Prop := 0 < kt.2.length ∧ (∀ x r, kt.2 = x :: r → ¬ blankI (iv x) = true ∧ ¬ iv x = 35) ∧ ∀ x r, (x = 32 ∨ x = 10 ∨ x = 9 ∨ x = 35) → tokS (kt.2 ++ x :: r) = (kt.1, kt.2, 0)
theorem lexD_good : ∀ n (d : List UInt8) ks, d.length ≤ n → lexD d = some ks → (∀ kt ∈ ks, goodT kt) ∧ (ks.map fun kt => kt.2.length).sum ≤ d.length := by
  intro n
  induction n with
  | zero =>
    intro d ks hd h
    obtain rfl : d = [] := List.length_eq_zero_iff.1 (by omega)
    rw [lexD_nil] at h; cases h
    exact ⟨fun kt h => by simp at h, by simp⟩
  | succ n ih =>
    intro d ks hd h
    cases d with
    | nil => rw [lexD_nil] at h; cases h; exact ⟨fun kt h => by simp at h, by simp⟩
    | cons x r =>
      simp only [List.length_cons] at hd ⊢
      rw [lexD_cons] at h
      by_cases hb : blankI (iv x) = true
      · rw [if_pos hb] at h
        have := ih r ks (by omega) h
        exact ⟨this.1, by omega⟩
      · rw [if_neg hb] at h
        by_cases hc : iv x = 35
        · rw [if_pos hc] at h
          have hl := (List.dropWhile_suffix (l := r) fun y => notNl (iv y)).length_le
          have := ih _ ks (by omega) h
          exact ⟨this.1, by omega⟩
        · rw [if_neg hc] at h
          by_cases he : (tokS (x :: r)).2.2 = 0
          · rw [if_pos he] at h
            obtain ⟨hp, r', hr'⟩ := tokS_front he
            have hsep := fun y (hy : y = 32 ∨ y = 10 ∨ y = 9 ∨ y = 35) q => tokS_sep he hy q
            generalize tokS (x :: r) = tk at *
            obtain ⟨kd, t, er⟩ := tk
            dsimp only at *
            subst he
            cases hq : lexD (r.drop (t.length - 1)) with
            | none => rw [hq] at h; cases h
            | some ks' =>
              rw [hq] at h
              simp only [Option.map_some, Option.some.injEq] at h
              subst h
              have := ih _ ks' (by simp; omega) hq
              refine ⟨fun kt hkt => ?_, ?_⟩
              · rcases List.mem_cons.1 hkt with rfl | hkt
                · refine ⟨hp, fun y q hy => ?_, fun y q hy => hsep y hy q⟩
                  dsimp only at hy
                  rw [hy] at hr'
                  simp only [List.cons_append, List.cons.injEq] at hr'
                  rw [← hr'.1]; exact ⟨hb, hc⟩
                · exact this.1 kt hkt
              · have h2 := this.2
                simp only [List.length_drop] at h2
                have hle : t.length ≤ r.length + 1 := by
                  have := congrArg List.length hr'
                  simp at this; omega
                simp only [List.map_cons, List.sum_cons]; omega
          · rw [if_neg he] at h; cases h
/-- The tokens, blanks between them. -/
def joinB (b : List UInt8) (ks : List (Nat × List UInt8)) : List UInt8 := (ks.map fun kt => kt.2 ++ b).flatten
theorem lexD_join {b : List UInt8} (hb : b ∈ betw) : ∀ ks, (∀ kt ∈ ks, goodT kt) → lexD (joinB b ks ++ b) = some ks
  | [], _ => by
    show lexD ([] ++ b) = some []
    rw [List.nil_append, ← List.append_nil b, lexD_betw hb, lexD_nil]
  | (k, t) :: ks, h => by
    obtain ⟨h1, h2, h3⟩ := h (k, t) (by simp)
    obtain ⟨x, b', hbx, hx, _⟩ := betw_head hb
    have ih := lexD_join hb ks fun kt hkt => h kt (List.mem_cons_of_mem _ hkt)
    have e : joinB b ((k, t) :: ks) ++ b = t ++ (b ++ (joinB b ks ++ b)) := by simp [joinB]
    rw [e]
    cases t with
    | nil => simp at h1
    | cons y u =>
      have hs := h3 x (b' ++ (joinB b ks ++ b)) hx
      dsimp only at hs
      rw [← List.cons_append, ← hbx] at hs
      obtain ⟨g1, g2⟩ := h2 y u rfl
      rw [List.cons_append, lexD_cons, if_neg g1, if_neg g2, ← List.cons_append, hs]
      dsimp only
      rw [if_pos rfl, List.length_cons, Nat.add_sub_cancel, List.drop_left, lexD_betw hb, ih]
      rfl

/-! ### how many tokens -/
def isSt (p : Option UInt8) (x : UInt8) : Bool := !blankI (iv x) && match p with
  | none => true
  | some y => !wordI true (iv y) || (!wordI true (iv x) || (digitI (iv y) && !digitI (iv x)))
def cr : Option UInt8 → List UInt8 → Nat
  | _, [] => 0
  | p, x :: r => (if isSt p x then 1 else 0) + cr (some x) r
def lastO : Option UInt8 → List UInt8 → Option UInt8
  | p, [] => p
  | _, x :: r => lastO (some x) r
theorem cr_append : ∀ (u : List UInt8) (p : Option UInt8) (v : List UInt8), cr p (u ++ v) = cr p u + cr (lastO p u) v
  | [], p, v => by simp [cr, lastO]
  | x :: u, p, v => by simp only [List.cons_append, cr, lastO, cr_append u]; omega
theorem cr_none (p : Option UInt8) (v : List UInt8) : cr p v ≤ cr none v := by
  cases v with
  | nil => exact Nat.le_refl _
  | cons x r =>
    simp only [cr]
    have : isSt p x = true → isSt none x = true := by unfold isSt; cases blankI (iv x) <;> simp
    by_cases h : isSt p x = true
    · rw [if_pos h, if_pos (this h)]; exact Nat.le_refl _
    · rw [if_neg h]; omega
theorem cr_drop (p : Option UInt8) (u v : List UInt8) : cr (lastO p u) v ≤ cr p (u ++ v) := by rw [cr_append]; omega
/-- Where a token may begin: behind p. -/
def mayB (p : Option UInt8) (d : List UInt8) : Prop := ∀ x r, d = x :: r → blankI (iv x) = true ∨ isSt p x = true
theorem lastO_mem : ∀ (u : List UInt8) (p : Option UInt8), u ≠ [] → ∃ y ∈ u, lastO p u = some y
  | [], _, h => absurd rfl h
  | [x], _, _ => ⟨x, by simp, rfl⟩
  | x :: y :: u, _, _ => by
    obtain ⟨z, hz, h⟩ := lastO_mem (y :: u) (some x) (by simp)
    exact ⟨z, List.mem_cons_of_mem _ hz, h⟩
theorem dw_head {p : UInt8 → Bool} : ∀ {l : List UInt8} {x : UInt8} {r : List UInt8}, l.dropWhile p = x :: r → p x = false
  | [], _, _, h => by cases h
  | y :: l, x, r, h => by
    rw [List.dropWhile_cons] at h
    split at h
    · exact dw_head h
    · rename_i hy; cases h; simpa using hy
theorem tokS_next {d : List UInt8} (h : (tokS d).2.2 = 0) {r : List UInt8} (hr : d = (tokS d).2.1 ++ r) (p : Option UInt8) : mayB (lastO p (tokS d).2.1) r := by
  intro x q hx
  by_cases hbx : blankI (iv x) = true
  · exact .inl hbx
  refine .inr ?_
  cases d with
  | nil => cases h
  | cons y d =>
    have tw : ∀ pr : Int → Bool, y :: d = twI pr (y :: d) ++ x :: q → pr (iv x) = false := fun pr e => by
      have e2 : (y :: d).dropWhile (fun z => pr (iv z)) = x :: q := by
        have := (List.takeWhile_append_dropWhile (p := fun z => pr (iv z)) (l := y :: d))
        exact List.append_cancel_left (this.trans e)
      exact dw_head e2
    have hne := (tokS_front h).1
    obtain ⟨z, hz, hl⟩ := lastO_mem (tokS (y :: d)).2.1 p (by intro h0; rw [h0] at hne; simp at hne)
    rw [hl]
    subst hx
    unfold tokS at h hr hz
    dsimp only at h hr hz
    by_cases hy : wordI false (iv y) = true
    · simp only [if_pos hy] at h hr hz
      have e : (if twI (wordI true) (y :: d) ∈ kws then (3, twI (wordI true) (y :: d), 0) else if 12 < (twI (wordI true) (y :: d)).length then (0, [], 9) else (1, twI (wordI true) (y :: d), 0) : Nat × List UInt8 × Nat).2.1 = twI (wordI true) (y :: d) := by
        by_cases hk : twI (wordI true) (y :: d) ∈ kws
        · rw [if_pos hk]
        · rw [if_neg hk] at h ⊢
          by_cases hl : 12 < (twI (wordI true) (y :: d)).length
          · rw [if_pos hl] at h; cases h
          · rw [if_neg hl]
      rw [e] at hr
      have := tw _ hr
      simp [isSt, hbx, this]
    · simp only [if_neg hy] at h hr hz
      by_cases hdg : digitI (iv y) = true
      · simp only [if_pos hdg] at h hr hz
        by_cases hl60 : 60 < (twI digitI (y :: d)).length
        · rw [if_pos hl60] at h; cases h
        · rw [if_neg hl60] at hr hz
          have h1 := tw _ hr
          have h2 : digitI (iv z) = true := tw_all (fun x => digitI (iv x)) _ _ hz
          simp [isSt, hbx, h1, h2]
      · simp only [if_neg hdg] at h hr hz
        cases hs : signAt (y :: d) sgs with
        | none => rw [hs] at h; cases h
        | some t =>
          rw [hs] at hz
          have := ((sgs_all t (signAt_some hs).1).2.2 z hz).1
          simp [isSt, hbx, this]
theorem lexD_count : ∀ n (d : List UInt8) ks (p : Option UInt8), d.length ≤ n → mayB p d → lexD d = some ks → ks.length ≤ cr p d := by
  intro n
  induction n with
  | zero =>
    intro d ks p hd hm h
    obtain rfl : d = [] := List.length_eq_zero_iff.1 (by omega)
    rw [lexD_nil] at h; cases h; simp
  | succ n ih =>
    intro d ks p hd hm h
    cases d with
    | nil => rw [lexD_nil] at h; cases h; simp
    | cons x r =>
      simp only [List.length_cons] at hd
      rw [lexD_cons] at h
      by_cases hb : blankI (iv x) = true
      · rw [if_pos hb] at h
        have hw : wordI true (iv x) = false := by
          simp only [blankI, Bool.or_eq_true, decide_eq_true_eq] at hb
          rcases hb with e | e | e <;> rw [e] <;> decide
        have := ih r ks (some x) (by omega) (fun y q hy => by
          by_cases hby : blankI (iv y) = true
          · exact .inl hby
          · exact .inr (by simp [isSt, hby, hw])) h
        simp only [cr]; omega
      · rw [if_neg hb] at h
        by_cases hc : iv x = 35
        · rw [if_pos hc] at h
          have hl := (List.dropWhile_suffix (l := r) fun y => notNl (iv y)).length_le
          have e : x :: r = (x :: r.takeWhile fun y => notNl (iv y)) ++ r.dropWhile fun y => notNl (iv y) := by rw [List.cons_append, List.takeWhile_append_dropWhile]
          have := ih _ ks (lastO p (x :: r.takeWhile fun y => notNl (iv y))) (by omega) (fun y q hy => .inl (by
            have := dw_head hy
            simp only [notNl, Bool.not_eq_false', decide_eq_true_eq] at this
            rw [this]; decide)) h
          rw [e]
          exact Nat.le_trans this (cr_drop _ _ _)
        · rw [if_neg hc] at h
          by_cases he : (tokS (x :: r)).2.2 = 0
          · rw [if_pos he] at h
            obtain ⟨hp, r', hr'⟩ := tokS_front he
            have hnx := tokS_next he hr' p
            have hst : isSt p x = true := (hm x r rfl).resolve_left hb
            generalize tokS (x :: r) = tk at *
            obtain ⟨kd, t, er⟩ := tk
            dsimp only at *
            cases t with
            | nil => simp at hp
            | cons y u =>
              simp only [List.cons_append, List.cons.injEq] at hr'
              obtain ⟨rfl, hr'⟩ := hr'
              rw [List.length_cons, Nat.add_sub_cancel, hr', List.drop_left] at h
              cases hq : lexD r' with
              | none => rw [hq] at h; cases h
              | some ks' =>
                rw [hq] at h
                simp only [Option.map_some, Option.some.injEq] at h
                subst h
                have h1 := ih r' ks' (lastO p (x :: u)) (by rw [hr'] at hd; simp at hd; omega) hnx hq
                have h2 := cr_drop (some x) u r'
                rw [hr']
                simp only [cr, hst, if_true, List.length_cons, lastO] at h1 ⊢
                omega
          · rw [if_neg he] at h; cases h
theorem lexD_len {d : List UInt8} {ks : List (Nat × List UInt8)} (h : lexD d = some ks) : ks.length ≤ cr none d :=
  lexD_count d.length d ks none (Nat.le_refl _) (fun x r _ => by
    by_cases hb : blankI (iv x) = true
    · exact .inl hb
    · exact .inr (by simp [isSt, hb])) h
theorem cr_cat (u v : List UInt8) : cr none (u ++ v) ≤ cr none u + cr none v := by
  rw [cr_append]; have := cr_none (lastO none u) v; omega
end Go.LexSem
