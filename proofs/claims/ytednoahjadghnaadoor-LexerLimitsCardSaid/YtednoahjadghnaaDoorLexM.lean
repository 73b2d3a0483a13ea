import Derived.Test.YtednoahjadghnaaDoorLexL
set_option linter.unusedSimpArgs false
set_option linter.unusedVariables false
namespace Go.LexSem
open Go Go.V

/-! ### the same bytes, further on -/
theorem gb_drop (s : List UInt8) (a i : Nat) : gb (s.drop a) i = gb s (a + i) := by simp [gb, List.getD_eq_getElem?_getD, List.getElem?_drop]
theorem gb_take (s : List UInt8) (n i : Nat) (h : i < n) : gb (s.take n) i = gb s i := by simp [gb, List.getD_eq_getElem?_getD, List.getElem?_take, h]
theorem runTo_drop (p : Int → Bool) (s : List UInt8) (a : Nat) : ∀ f i, runTo p (s.drop a) f i + a = runTo p s f (a + i)
  | 0, i => Nat.add_comm _ _
  | f + 1, i => by
    unfold runTo
    rw [gb_drop, List.length_drop]
    by_cases h : a + i < s.length ∧ p (gb s (a + i)) = true
    · rw [if_pos h, if_pos ⟨by omega, h.2⟩, runTo_drop p s a f (i + 1)]; rfl
    · rw [if_neg h, if_neg (fun hh => h ⟨by omega, hh.2⟩)]; omega
theorem blanksF_drop (s : List UInt8) (a : Nat) : ∀ k i, s.length - (a + i) = k → blanksF (s.drop a) i + a = blanksF s (a + i) := by
  intro k
  induction k using Nat.strongRecOn with
  | _ k ih =>
    intro i hk
    unfold blanksF
    rw [gb_drop, List.length_drop]
    by_cases h : a + i < s.length
    · rw [dif_pos h, dif_pos (show i < s.length - a by omega)]
      by_cases hb : blankI (gb s (a + i)) = true
      · rw [if_pos hb, if_pos hb]; exact ih _ (by omega) (i + 1) rfl
      · rw [if_neg hb, if_neg hb]
        by_cases h35 : gb s (a + i) = 35
        · rw [if_pos h35, if_pos h35]
          have h1 := runTo_drop notNl s a (s.length - a - i) i
          have e : s.length - (a + i) = s.length - a - i := by omega
          rw [e, ← h1]
          have h2 := ih (s.length - (a + max (i + 1) (runTo notNl (s.drop a) (s.length - a - i) i))) (by omega) (max (i + 1) (runTo notNl (s.drop a) (s.length - a - i) i)) rfl
          rw [h2]; congr 1; omega
        · rw [if_neg h35, if_neg h35]; omega
    · rw [dif_neg h, dif_neg (show ¬ i < s.length - a by omega)]; omega
theorem adv_add (s : List UInt8) : ∀ j k p, adv s (j + k) p = adv s k (adv s j p)
  | 0, k, p => by rw [Nat.zero_add]; rfl
  | j + 1, k, (a, l, c) => by
    rw [show j + 1 + k = (j + k) + 1 by omega]
    exact adv_add s j k (if gb s a = 10 then (a + 1, l + 1, 1) else (a + 1, l, c + 1))
/-- The place behind k bytes, by the bytes themselves. -/
theorem adv_same {s t : List UInt8} : ∀ k a b l c, (∀ i, i < k → gb s (a + i) = gb t (b + i)) → (adv s k (a, l, c)).2 = (adv t k (b, l, c)).2
  | 0, a, b, l, c, _ => rfl
  | k + 1, a, b, l, c, h => by
    have h0 := h 0 (Nat.zero_lt_succ _)
    rw [Nat.add_zero, Nat.add_zero] at h0
    have hs : ∀ i, i < k → gb s (a + 1 + i) = gb t (b + 1 + i) := fun i hi => by
      have := h (i + 1) (by omega)
      rwa [show a + (i + 1) = a + 1 + i by omega, show b + (i + 1) = b + 1 + i by omega] at this
    unfold adv
    rw [h0]
    split
    · exact adv_same k _ _ _ _ hs
    · exact adv_same k _ _ _ _ hs
theorem moved_take (s : List UInt8) (a n l c : Nat) (h : a + n ≤ s.length) : moved ((s.drop a).take n) l c = (adv s n (a, l, c)).2 := by
  unfold moved
  have hl : ((s.drop a).take n).length = n := by rw [List.length_take, List.length_drop]; omega
  rw [hl]
  refine adv_same n 0 a l c (fun i hi => ?_)
  rw [Nat.zero_add, gb_take _ _ _ hi, gb_drop]

theorem adv_eta (s : List UInt8) (k a l c : Nat) : adv s k (a, l, c) = (a + k, (adv s k (a, l, c)).2.1, (adv s k (a, l, c)).2.2) := by
  have := adv_at s k a l c
  generalize adv s k (a, l, c) = p at *
  obtain ⟨x, y, z⟩ := p
  simp at this ⊢; exact this

/-- Blanks and comments are passed over. -/
theorem lexF_blanks (s : List UInt8) : ∀ k a l c acc, s.length - a = k → a ≤ s.length →
    a ≤ blanksF s a ∧ lexF s a l c acc = lexF s (blanksF s a) (adv s (blanksF s a - a) (a, l, c)).2.1 (adv s (blanksF s a - a) (a, l, c)).2.2 acc := by
  intro k
  induction k using Nat.strongRecOn with
  | _ k ih =>
    intro a l c acc hk ha
    have stay : blanksF s a = a → a ≤ blanksF s a ∧ lexF s a l c acc = lexF s (blanksF s a) (adv s (blanksF s a - a) (a, l, c)).2.1 (adv s (blanksF s a - a) (a, l, c)).2.2 acc := fun h => by
      rw [h, Nat.sub_self]; exact ⟨Nat.le_refl _, rfl⟩
    have go : ∀ j, 0 < j → a + j ≤ s.length → blanksF s a = blanksF s (a + j) → lexF s a l c acc = lexF s (a + j) (adv s j (a, l, c)).2.1 (adv s j (a, l, c)).2.2 acc →
        a ≤ blanksF s a ∧ lexF s a l c acc = lexF s (blanksF s a) (adv s (blanksF s a - a) (a, l, c)).2.1 (adv s (blanksF s a - a) (a, l, c)).2.2 acc := fun j hj hle hb hl => by
      obtain ⟨h1, h2⟩ := ih _ (by omega) (a + j) (adv s j (a, l, c)).2.1 (adv s j (a, l, c)).2.2 acc rfl hle
      rw [hb]
      refine ⟨by omega, ?_⟩
      rw [hl, h2, ← adv_eta s j a l c, ← adv_add, show j + (blanksF s (a + j) - (a + j)) = blanksF s (a + j) - a by omega]
    by_cases h : a < s.length
    · by_cases hb : blankI (gb s a) = true
      · refine go 1 (by omega) (by omega) ?_ ?_
        · conv => lhs; unfold blanksF
          rw [dif_pos h, if_pos hb]
        · conv => lhs; unfold lexF
          rw [dif_pos h, if_pos hb]
      · by_cases h35 : gb s a = 35
        · have hp := runTo_pos (p := notNl) h (by simp [notNl, h35])
          have hl := runTo_le notNl s (s.length - a) a ha
          have hr := runAt_length (p := notNl) (s := s) (a := a) ha
          refine go (runAt notNl s a).length (by omega) (by omega) ?_ ?_
          · conv => lhs; unfold blanksF
            rw [dif_pos h, if_neg hb, if_pos h35, hr, Nat.max_eq_right hp]
          · conv => lhs; unfold lexF
            rw [dif_pos h, if_neg hb, if_pos h35, adv_at, Nat.max_eq_right (by omega)]
        · refine stay ?_
          unfold blanksF
          rw [dif_pos h, if_neg hb, if_neg h35]
    · refine stay ?_
      unfold blanksF
      rw [dif_neg h]
end Go.LexSem
