import Derived.Test.YtednoahjadghnaaDoorLexN
set_option linter.unusedSimpArgs false
set_option linter.unusedVariables false
namespace Go.LexSem
open Go Go.V

theorem blanksF_end (s : List UInt8) : ∀ k a, s.length - a = k → blanksF s a < s.length → ¬ blankI (gb s (blanksF s a)) = true ∧ ¬ gb s (blanksF s a) = 35 := by
  intro k
  induction k using Nat.strongRecOn with
  | _ k ih =>
    intro a hk
    unfold blanksF
    by_cases h : a < s.length
    · rw [dif_pos h]
      by_cases hb : blankI (gb s a) = true
      · rw [if_pos hb]; exact ih _ (by omega) _ rfl
      · rw [if_neg hb]
        by_cases h35 : gb s a = 35
        · rw [if_pos h35]; exact ih _ (by omega) _ rfl
        · rw [if_neg h35]; exact fun _ => ⟨hb, h35⟩
    · rw [dif_neg h]; exact fun hh => absurd hh h
theorem take_self {α : Type} (l : List α) (n : Nat) : l.take (l.take n).length = l.take n := by
  rw [List.length_take]
  rcases Nat.le_total n l.length with h | h
  · rw [Nat.min_eq_left h]
  · rw [Nat.min_eq_right h, List.take_of_length_le (Nat.le_refl _), List.take_of_length_le h]
theorem tokenF_text (s : List UInt8) (a : Nat) : (s.drop a).take (tokenF s a).2.1.length = (tokenF s a).2.1 := by
  unfold tokenF
  split
  · split
    · exact take_self _ _
    · split
      · rfl
      · exact take_self _ _
  · split
    · split
      · rfl
      · exact take_self _ _
    · cases hs : signAt (s.drop a) sgs with
      | none => rfl
      | some x => exact (signAt_spec _ _ _ hs).2.2

theorem ref_lex (s : List UInt8) : ∀ k a l c acc, s.length - a = k → a ≤ s.length → refF (s.drop a) l c acc = lexF s a l c acc := by
  intro k
  induction k using Nat.strongRecOn with
  | _ k ih =>
    intro a l c acc hk ha
    obtain ⟨h1, h2⟩ := lexF_blanks s _ a l c acc rfl ha
    have h3 := blanksF_le s _ a rfl ha
    have h4 := blanksF_drop s a _ 0 rfl
    have h5 := blanksF_end s _ a rfl
    rw [Nat.add_zero] at h4
    rw [h2]
    generalize hbe : blanksF s a = b at h1 h3 h4 h5 ⊢
    have hn : blanksF (s.drop a) 0 = b - a := by omega
    have hm : moved ((s.drop a).take (b - a)) l c = (adv s (b - a) (a, l, c)).2 := moved_take s a (b - a) l c (by omega)
    have hd : (s.drop a).drop (b - a) = s.drop b := by rw [List.drop_drop]; congr 1; omega
    unfold refF
    rw [hn, hd, hm]
    generalize (adv s (b - a) (a, l, c)).2 = p
    obtain ⟨l1, c1⟩ := p
    dsimp only
    by_cases hb : b < s.length
    · obtain ⟨hnb, hn35⟩ := h5 hb
      have hne : ¬ s.drop b = [] := fun e => by
        have := congrArg List.length e
        rw [List.length_drop] at this
        simp at this; omega
      rw [if_neg hne, next_token s b hb]
      conv => rhs; unfold lexF
      rw [dif_pos hb, if_neg hnb, if_neg hn35]
      by_cases he : (tokenF s b).2.2 = 0
      · have htl := tokenF_len s b hb he
        rw [if_pos he, if_pos he, dif_pos ⟨htl.1, by rw [List.length_drop]; omega⟩, List.drop_drop, adv_at, Nat.max_eq_right (by omega)]
        have hmv : moved (tokenF s b).2.1 l1 c1 = (adv s (tokenF s b).2.1.length (b, l1, c1)).2 := by
          have := moved_take s b (tokenF s b).2.1.length l1 c1 htl.2
          rwa [tokenF_text] at this
        rw [hmv]
        exact ih _ (by omega) _ _ _ _ rfl htl.2
      · rw [if_neg he, if_neg he]
    · have hbl : b = s.length := by omega
      have he : s.drop b = [] := by rw [hbl]; exact List.drop_length
      rw [if_pos he]
      unfold lexF
      rw [dif_neg hb]

/-- The lexer and the reference hand back the same. -/
theorem same_tokens (s : List UInt8) : refTokensF s = tokensF s := by
  unfold refTokensF tokensF
  split
  · rfl
  · have := ref_lex s _ 0 1 1 [] rfl (Nat.zero_le _)
    rwa [List.drop_zero] at this
end Go.LexSem
