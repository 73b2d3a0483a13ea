import Derived.Test.YtednoahjadghnaaDoorLexI
import Derived.Test.YtednoahjadghnaaDoorVGhost
set_option linter.unusedSimpArgs false
set_option linter.unusedVariables false
set_option linter.loopingSimpArgs false
namespace Go.LexSem
open Go Go.V Go.Proofs

/-! ### how far a step goes -/
theorem adv_at (s : List UInt8) : ∀ k a l c, (adv s k (a, l, c)).1 = a + k
  | 0, a, l, c => rfl
  | k + 1, a, l, c => by
    unfold adv
    split
    · rw [adv_at s k]; omega
    · rw [adv_at s k]; omega
theorem adv_line (s : List UInt8) : ∀ k a l c, l ≤ a + 1 → c ≤ a + 1 → (adv s k (a, l, c)).2.1 ≤ a + k + 1 ∧ (adv s k (a, l, c)).2.2 ≤ a + k + 1
  | 0, a, l, c, h1, h2 => ⟨h1, h2⟩
  | k + 1, a, l, c, h1, h2 => by
    unfold adv
    split
    · have := adv_line s k (a + 1) (l + 1) 1 (by omega) (by omega); omega
    · have := adv_line s k (a + 1) l (c + 1) (by omega) (by omega); omega
theorem runTo_pos {p : Int → Bool} {s : List UInt8} {a : Nat} (h : a < s.length) (hp : p (gb s a) = true) : a + 1 ≤ runTo p s (s.length - a) a := by
  rw [show s.length - a = (s.length - (a + 1)) + 1 by omega]
  unfold runTo
  rw [if_pos ⟨h, hp⟩]
  exact runTo_ge _ _ _ _
theorem runAt_length {p : Int → Bool} {s : List UInt8} {a : Nat} (h : a ≤ s.length) : a + (runAt p s a).length = runTo p s (s.length - a) a := by
  have h1 := runTo_le p s (s.length - a) a h
  have h2 := runTo_ge p s (s.length - a) a
  rw [runAt, List.length_take, List.length_drop]; omega
theorem signAt_spec (s : List UInt8) : ∀ (xs : List (List UInt8)) x, signAt s xs = some x → x ∈ xs ∧ x.length ≤ s.length ∧ s.take x.length = x
  | [], x, h => by cases h
  | y :: r, x, h => by
    unfold signAt at h
    split at h
    · rename_i hc; cases h; exact ⟨List.mem_cons_self, hc⟩
    · obtain ⟨h1, h2⟩ := signAt_spec s r x h; exact ⟨List.mem_cons_of_mem _ h1, h2⟩
theorem sgs_pos : ∀ x ∈ sgs, 0 < x.length := by decide
theorem wordI_mono {x : Int} (h : wordI false x = true) : wordI true x = true := by
  simp only [wordI, Bool.or_eq_true, Bool.and_eq_true, decide_eq_true_eq, Bool.false_and, Bool.false_eq_true, or_false, Bool.true_and] at h ⊢
  rcases h with h | h | h
  · exact .inl h
  · exact .inr (.inl h)
  · exact .inr (.inr (.inl h))
/-- A token has a byte at least, and lies within the text. -/
theorem tokenF_len (s : List UInt8) (a : Nat) (ha : a < s.length) (h : (tokenF s a).2.2 = 0) : 0 < (tokenF s a).2.1.length ∧ a + (tokenF s a).2.1.length ≤ s.length := by
  unfold tokenF at h ⊢
  split
  · rename_i hw
    rw [if_pos hw] at h
    have h1 := runTo_pos ha (wordI_mono hw)
    have h2 := runAt_length (p := wordI true) (Nat.le_of_lt ha)
    have h3 := runTo_le (wordI true) s (s.length - a) a (Nat.le_of_lt ha)
    split
    · exact ⟨by show 0 < (runAt (wordI true) s a).length; omega, by show a + (runAt (wordI true) s a).length ≤ _; omega⟩
    · rename_i hk
      rw [if_neg hk] at h
      split
      · rename_i h12; rw [if_pos h12] at h; cases h
      · exact ⟨by show 0 < (runAt (wordI true) s a).length; omega, by show a + (runAt (wordI true) s a).length ≤ _; omega⟩
  · rename_i hw
    rw [if_neg hw] at h
    split
    · rename_i hd
      rw [if_pos hd] at h
      have h1 := runTo_pos ha hd
      have h2 := runAt_length (p := digitI) (Nat.le_of_lt ha)
      have h3 := runTo_le digitI s (s.length - a) a (Nat.le_of_lt ha)
      split
      · rename_i h60; rw [if_pos h60] at h; cases h
      · exact ⟨by show 0 < (runAt digitI s a).length; omega, by show a + (runAt digitI s a).length ≤ _; omega⟩
    · rename_i hd
      rw [if_neg hd] at h
      cases hs : signAt (s.drop a) sgs with
      | none => rw [hs] at h; cases h
      | some x =>
        obtain ⟨h1, h2, _⟩ := signAt_spec _ _ _ hs
        rw [List.length_drop] at h2
        exact ⟨sgs_pos x h1, by show a + x.length ≤ _; omega⟩

abbrev Tok := Nat × List UInt8 × Nat × Nat
def tkv (t : Tok) : PVal := tk t.1 t.2.1 t.2.2.1 t.2.2.2
/-- The lexer from the byte a on, at line l and column c, behind the tokens acc. -/
def lexF (s : List UInt8) (a l c : Nat) (acc : List Tok) : List Tok × (Nat × Nat) × Nat :=
  if h : a < s.length then
    if blankI (gb s a) = true then
      lexF s (a + 1) (adv s 1 (a, l, c)).2.1 (adv s 1 (a, l, c)).2.2 acc
    else if gb s a = 35 then
      lexF s (max (a + 1) (adv s (runAt notNl s a).length (a, l, c)).1) (adv s (runAt notNl s a).length (a, l, c)).2.1 (adv s (runAt notNl s a).length (a, l, c)).2.2 acc
    else if (tokenF s a).2.2 = 0 then
      lexF s (max (a + 1) (adv s (tokenF s a).2.1.length (a, l, c)).1) (adv s (tokenF s a).2.1.length (a, l, c)).2.1 (adv s (tokenF s a).2.1.length (a, l, c)).2.2 (acc ++ [((tokenF s a).1, (tokenF s a).2.1, l, c)])
    else ([], (l, c), (tokenF s a).2.2)
  else (acc ++ [(5, [], l, c)], (0, 0), 0)
termination_by s.length - a
decreasing_by all_goals omega
end Go.LexSem
