import Derived.Test.YtednoahjadghnaaDoorLexM
set_option linter.unusedSimpArgs false
set_option linter.unusedVariables false
namespace Go.LexSem
open Go Go.V

theorem wordI_false (x : Int) : wordI false x = letterI x := by
  rw [Bool.eq_iff_iff]
  simp only [wordI, letterI, Bool.or_eq_true, Bool.and_eq_true, decide_eq_true_eq, Bool.false_and, Bool.false_eq_true, or_false]
  omega
theorem wordI_true (x : Int) : wordI true x = (letterI x || digitI x) := by
  rw [Bool.eq_iff_iff]
  simp only [wordI, letterI, digitI, Bool.or_eq_true, Bool.and_eq_true, decide_eq_true_eq, Bool.true_and]
  omega
theorem wordTo_run (t : List UInt8) : ∀ f i, 0 < i → wordTo t f i = runTo (wordI true) t f i
  | 0, i, _ => rfl
  | f + 1, i, hi => by
    unfold wordTo runTo
    rw [wordTo_run t f (i + 1) (by omega), wordI_true]
    simp [hi]
theorem wordTo_0 (t : List UInt8) (h : 0 < t.length) : wordTo t t.length 0 = if letterI (gb t 0) = true then runTo (wordI true) t t.length 0 else 0 := by
  obtain ⟨f, hf⟩ : ∃ f, t.length = f + 1 := ⟨t.length - 1, by omega⟩
  rw [hf]
  unfold wordTo runTo
  by_cases hl : letterI (gb t 0) = true
  · rw [if_pos hl, if_pos ⟨h, by simp [hl]⟩, if_pos ⟨h, by rw [wordI_true, hl]; rfl⟩, wordTo_run t f (0 + 1) (by omega)]
  · rw [if_neg hl, if_neg (fun hh => hl (by simpa using hh.2))]
theorem signAt_append (t : List UInt8) (ys : List (List UInt8)) : ∀ xs, signAt t (xs ++ ys) = match signAt t xs with
    | some x => some x
    | none => signAt t ys
  | [] => rfl
  | x :: r => by
    simp only [List.cons_append, signAt]
    split
    · rfl
    · exact signAt_append t ys r
theorem signAt_same (t : List UInt8) (n : Nat) : ∀ xs : List (List UInt8), (∀ x ∈ xs, x.length = n) → signAt t xs = if n ≤ t.length ∧ t.take n ∈ xs then some (t.take n) else none
  | [], _ => by simp [signAt]
  | x :: r, h => by
    have hx : x.length = n := h x List.mem_cons_self
    unfold signAt
    rw [hx, signAt_same t n r (fun y hy => h y (List.mem_cons_of_mem _ hy))]
    by_cases h1 : n ≤ t.length
    · by_cases h2 : t.take n = x
      · rw [if_pos ⟨h1, h2⟩, if_pos ⟨h1, by rw [h2]; exact List.mem_cons_self⟩, h2]
      · rw [if_neg (fun hh => h2 hh.2)]
        by_cases h3 : t.take n ∈ r
        · rw [if_pos ⟨h1, h3⟩, if_pos ⟨h1, List.mem_cons_of_mem _ h3⟩]
        · rw [if_neg (fun hh => h3 hh.2), if_neg (fun hh => (List.mem_cons.1 hh.2).elim h2 h3)]
    · rw [if_neg (fun hh => h1 hh.1), if_neg (fun hh => h1 hh.1), if_neg (fun hh => h1 hh.1)]
theorem sgs_eq : sgs = twos ++ ones.map (fun b => [b]) := by decide
theorem one_mem (t : List UInt8) (h : 0 < t.length) : t.take 1 ∈ ones.map (fun b => [b]) ↔ gb t 0 ∈ oneNums := by
  cases t with
  | nil => simp at h
  | cons x r =>
    have e : gb (x :: r) 0 = (x.toNat : Int) := by simp [gb]
    rw [e]
    simp only [List.take_succ_cons, List.take_zero, oneNums, List.mem_map, List.cons.injEq, and_true]
    constructor
    · rintro ⟨y, hy, rfl⟩; exact ⟨y, hy, rfl⟩
    · rintro ⟨y, hy, hxy⟩
      exact ⟨y, hy, UInt8.toNat_inj.1 (by omega)⟩
theorem sign_same (t : List UInt8) (h : 0 < t.length) : signAt t sgs = if signF t = 0 then none else some (t.take (signF t)) := by
  rw [sgs_eq, signAt_append, signAt_same t 2 twos (by decide), signAt_same t 1 _ (by decide)]
  unfold signF
  by_cases h2 : 2 ≤ t.length ∧ t.take 2 ∈ twos
  · rw [if_pos h2, if_pos h2]; rfl
  · rw [if_neg h2, if_neg h2]
    dsimp only
    by_cases h1 : gb t 0 ∈ oneNums
    · rw [if_pos h1, if_pos ⟨h, (one_mem t h).2 h1⟩]; rfl
    · rw [if_neg h1, if_neg (fun hh => h1 ((one_mem t h).1 hh.2))]; rfl

/-- The two see the same token. -/
theorem next_token (s : List UInt8) (b : Nat) (hb : b < s.length) : nextF (s.drop b) = tokenF s b := by
  have hl : (s.drop b).length = s.length - b := List.length_drop
  have hpos : 0 < (s.drop b).length := by omega
  have g0 : gb (s.drop b) 0 = gb s b := by rw [gb_drop]; rfl
  have hrun : ∀ p, runTo p (s.drop b) (s.drop b).length 0 = runTo p s (s.length - b) b - b := fun p => by
    have := runTo_drop p s b (s.length - b) 0
    rw [hl]; rw [Nat.add_zero] at this; omega
  have htake : ∀ p, (s.drop b).take (runTo p (s.drop b) (s.drop b).length 0) = runAt p s b := fun p => by rw [hrun]; rfl
  have hlen : ∀ p, (runAt p s b).length = runTo p (s.drop b) (s.drop b).length 0 := fun p => by
    have := runAt_length (p := p) (s := s) (a := b) (by omega)
    rw [hrun]; omega
  unfold nextF tokenF
  rw [wordTo_0 _ hpos, g0, wordI_false]
  by_cases hw : letterI (gb s b) = true
  · have hp : 0 < runTo (wordI true) (s.drop b) (s.drop b).length 0 := by
      have := runTo_pos (p := wordI true) hb (by rw [wordI_true, hw]; rfl)
      rw [hrun]; omega
    rw [if_pos hw, if_pos hw, if_pos hp, htake, hlen]
  · rw [if_neg hw, if_neg hw, if_neg (Nat.lt_irrefl 0), htake, ← hlen digitI]
    by_cases hd : digitI (gb s b) = true
    · have hp : 0 < (runAt digitI s b).length := by
        have := runTo_pos (p := digitI) hb hd
        rw [hlen, hrun]; omega
      rw [if_pos hd, if_pos hp]
    · have hz : (runAt digitI s b).length = 0 := by
        rw [hlen, hrun]
        rw [show s.length - b = (s.length - (b + 1)) + 1 by omega]
        unfold runTo
        rw [if_neg (fun hh => hd hh.2)]; omega
      rw [if_neg hd, hz, if_neg (by omega), if_neg (by omega), sign_same _ hpos]
      by_cases hs : signF (s.drop b) = 0
      · rw [if_pos hs, if_pos hs]
      · rw [if_neg hs, if_neg hs]
end Go.LexSem
