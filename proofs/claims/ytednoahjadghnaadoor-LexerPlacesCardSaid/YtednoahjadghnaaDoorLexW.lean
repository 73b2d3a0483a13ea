import Derived.Test.YtednoahjadghnaaDoorLexT
import Derived.Test.YtednoahjadghnaaDoorLexR
set_option linter.unusedSimpArgs false
set_option linter.unusedVariables false
set_option linter.loopingSimpArgs false
set_option maxRecDepth 100000
namespace Go.LexSem
open Go Go.V Go.Proofs

/-! The places of the tokens. -/
def cmN (cm : Bool) (x : Int) : Bool := (cm || decide (x = 35)) && !decide (x = 10)
def lnN (l : Nat) (x : Int) : Nat := if x = 10 then l + 1 else l
def clN (c : Nat) (x : Int) : Nat := if x = 10 then 1 else c + 1
inductive Gap (s : List UInt8) : Nat → Nat → Nat → Bool → Nat → Nat → Nat → Bool → Prop
  | refl {a l c cm} : Gap s a l c cm a l c cm
  | step {a l c cm b l' c' cm'} (ha : a < s.length) (ho : cmN cm (gb s a) = true ∨ blankI (gb s a) = true) (h : Gap s (a + 1) (lnN l (gb s a)) (clN c (gb s a)) (cmN cm (gb s a)) b l' c' cm') : Gap s a l c cm b l' c' cm'
theorem Gap.le {s : List UInt8} {a l c b l' c' : Nat} {cm cm' : Bool} (h : Gap s a l c cm b l' c' cm') : a ≤ b ∧ (a < b → b ≤ s.length) := by
  induction h with
  | refl => exact ⟨Nat.le_refl _, fun h => absurd h (Nat.lt_irrefl _)⟩
  | step ha _ _ ih => exact ⟨by omega, fun _ => by
      rcases Nat.lt_or_ge (_ + 1) _ with h | h
      · exact ih.2 h
      · have := ih.1; omega⟩
theorem Gap.lt {s : List UInt8} {a l c b l' c' : Nat} {cm cm' : Bool} (h : Gap s a l c cm b l' c' cm') : (a = b ∧ l = l' ∧ c = c' ∧ cm = cm') ∨ (a < b ∧ (l < l' ∨ (l = l' ∧ c < c'))) := by
  induction h with
  | refl => exact .inl ⟨rfl, rfl, rfl, rfl⟩
  | @step a l c cm b l' c' cm' ha _ hg ih =>
    refine .inr ⟨by have := hg.le.1; omega, ?_⟩
    have h0 : l < lnN l (gb s a) ∨ (l = lnN l (gb s a) ∧ c < clN c (gb s a)) := by
      unfold lnN clN; split <;> omega
    rcases ih with ⟨_, h1, h2, _⟩ | ⟨_, h1⟩
    · omega
    · omega
def PL (s : List UInt8) : List Tok → Nat → Nat → Nat → Bool → Prop
  | [], _, _, _, _ => False
  | [t], a, l, c, cm => ∃ b cm', Gap s a l c cm b t.2.2.1 t.2.2.2 cm' ∧ b = s.length ∧ t.1 = 5 ∧ t.2.1 = []
  | t :: t2 :: ts, a, l, c, cm => ∃ b, Gap s a l c cm b t.2.2.1 t.2.2.2 false ∧ t.1 ≠ 5 ∧ 0 < t.2.1.length ∧ ¬ gb s b = 10 ∧ b + t.2.1.length ≤ s.length ∧ (s.drop b).take t.2.1.length = t.2.1 ∧
      PL s (t2 :: ts) (b + t.2.1.length) t.2.2.1 (t.2.2.2 + t.2.1.length) false
theorem PL.step {s : List UInt8} {a l c : Nat} {cm : Bool} (ha : a < s.length) (ho : cmN cm (gb s a) = true ∨ blankI (gb s a) = true) : ∀ {ts : List Tok}, PL s ts (a + 1) (lnN l (gb s a)) (clN c (gb s a)) (cmN cm (gb s a)) → PL s ts a l c cm
  | [], h => h
  | [t], ⟨b, cm', h1, h2⟩ => ⟨b, cm', .step ha ho h1, h2⟩
  | t :: t2 :: ts, ⟨b, h1, h2⟩ => ⟨b, .step ha ho h1, h2⟩
/-- At a line's end, or at the end, it does not matter whether there was a comment. -/
theorem PL.comment {s : List UInt8} {a l c : Nat} (he : s.length ≤ a ∨ gb s a = 10) : ∀ {ts : List Tok}, PL s ts a l c false → PL s ts a l c true
  | [], h => h
  | [t], ⟨b, cm', h1, h2⟩ => by
    cases h1 with
    | refl => exact ⟨_, _, .refl, h2⟩
    | step ha ho hg =>
      have h10 : gb s a = 10 := by rcases he with h | h; omega; exact h
      refine ⟨b, cm', .step ha (.inr (by rw [h10]; rfl)) ?_, h2⟩
      rw [h10] at hg ⊢; exact hg
  | t :: t2 :: ts, ⟨b, h1, h2, h3, h0, h4, h5⟩ => by
    cases h1 with
    | refl =>
      rcases he with h | h
      · omega
      · exact absurd h h0
    | step ha ho hg =>
      have h10 : gb s a = 10 := by rcases he with h | h; omega; exact h
      refine ⟨b, .step ha (.inr (by rw [h10]; rfl)) ?_, h2, h3, h0, h4, h5⟩
      rw [h10] at hg ⊢; exact hg
theorem adv_flat (s : List UInt8) : ∀ n a l c, (∀ j, j < n → ¬ gb s (a + j) = 10) → adv s n (a, l, c) = (a + n, l, c + n)
  | 0, a, l, c, _ => rfl
  | n + 1, a, l, c, h => by
    have h0 := h 0 (by omega)
    rw [Nat.add_zero] at h0
    simp only [adv, h0, if_false]
    rw [adv_flat s n (a + 1) l (c + 1) fun j hj => by have := h (j + 1) (by omega); rwa [show a + (j + 1) = a + 1 + j by omega] at this]
    simp only [Prod.mk.injEq]; exact ⟨by omega, trivial, by omega⟩
theorem gb_of_drop {s : List UInt8} {a : Nat} {u r : List UInt8} (h : s.drop a = u ++ r) {j : Nat} (hj : j < u.length) : gb s (a + j) = iv u[j] := by
  have : s.drop (a + j) = u.drop j ++ r := by rw [← List.drop_drop, h, List.drop_append_of_le_length (by omega)]
  rw [List.drop_eq_getElem_cons hj, List.cons_append] at this
  exact (gb_cons this).2.1
theorem tokS_all {d : List UInt8} (h : (tokS d).2.2 = 0) : (∀ x ∈ (tokS d).2.1, ¬ iv x = 10) ∧ (tokS d).1 ≠ 5 := by
  have hw : ∀ x : UInt8, wordI true (iv x) = true → ¬ iv x = 10 := fun x hx e => by rw [e] at hx; revert hx; decide
  have hdg : ∀ x : UInt8, digitI (iv x) = true → ¬ iv x = 10 := fun x hx e => by rw [e] at hx; revert hx; decide
  have tw : ∀ (p : Int → Bool) (d : List UInt8) (x : UInt8), x ∈ twI p d → p (iv x) = true := fun p d x hx => tw_all (fun x => p (iv x)) _ _ hx
  unfold tokS at h ⊢
  cases d with
  | nil => cases h
  | cons y d =>
    dsimp only at h ⊢
    by_cases hy : wordI false (iv y) = true
    · simp only [if_pos hy] at h ⊢
      by_cases hk : twI (wordI true) (y :: d) ∈ kws
      · simp only [if_pos hk]; exact ⟨fun x hx => hw x (tw _ _ _ hx), by simp⟩
      · simp only [if_neg hk] at h ⊢
        by_cases hl : 12 < (twI (wordI true) (y :: d)).length
        · simp only [if_pos hl] at h; cases h
        · simp only [if_neg hl]; exact ⟨fun x hx => hw x (tw _ _ _ hx), by simp⟩
    · simp only [if_neg hy] at h ⊢
      by_cases hg : digitI (iv y) = true
      · simp only [if_pos hg] at h ⊢
        by_cases hl : 60 < (twI digitI (y :: d)).length
        · simp only [if_pos hl] at h; cases h
        · simp only [if_neg hl]; exact ⟨fun x hx => hdg x (tw _ _ _ hx), by simp⟩
      · simp only [if_neg hg] at h ⊢
        cases hs : signAt (y :: d) sgs with
        | none => rw [hs] at h; cases h
        | some t =>
          dsimp only
          refine ⟨fun x hx e => ?_, by simp⟩
          have := ((sgs_all t (signAt_some hs).1).2.2 x hx).2.1
          rw [e] at this; revert this; decide
theorem PL.run {s : List UInt8} {ts : List Tok} : ∀ n a l c cm, a + n ≤ s.length → (∀ j, j < n → ¬ gb s (a + j) = 10) → (n = 0 ∨ cm = true) → PL s ts (a + n) l (c + n) cm → PL s ts a l c cm
  | 0, a, l, c, cm, _, _, _, h => h
  | n + 1, a, l, c, cm, hle, hn, hc, h => by
    have h0 := hn 0 (by omega)
    rw [Nat.add_zero] at h0
    obtain rfl : cm = true := by rcases hc with h | h; omega; exact h
    have hcm : cmN true (gb s a) = true := by simp [cmN, h0]
    refine PL.step (by omega) (.inl hcm) ?_
    rw [hcm, show lnN l (gb s a) = l by simp [lnN, h0], show clN c (gb s a) = c + 1 by simp [clN, h0]]
    refine PL.run n (a + 1) l (c + 1) true (by omega) (fun j hj => by have := hn (j + 1) (by omega); rwa [show a + (j + 1) = a + 1 + j by omega] at this) (.inr rfl) ?_
    rw [show a + 1 + n = a + (n + 1) by omega, show c + 1 + n = c + (n + 1) by omega]; exact h
theorem PL.ne {s : List UInt8} {ts : List Tok} {a l c : Nat} {cm : Bool} (h : PL s ts a l c cm) : ts ≠ [] := fun e => by subst e; exact h
theorem lexF_PL (s : List UInt8) : ∀ k a l c acc, s.length - a = k → a ≤ s.length → (lexF s a l c acc).2.2 = 0 → ∃ us, lexF s a l c acc = (acc ++ us, (0, 0), 0) ∧ PL s us a l c false := by
  intro k
  induction k using Nat.strongRecOn with
  | _ k ih =>
    intro a l c acc hk ha he
    cases hd : s.drop a with
    | nil =>
      have hge : s.length ≤ a := by simpa using hd
      refine ⟨[(5, [], l, c)], ?_, a, false, .refl, by omega, rfl, rfl⟩
      unfold lexF
      rw [dif_neg (by omega)]
    | cons x r =>
      obtain ⟨h1, h2, h3⟩ := gb_cons hd
      unfold lexF at he ⊢
      rw [dif_pos h1, h2] at he ⊢
      by_cases hb : blankI (iv x) = true
      · rw [if_pos hb] at he ⊢
        obtain ⟨us, e1, e2⟩ := ih (s.length - (a + 1)) (by omega) _ _ _ acc rfl (by omega) he
        refine ⟨us, e1, PL.step h1 (.inr (by rw [h2]; exact hb)) ?_⟩
        have hcm : cmN false (gb s a) = false := by
          rw [h2]; simp only [cmN, Bool.false_or, Bool.and_eq_false_imp, decide_eq_true_eq]
          intro e; rw [e] at hb; exact absurd hb (by decide)
        rw [hcm]
        simp only [adv] at e2
        by_cases h10 : gb s a = 10
        · simp only [h10, if_true] at e2; simpa [lnN, clN, h10] using e2
        · simp only [h10, if_false] at e2; simpa [lnN, clN, h10] using e2
      · rw [if_neg hb] at he ⊢
        by_cases hc : iv x = 35
        · rw [if_pos hc] at he ⊢
          have hr : runAt notNl s a = twI notNl (x :: r) := by rw [runAt_tw _ (Nat.le_of_lt h1), hd]
          have hx : twI notNl (x :: r) = x :: twI notNl r := by unfold twI; rw [List.takeWhile_cons, if_pos (by rw [hc]; rfl)]
          have hsp : s.drop a = twI notNl (x :: r) ++ (x :: r).dropWhile (fun y => notNl (iv y)) := by
            rw [hd]; unfold twI; rw [List.takeWhile_append_dropWhile]
          have hlen : (twI notNl (x :: r)).length = (twI notNl r).length + 1 := by rw [hx]; rfl
          have hnl : ∀ j, j < (twI notNl (x :: r)).length → ¬ gb s (a + j) = 10 := fun j hj e => by
            rw [gb_of_drop hsp hj] at e
            have := tw_all (fun y => notNl (iv y)) _ _ (List.getElem_mem hj)
            simp [notNl, e] at this
          rw [hr] at he ⊢
          rw [adv_flat s _ a l c hnl] at he ⊢
          have hle : a + (twI notNl (x :: r)).length ≤ s.length := by
            have := congrArg List.length hsp
            simp at this; omega
          rw [Nat.max_eq_right (by dsimp only; omega)] at he ⊢
          dsimp only at he ⊢
          obtain ⟨us, e1, e2⟩ := ih (s.length - (a + (twI notNl (x :: r)).length)) (by omega) _ _ _ acc rfl hle he
          refine ⟨us, e1, ?_⟩
          have hend : s.length ≤ a + (twI notNl (x :: r)).length ∨ gb s (a + (twI notNl (x :: r)).length) = 10 := by
            have hdr := drop_add' hsp rfl
            cases hq : (x :: r).dropWhile (fun y => notNl (iv y)) with
            | nil => rw [hq] at hdr; exact .inl (by simpa using hdr)
            | cons z q =>
              rw [hq] at hdr
              have := dw_head hq
              simp only [notNl, Bool.not_eq_false', decide_eq_true_eq] at this
              exact .inr ((gb_cons hdr).2.1.trans this)
          have e3 := PL.comment hend e2
          have hcm : cmN false (gb s a) = true := by rw [h2, hc]; rfl
          refine PL.step h1 (.inl hcm) ?_
          have hn0 := hnl 0 (by omega)
          rw [Nat.add_zero] at hn0
          rw [hcm, show lnN l (gb s a) = l by simp [lnN, hn0], show clN c (gb s a) = c + 1 by simp [clN, hn0]]
          rw [hlen] at e3 hle hnl
          refine PL.run (twI notNl r).length (a + 1) l (c + 1) true (by omega) (fun j hj => by have := hnl (j + 1) (by omega); rwa [show a + (j + 1) = a + 1 + j by omega] at this) (.inr rfl) ?_
          rw [show a + 1 + (twI notNl r).length = a + ((twI notNl r).length + 1) by omega, show c + 1 + (twI notNl r).length = c + ((twI notNl r).length + 1) by omega]; exact e3
        · rw [if_neg hc] at he ⊢
          have ht := tokenF_S h1
          rw [hd] at ht
          rw [ht] at he ⊢
          by_cases hk0 : (tokS (x :: r)).2.2 = 0
          · rw [if_pos hk0] at he ⊢
            obtain ⟨hp, r', hr'⟩ := tokS_front hk0
            obtain ⟨ha1, ha2⟩ := tokS_all hk0
            generalize htk : tokS (x :: r) = tk at *
            obtain ⟨kd, t, er⟩ := tk
            dsimp only at *
            have hsp : s.drop a = t ++ r' := hd.trans hr'
            have hnl : ∀ j, j < t.length → ¬ gb s (a + j) = 10 := fun j hj => by
              rw [gb_of_drop hsp hj]; exact ha1 _ (List.getElem_mem hj)
            rw [adv_flat s _ a l c hnl] at he ⊢
            have hle : a + t.length ≤ s.length := by
              have := congrArg List.length hsp
              simp at this; omega
            rw [Nat.max_eq_right (by dsimp only; omega)] at he ⊢
            dsimp only at he ⊢
            obtain ⟨us, e1, e2⟩ := ih (s.length - (a + t.length)) (by omega) _ _ _ (acc ++ [(kd, t, l, c)]) rfl hle he
            refine ⟨(kd, t, l, c) :: us, by rw [e1]; simp, ?_⟩
            cases us with
            | nil => exact e2.elim
            | cons u us => exact ⟨a, .refl, ha2, hp, by have := hnl 0 hp; rwa [Nat.add_zero] at this, hle, by dsimp only; rw [hsp, List.take_left], e2⟩
          · rw [if_neg hk0] at he; exact absurd he hk0
theorem lexF_err (s : List UInt8) : ∀ k a l c acc, s.length - a = k → (lexF s a l c acc).2.2 ≠ 0 → (lexF s a l c acc).1 = [] := by
  intro k
  induction k using Nat.strongRecOn with
  | _ k ih =>
    intro a l c acc hk he
    unfold lexF at he ⊢
    split
    · rename_i h1
      rw [dif_pos h1] at he
      split
      · rename_i hb; rw [if_pos hb] at he; exact ih _ (by omega) _ _ _ _ rfl he
      · rename_i hb; rw [if_neg hb] at he
        split
        · rename_i hc; rw [if_pos hc] at he; exact ih _ (by omega) _ _ _ _ rfl he
        · rename_i hc; rw [if_neg hc] at he
          split
          · rename_i hk; rw [if_pos hk] at he; exact ih _ (by omega) _ _ _ _ rfl he
          · rfl
    · rename_i h1; rw [dif_neg h1] at he; exact absurd rfl he
end Go.LexSem
