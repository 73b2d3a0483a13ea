/-
 Texts joined: LexA LexB LexC LexD LexE LexF LexG LexH LexI LexJ LexK LexQ.
-/
import Derived.Test.YtenieameoojbjaaDoorME
import Derived.Test.YtenieameoojbjaaDoorMC
set_option linter.unusedVariables false
set_option linter.unusedSimpArgs false
set_option linter.loopingSimpArgs false
set_option maxRecDepth 8000
namespace Go.LexSem
open Go Go.V Go.Proofs

/-! ### bytes -/
def blankI (x : Int) : Bool := decide (x = 32) || (decide (x = 9) || decide (x = 10))
def digitI (x : Int) : Bool := decide (48 ≤ x) && decide (x ≤ 57)
def letterI (x : Int) : Bool := (decide (97 ≤ x) && decide (x ≤ 122)) || ((decide (65 ≤ x) && decide (x ≤ 90)) || decide (x = 95))

theorem digit_sem (x : Int) : FSem C 32 [.int .u8 x] [] fun r st => r = .ret (.bool (digitI x)) ∧ st = [] := by
 refine FSem.enter' (C := C) (n := 9) Tryd.func32 rfl rfl ok_32 (by simp) ?_
 simp only [argEnv]
 refine WC.rs fun K hK => ?_
 simp only [↓EJ, EX, FA, simprocAttr]
 refine hK _ ?_; try clear hK K
 refine WC.trim [0, 2] ?_
 simp only [ET, simprocAttr]
 refine WC.rs fun K hK => ?_
 simp only [↓EJ, EX, FA, simprocAttr]
 repeat' ((first | refine gW_split (fun h => ?_) (fun h => ?_) | refine gP_split (fun h => ?_) (fun h => ?_)) <;> simp only [↓EJ, EX, FA, simprocAttr, h, Bool.not_true, Bool.not_false])
 all_goals
  refine hK _ ?_; try clear hK K
  refine WC.trim [0, 2] ?_
  simp only [ET, simprocAttr]
  refine WC.ret ?_
  simp only [↓EJ, EX, FA, simprocAttr, EQ, FnQ, Tryd.results32, wResL, tup, List.reverse_cons, List.reverse_nil, true_and]
  refine endsPure (by simp only [CL]) ?_
  simp [digitI, h]

theorem blank_sem (x : Int) : FSem C 13 [.int .u8 x] [] fun r st => r = .ret (.bool (blankI x)) ∧ st = [] := by
 refine FSem.enter' (C := C) (n := 13) Tryd.func13 rfl rfl ok_13 (by simp) ?_
 simp only [argEnv]
 refine WC.rs fun K hK => ?_
 simp only [↓EJ, EX, FA, simprocAttr]
 refine hK _ ?_; try clear hK K
 refine WC.trim [0, 2] ?_
 simp only [ET, simprocAttr]
 refine WC.rs fun K hK => ?_
 simp only [↓EJ, EX, FA, simprocAttr]
 repeat' ((first | refine gW_split (fun h => ?_) (fun h => ?_) | refine gP_split (fun h => ?_) (fun h => ?_)) <;> simp only [↓EJ, EX, FA, simprocAttr, h, Bool.not_true, Bool.not_false])
 all_goals
  refine hK _ ?_; try clear hK K
  refine WC.trim [0, 2] ?_
  simp only [ET, simprocAttr]
  refine WC.ret ?_
  simp only [↓EJ, EX, FA, simprocAttr, EQ, FnQ, Tryd.results13, wResL, tup, List.reverse_cons, List.reverse_nil, true_and]
  refine endsPure (by simp only [CL]) ?_
  simp_all [blankI]

theorem comment_sem (x : Int) : FSem C 16 [.int .u8 x] [] fun r st => r = .ret (.bool (!decide (x = 10))) ∧ st = [] := by
 refine FSem.enter' (C := C) (n := 5) Tryd.func16 rfl rfl ok_16 (by simp) ?_
 simp only [argEnv]
 refine WC.rs fun K hK => ?_
 simp only [↓EJ, EX, FA, simprocAttr]
 refine hK _ ?_; try clear hK K
 refine WC.trim [0, 2] ?_
 simp only [ET, simprocAttr]
 refine WC.rs fun K hK => ?_
 simp only [↓EJ, EX, FA, simprocAttr]
 refine hK _ ?_; try clear hK K
 refine WC.trim [0, 2] ?_
 simp only [ET, simprocAttr]
 refine WC.ret ?_
 simp only [↓EJ, EX, FA, simprocAttr, EQ, FnQ, Tryd.results16, wResL, tup, List.reverse_cons, List.reverse_nil, true_and]
 exact endsPure (by simp only [CL]) rfl

/-- The reader. -/
def rd (s : List UInt8) (a l c : Int) : Blk := .row [.agg [.str s, .int .i64 a, .int .i64 l, .int .i64 c]] 4 58
theorem rd_closed (s : List UInt8) (a l c : Int) : ClosedB (rd s a l c) := fun f => rfl

theorem pos_sem (s : List UInt8) (a l c : Int) : FSem C 12 [.ptr (.o 0) 0 0] [rd s a l c] fun r st => r = .ret (.agg [.int .i64 l, .int .i64 c]) ∧ st = [rd s a l c] := by
 refine FSem.enter' (C := C) (n := 12) Tryd.func12 rfl rfl ok_12 (by simp) ?_
 simp only [argEnv]
 refine WC.rs fun K hK => ?_
 simp only [↓EJ, EX, FA, simprocAttr]
 refine hK _ ?_; try clear hK K
 refine WC.trim [0, 2] ?_
 simp only [ET, simprocAttr]
 refine WC.ds [⟨0, 0, false, []⟩, ⟨1, 0, false, []⟩, ⟨2, 0, false, []⟩, ⟨3, 0, false, []⟩, ⟨4, 0, false, []⟩, ⟨5, 0, false, []⟩, ⟨6, 0, false, []⟩, ⟨7, 0, false, []⟩, ⟨8, 0, false, []⟩, ⟨9, 1, false, []⟩] [0, 1, 3, 7, 0, 16, 48, 112, 255, 511] mo (by kernel_rfl) (by simp only [EPl, List.getElem?_cons_zero, List.getElem?_cons_succ]; rfl) fun K hK => ?_
 simp only [↓EJ, EX, FA, simprocAttr, rd]
 refine hK _ ?_; try clear hK K
 refine WC.trim [0, 2] ?_
 simp only [ET, simprocAttr]
 refine WC.ret ?_
 simp only [↓EJ, EX, FA, simprocAttr, EQ, FnQ, Tryd.results12, wResL, tup, List.reverse_cons, List.reverse_nil, true_and]
 exact EndsIn.plain (by simp only [CL, and_self]) (fun k hk => by simp only [List.mem_singleton] at hk; subst hk; exact rd_closed s a l c) ⟨rfl, rfl⟩
end Go.LexSem
set_option maxRecDepth 8000
namespace Go.LexSem
open Go Go.V Go.Proofs

/-- The reader k bytes on. -/
def adv (s : List UInt8) : Nat → Nat × Nat × Nat → Nat × Nat × Nat
 | 0, p => p
 | k + 1, (a, l, c) => adv s k (if gb s a = 10 then (a + 1, l + 1, 1) else (a + 1, l, c + 1))

theorem step_sem (s : List UInt8) (hs : s.length ≤ 8192) (k a l c : Nat) (hk : a + k ≤ s.length) (hl : l ≤ a + 1) (hc : c ≤ a + 1) :
 FSem C 14 [.ptr (.o 0) 0 0, .int .i64 k] [rd s a l c] fun r st => r = .ret (.tuple []) ∧ st = [rd s (adv s k (a, l, c)).1 (adv s k (a, l, c)).2.1 (adv s k (a, l, c)).2.2] := by
 refine FSem.enter' (C := C) (n := 43) Tryd.func14 rfl rfl ok_14 (by simp) ?_
 simp only [argEnv]
 refine WC.rs fun K hK => ?_
 simp only [↓EJ, EX, FA, simprocAttr]
 refine hK _ ?_; try clear hK K
 refine WC.trim [0, 1, 4, 5, 6, 23] ?_
 simp only [ET, simprocAttr]
 refine WC.b1 ?_
 refine WC.loop (X := Nat × Nat × Nat × Nat) (fun x => ⟨[(5, .int .i64 (x.1 : Nat)), (4, .int .i64 k), (0, .ptr (.o 0) 0 0)], [rd s x.2.1 x.2.2.1 x.2.2.2], [], []⟩)
  (fun x => x.1 ≤ k ∧ x.2.1 = a + x.1 ∧ x.2.2.1 ≤ x.2.1 + 1 ∧ x.2.2.2 ≤ x.2.1 + 1 ∧ adv s (k - x.1) (x.2.1, x.2.2.1, x.2.2.2) = adv s k (a, l, c)) (fun x => k - x.1) (0, a, l, c) [] ⟨by omega, rfl, hl, hc, rfl⟩ ?_ ?_
 ·refine ⟨by simp, by simp only [EV, EB, EL, ER, ET, and_self, true_and, and_true, Nat.reduceEqDiff, reduceCtorEq, reduceIte, rd], by simp only [EV, EB, EL, ER, ET, and_self, true_and, and_true, Nat.reduceEqDiff, reduceCtorEq, reduceIte, rd], by simp only [EV, EB, EL, ER, ET, and_self, true_and, and_true, Nat.reduceEqDiff, reduceCtorEq, reduceIte, rd, pick], rfl⟩
 ·rintro ⟨i, a', l', c'⟩ ⟨hi, ha, hl', hc', had⟩
  dsimp only at hi ha hl' hc' had ⊢
  subst ha
  refine WC.rs fun K hK => ?_
  simp only [↓EJ, EX, FA, simprocAttr]
  refine hK _ ?_; try clear hK K
  refine WC.trim [0, 1, 4, 5, 6, 23] ?_
  simp only [ET, simprocAttr]
  refine WC.cs (c := .tmp 6) rfl fun K2 hK2 => ⟨fun h => ?_, fun h => ?_⟩
  ·refine WC.skip ?_
   simp only [EQ]
   refine hK2 _ ?_; try clear hK2 K2
   have hik : i < k := by simpa using h
   refine WC.bs fun K2 hK2 => ?_
   refine WC.rs fun K hK => ?_
   simp (maxSteps := 1000000) (disch := omega) only [↓EJ, EX, FA, simprocAttr, w64, wu64, rd]
   refine hK _ ?_; try clear hK K
   refine WC.trim [0, 1, 4, 5, 6, 23] ?_
   simp only [ET, simprocAttr]
   refine WC.sK fun K3 hK3 => ?_
   refine WC.ds [⟨0, 0, false, []⟩, ⟨1, 0, false, []⟩, ⟨2, 0, false, []⟩, ⟨3, 0, false, []⟩, ⟨4, 0, false, []⟩, ⟨5, 0, false, []⟩, ⟨6, 0, false, []⟩, ⟨7, 0, false, []⟩, ⟨8, 0, false, []⟩, ⟨9, 0, false, []⟩] [0, 1, 3, 7, 0, 16, 48, 112, 255, 511] mo (by kernel_rfl) (by simp only [EPl, List.getElem?_cons_zero, List.getElem?_cons_succ]; rfl) fun K hK => ?_
   simp (maxSteps := 1000000) (disch := omega) only [↓EJ, EX, FA, simprocAttr, w64, wu64]
   refine ⟨by omega, by omega, ?_⟩
   refine hK _ ?_; try clear hK K
   refine WC.trim [0, 1, 4, 5, 6, 23] ?_
   simp only [ET, simprocAttr]
   refine WC.cond (c := .tmp 23) rfl (fun h => ?_) (fun h => ?_)
   ·have h10 : gb s (a + i) = 10 := by simpa using h
    refine WC.r1 ?_
    simp (maxSteps := 1000000) (disch := omega) only [↓EJ, EX, FA, simprocAttr, w64, wu64]
    try simp only [EQ, reduceIte, Nat.reduceEqDiff]
    refine hK3 _ ?_; try clear hK3 K3
    refine WC.r1 ?_
    simp (maxSteps := 1000000) (disch := omega) only [↓EJ, EX, FA, simprocAttr, w64, wu64]
    try simp only [EQ, reduceIte, Nat.reduceEqDiff]
    refine hK2 _ ?_; try clear hK2 K2
    refine WC.r1 ?_
    simp (maxSteps := 1000000) (disch := omega) only [↓EJ, EX, FA, simprocAttr, w64, wu64]
    try simp only [EQ, reduceIte, Nat.reduceEqDiff]
    refine ⟨(i + 1, a + i + 1, l' + 1, 1), [], ⟨by dsimp only; omega, by dsimp only; omega, by dsimp only; omega, by dsimp only; omega, ?_⟩, by dsimp only; omega, ?_⟩
    ·rw [← had, show k - i = (k - (i + 1)) + 1 by omega]
     simp only [adv, h10, if_true]
    ·refine ⟨by simp, by simp only [EV, EB, EL, ER, ET, and_self, true_and, and_true, Nat.reduceEqDiff, reduceCtorEq, reduceIte, rd, Int.natCast_add], by simp only [EV, EB, EL, ER, ET, and_self, true_and, and_true, Nat.reduceEqDiff, reduceCtorEq, reduceIte, rd, Int.natCast_add], by simp only [EV, EB, EL, ER, ET, and_self, true_and, and_true, Nat.reduceEqDiff, reduceCtorEq, reduceIte, rd, Int.natCast_add, pick], rfl⟩
   ·have h10 : ¬ gb s (a + i) = 10 := by simpa using h
    refine WC.skip ?_
    simp only [EQ]
    refine hK3 _ ?_; try clear hK3 K3
    refine WC.r1 ?_
    simp (maxSteps := 1000000) (disch := omega) only [↓EJ, EX, FA, simprocAttr, w64, wu64]
    try simp only [EQ, reduceIte, Nat.reduceEqDiff]
    refine hK2 _ ?_; try clear hK2 K2
    refine WC.r1 ?_
    simp (maxSteps := 1000000) (disch := omega) only [↓EJ, EX, FA, simprocAttr, w64, wu64]
    try simp only [EQ, reduceIte, Nat.reduceEqDiff]
    refine ⟨(i + 1, a + i + 1, l', c' + 1), [], ⟨by dsimp only; omega, by dsimp only; omega, by dsimp only; omega, by dsimp only; omega, ?_⟩, by dsimp only; omega, ?_⟩
    ·rw [← had, show k - i = (k - (i + 1)) + 1 by omega]
     simp only [adv, h10, if_false]
    ·refine ⟨by simp, by simp only [EV, EB, EL, ER, ET, and_self, true_and, and_true, Nat.reduceEqDiff, reduceCtorEq, reduceIte, rd, Int.natCast_add], by simp only [EV, EB, EL, ER, ET, and_self, true_and, and_true, Nat.reduceEqDiff, reduceCtorEq, reduceIte, rd, Int.natCast_add], by simp only [EV, EB, EL, ER, ET, and_self, true_and, and_true, Nat.reduceEqDiff, reduceCtorEq, reduceIte, rd, Int.natCast_add, pick], rfl⟩
  ·have hik : i = k := by simp at h; omega
   refine WC.exit ?_
   simp only [EQ, reduceIte, Nat.reduceEqDiff]
   simp only [FnQ, Tryd.results14, wResL, tup, List.reverse_nil, true_and]
   subst hik
   rw [Nat.sub_self] at had
   simp only [adv] at had
   rw [← had]
   exact EndsIn.plain (by simp only [CL, and_self]) (fun b hb => by simp only [List.mem_singleton] at hb; subst hb; exact rd_closed _ _ _ _) ⟨rfl, rfl⟩
end Go.LexSem
set_option maxRecDepth 8000
namespace Go.LexSem
open Go Go.V Go.Proofs

theorem hasPrefix0_sem (s p : List UInt8) : FSem C 43 [.str s, .str p] [] fun r st => r = .ret (.bool (decide (p.length ≤ s.length) && decide (s.take p.length = p))) ∧ st = [] := by
 refine FSem.enter' (C := C) (n := 18) Tryd.func43 rfl rfl ok_43 (by simp) ?_
 simp only [argEnv]
 refine WC.rs fun K hK => ?_
 simp only [↓EJ, EX, FA, simprocAttr]
 refine hK _ ?_; try clear hK K
 refine WC.trim [0, 1, 4] ?_
 simp only [ET, simprocAttr]
 refine WC.rs fun K hK => ?_
 simp only [↓EJ, EX, FA, simprocAttr]
 repeat' ((first | refine gW_split (fun h => ?_) (fun h => ?_) | refine gP_split (fun h => ?_) (fun h => ?_)) <;> simp only [↓EJ, EX, FA, simprocAttr, h, Bool.not_true, Bool.not_false])
 ·have hl : p.length ≤ s.length := by simp at h; omega
  repeat refine And.intro (by omega) ?_
  refine hK _ ?_; try clear hK K
  refine WC.trim [0, 1, 4] ?_
  simp only [ET, simprocAttr]
  refine WC.ret ?_
  simp only [↓EJ, EX, FA, simprocAttr, EQ, FnQ, Tryd.results43, wResL, tup, List.reverse_cons, List.reverse_nil, true_and]
  refine endsPure (by simp only [CL]) ?_
  simp [hl]
 ·have hl : ¬ p.length ≤ s.length := by simp at h; omega
  refine hK _ ?_; try clear hK K
  refine WC.trim [0, 1, 4] ?_
  simp only [ET, simprocAttr]
  refine WC.ret ?_
  simp only [↓EJ, EX, FA, simprocAttr, EQ, FnQ, Tryd.results43, wResL, tup, List.reverse_cons, List.reverse_nil, true_and]
  refine endsPure (by simp only [CL]) ?_
  simp [hl]

theorem hasPrefix_sem (s p : List UInt8) : FSem C 34 [.str s, .str p] [] fun r st => r = .ret (.bool (decide (p.length ≤ s.length) && decide (s.take p.length = p))) ∧ st = [] := by
 refine FSem.enter' (C := C) (n := 8) Tryd.func34 rfl rfl ok_34 (by simp) ?_
 simp only [argEnv]
 refine WC.rs fun K hK => ?_
 simp only [↓EJ, EX, FA, simprocAttr]
 refine hK _ ?_; try clear hK K
 refine WC.trim [0, 1, 4] ?_
 simp only [ET, simprocAttr]
 refine WC.rs fun K hK => ?_
 simp only [↓EJ, EX, FA, simprocAttr]
 refine CallX.mk (CallW.pure (hasPrefix0_sem s p) (by simp only [CL, and_self]) (by simp only [CL]) ?_)
 simp only [↓EJ, EX, FA, simprocAttr]
 refine hK _ ?_; try clear hK K
 refine WC.trim [0, 1, 4] ?_
 simp only [ET, simprocAttr]
 refine WC.ret ?_
 simp only [↓EJ, EX, FA, simprocAttr, EQ, FnQ, Tryd.results34, wResL, tup, List.reverse_cons, List.reverse_nil, true_and]
 exact endsPure (by simp only [CL]) rfl

/-- A letter, a digit or an underscore: what a word is made of. -/
def wordI (dg : Bool) (x : Int) : Bool := decide (x = 95) || ((decide (97 ≤ x) && decide (x ≤ 122)) || ((decide (65 ≤ x) && decide (x ≤ 90)) || (dg && digitI x)))

theorem has_sem (dg : Bool) (x : Int) : FSem C 29 [.agg [.bool dg], .int .u8 x] [] fun r st => r = .ret (.bool (wordI dg x)) ∧ st = [] := by
 refine FSem.enter' (C := C) (n := 31) Tryd.func29 rfl rfl ok_29 (by simp) ?_
 simp only [argEnv]
 refine WC.rs fun K hK => ?_
 simp only [↓EJ, EX, FA, simprocAttr]
 refine hK _ ?_; try clear hK K
 refine WC.trim [0, 1, 2, 4] ?_
 simp only [ET, simprocAttr]
 refine WC.rs fun K hK => ?_
 simp only [↓EJ, EX, FA, simprocAttr]
 repeat' ((first | refine gW_split (fun h => ?_) (fun h => ?_) | refine gP_split (fun h => ?_) (fun h => ?_) | refine CallX.mk (CallW.pure (digit_sem x) (by simp only [CL, and_self]) (by simp only [CL]) ?_)) <;> (try simp only [↓EJ, EX, FA, simprocAttr, h, Bool.not_true, Bool.not_false]))
 all_goals
  refine hK _ ?_; try clear hK K
  refine WC.trim [0, 1, 2, 4] ?_
  simp only [ET, simprocAttr]
  refine WC.ret ?_
  simp only [↓EJ, EX, FA, simprocAttr, EQ, FnQ, Tryd.results29, wResL, tup, List.reverse_cons, List.reverse_nil, true_and]
  refine endsPure (by simp only [CL]) ?_
  simp_all [wordI, digitI] <;> first | omega | (rw [Bool.eq_iff_iff]; simp; omega)

/-- Where a run of bytes that p likes ends. -/
def runTo (p : Int → Bool) (s : List UInt8) : Nat → Nat → Nat
 | 0, t => t
 | f + 1, t => if t < s.length ∧ p (gb s t) = true then runTo p s f (t + 1) else t
theorem runTo_ge (p : Int → Bool) (s : List UInt8) : ∀ f t, t ≤ runTo p s f t
 | 0, t => Nat.le_refl _
 | f + 1, t => by
   unfold runTo
   split
   ·exact Nat.le_trans (Nat.le_succ _) (runTo_ge p s f (t + 1))
   ·exact Nat.le_refl _
theorem runTo_le (p : Int → Bool) (s : List UInt8) : ∀ f t, t ≤ s.length → runTo p s f t ≤ s.length
 | 0, t, h => h
 | f + 1, t, h => by
   unfold runTo
   split
   ·rename_i hc; exact runTo_le p s f (t + 1) hc.1
   ·exact h

theorem run_sem (s : List UInt8) (hs : s.length ≤ 8192) (a l c : Nat) (ha : a ≤ s.length) (g : Nat) (first : List PVal) (hf : ClosedL first) (p : Int → Bool)
 (hp : ∀ x, FSem C g (first ++ [.int .u8 x]) [] fun r st => r = .ret (.bool (p x)) ∧ st = []) :
 FSem C 15 [.ptr (.o 0) 0 0, .fn (.func g) first []] [rd s a l c] fun r st => r = .ret (.str ((s.drop a).take (runTo p s (s.length - a) a - a))) ∧ st = [rd s a l c] := by
 refine FSem.enter' (C := C) (n := 39) Tryd.func15 rfl rfl ok_15 (by simp) ?_
 simp only [argEnv]
 refine WC.rs fun K hK => ?_
 simp only [↓EJ, EX, FA, simprocAttr]
 refine hK _ ?_; try clear hK K
 refine WC.trim [0, 1, 4, 5, 26] ?_
 simp only [ET, simprocAttr]
 refine WC.rs fun K hK => ?_
 simp only [↓EJ, EX, FA, simprocAttr, rd]
 refine hK _ ?_; try clear hK K
 refine WC.trim [0, 1, 4, 5, 26] ?_
 simp only [ET, simprocAttr]
 refine WC.bs fun KB hKB => ?_
 refine WC.loop (X := Nat) (fun t => ⟨[(5, .int .i64 t), (4, .str []), (0, .ptr (.o 0) 0 0), (1, .fn (.func g) first [])], [rd s a l c], [], []⟩)
  (fun t => a ≤ t ∧ t ≤ s.length ∧ runTo p s (s.length - t) t = runTo p s (s.length - a) a) (fun t => s.length - t) a [] ⟨Nat.le_refl _, ha, rfl⟩ ?_ ?_
 ·refine ⟨by simp, by simp only [EV, EB, EL, ER, ET, and_self, true_and, and_true, Nat.reduceEqDiff, reduceCtorEq, reduceIte, rd, hf _], by simp only [EV, EB, EL, ER, ET, and_self, true_and, and_true, Nat.reduceEqDiff, reduceCtorEq, reduceIte, rd, hf _], by simp only [EV, EB, EL, ER, ET, and_self, true_and, and_true, Nat.reduceEqDiff, reduceCtorEq, reduceIte, rd, hf _, pick], rfl⟩
 ·rintro t ⟨h1, h2, h3⟩
  refine WC.sK fun K2 hK2 => ?_
  refine WC.rs fun K hK => ?_
  simp only [↓EJ, EX, FA, simprocAttr, rd]
  refine gW_split (fun h => ?_) (fun h => ?_)
  ·have hlt : t < s.length := by simp at h; omega
   simp only [↓EJ, EX, FA, simprocAttr, h]
   repeat refine And.intro (by omega) ?_
   refine CallX.mk (CallW.pure (hp _) (ClosedL.append hf (by simp only [CL, and_self])) (by simp only [CL]) ?_)
   simp only [↓EJ, EX, FA, simprocAttr]
   refine hK _ ?_; try clear hK K
   refine WC.trim [0, 1, 4, 5, 26] ?_
   simp only [ET, simprocAttr]
   refine WC.cond (c := .tmp 26) rfl (fun h => ?_) (fun h => ?_)
   ·refine WC.skip ?_
    simp only [EQ]
    refine hK2 _ ?_; try clear hK2 K2
    refine WC.b1 ?_
    refine WC.r1 ?_
    simp (maxSteps := 1000000) (disch := omega) only [↓EJ, EX, FA, simprocAttr, w64, wu64]
    try simp only [EQ, reduceIte, Nat.reduceEqDiff]
    refine ⟨t + 1, [], ⟨by omega, by omega, ?_⟩, by omega, ?_⟩
    ·rw [← h3, show s.length - t = (s.length - (t + 1)) + 1 by omega]
     conv => rhs; unfold runTo
     rw [if_pos ⟨hlt, h⟩]
    ·refine ⟨by simp, by simp only [EV, EB, EL, ER, ET, and_self, true_and, and_true, Nat.reduceEqDiff, reduceCtorEq, reduceIte, rd, Int.natCast_add, hf _], by simp only [EV, EB, EL, ER, ET, and_self, true_and, and_true, Nat.reduceEqDiff, reduceCtorEq, reduceIte, rd, Int.natCast_add, hf _], by simp only [EV, EB, EL, ER, ET, and_self, true_and, and_true, Nat.reduceEqDiff, reduceCtorEq, reduceIte, rd, Int.natCast_add, hf _, pick], rfl⟩
   ·refine WC.exit ?_
    simp only [EQ, reduceIte, Nat.reduceEqDiff]
    refine hKB _ ?_; clear hK2 K2 hKB KB
    have hend : runTo p s (s.length - a) a = t := by
     rw [← h3, show s.length - t = (s.length - (t + 1)) + 1 by omega]
     unfold runTo
     rw [if_neg (by simp [h])]
    refine WC.ds [⟨0, 0, false, []⟩, ⟨1, 0, false, []⟩, ⟨2, 0, false, []⟩, ⟨3, 0, false, []⟩, ⟨4, 0, false, []⟩, ⟨5, 0, false, []⟩, ⟨6, 0, false, []⟩, ⟨7, 0, false, []⟩, ⟨8, 0, false, []⟩, ⟨9, 0, false, []⟩, ⟨10, 0, false, []⟩] [0, 1, 3, 7, 0, 16, 48, 112, 0, 511, 1023] mo (by kernel_rfl) (by simp only [EPl, List.getElem?_cons_zero, List.getElem?_cons_succ]; rfl) fun K hK => ?_
    simp only [↓EJ, EX, FA, simprocAttr, rd]
    repeat refine And.intro (by omega) ?_
    refine hK _ ?_; try clear hK K
    refine WC.trim [0, 1, 4, 5, 26] ?_
    simp only [ET, simprocAttr]
    refine WC.ret ?_
    simp only [↓EJ, EX, FA, simprocAttr, EQ, FnQ, Tryd.results15, wResL, tup, List.reverse_cons, List.reverse_nil, true_and]
    rw [hend]
    exact endsSame (by simp only [CL, and_self]) (closedBs_cons (fun f => rfl) closedBs_nil) ⟨rfl, rfl⟩
  ·have hge : s.length ≤ t := by simp at h; omega
   have hend : runTo p s (s.length - a) a = t := by
    rw [← h3, show s.length - t = 0 by omega]; rfl
   simp only [↓EJ, EX, FA, simprocAttr, h, Bool.not_true]
   refine hK _ ?_; try clear hK K
   refine WC.trim [0, 1, 4, 5, 26] ?_
   simp only [ET, simprocAttr]
   refine WC.cond (c := .tmp 26) rfl (fun h => ?_) (fun h => ?_)
   ·cases h
   ·refine WC.exit ?_
    simp only [EQ, reduceIte, Nat.reduceEqDiff]
    refine hKB _ ?_; clear hK2 K2 hKB KB
    refine WC.ds [⟨0, 0, false, []⟩, ⟨1, 0, false, []⟩, ⟨2, 0, false, []⟩, ⟨3, 0, false, []⟩, ⟨4, 0, false, []⟩, ⟨5, 0, false, []⟩, ⟨6, 0, false, []⟩, ⟨7, 0, false, []⟩, ⟨8, 0, false, []⟩, ⟨9, 0, false, []⟩, ⟨10, 0, false, []⟩] [0, 1, 3, 7, 0, 16, 48, 112, 0, 511, 1023] mo (by kernel_rfl) (by simp only [EPl, List.getElem?_cons_zero, List.getElem?_cons_succ]; rfl) fun K hK => ?_
    simp only [↓EJ, EX, FA, simprocAttr, rd]
    repeat refine And.intro (by omega) ?_
    refine hK _ ?_; try clear hK K
    refine WC.trim [0, 1, 4, 5, 26] ?_
    simp only [ET, simprocAttr]
    refine WC.ret ?_
    simp only [↓EJ, EX, FA, simprocAttr, EQ, FnQ, Tryd.results15, wResL, tup, List.reverse_cons, List.reverse_nil, true_and]
    rw [hend]
    exact endsSame (by simp only [CL, and_self]) (closedBs_cons (fun f => rfl) closedBs_nil) ⟨rfl, rfl⟩
end Go.LexSem
set_option maxRecDepth 8000
namespace Go.LexSem
open Go Go.V Go.Proofs

/-! ### words in lists -/
def ixF (w : List UInt8) : List (List UInt8) → Nat → Int
 | [], _ => -1
 | x :: r, k => if w = x then (k : Int) else ixF w r (k + 1)
theorem ixF_mem (w : List UInt8) : ∀ (ws : List (List UInt8)) (k : Nat), decide (0 ≤ ixF w ws k) = decide (w ∈ ws)
 | [], k => by simp [ixF]
 | x :: r, k => by
   unfold ixF
   by_cases h : w = x
   ·simp [h]
   ·rw [if_neg h, ixF_mem w r (k + 1)]; simp [h]
theorem drop_at {α : Type} {ws : List α} {i : Nat} (h : i < ws.length) : ws.drop i = ws[i] :: ws.drop (i + 1) := (List.getElem_cons_drop (h := h)).symm
theorem gi_map {α : Type} (f : α → PVal) (ws : List α) {i : Nat} (h : i < ws.length) : gi (ws.map f) i = f ws[i] := by
 simp [gi, List.getD_eq_getElem?_getD, h]
theorem strs_closed (ws : List (List UInt8)) : ClosedL (ws.map .str) := ClosedL.map (fun s => fun _ => rfl) ws

theorem index_sem (ws : List (List UInt8)) (w : List UInt8) (hl : ws.length ≤ 1000) : FSem C 41 [.slc (ws.map .str), .str w] [] fun r st => r = .ret (.int .i64 (ixF w ws 0)) ∧ st = [] := by
 refine FSem.enter' (C := C) (n := 19) Tryd.func41 rfl rfl ok_41 (by simp) ?_
 simp only [argEnv]
 refine WC.rs fun K hK => ?_
 simp only [↓EJ, EX, FA, simprocAttr]
 refine hK _ ?_; try clear hK K
 refine WC.trim [0, 1, 4, 5, 7, 8, 9, 16] ?_
 simp only [ET, simprocAttr]
 refine WC.sK fun K1 hK1 => ?_
 refine WC.rs fun K hK => ?_
 simp only [↓EJ, EX, FA, simprocAttr, List.length_map]
 refine hK _ ?_; try clear hK K
 refine WC.trim [0, 1, 4, 5, 7, 8, 9, 16] ?_
 simp only [ET, simprocAttr]
 refine WC.b1 ?_
 refine WC.loop (X := Nat) (fun i => ⟨[(8, .int .i64 i), (7, .int .i64 ws.length), (4, .int .i64 0), (0, .slc (ws.map .str)), (1, .str w)], [], [], []⟩)
  (fun i => i ≤ ws.length ∧ ixF w (ws.drop i) i = ixF w ws 0) (fun i => ws.length - i) 0 [] ⟨Nat.zero_le _, rfl⟩ ?_ ?_
 ·refine ⟨by simp, by simp only [EV, EB, EL, ER, ET, and_self, true_and, and_true, Nat.reduceEqDiff, reduceCtorEq, reduceIte, strs_closed ws _], by simp only [EV, EB, EL, ER, ET, and_self, true_and, and_true, Nat.reduceEqDiff, reduceCtorEq, reduceIte, strs_closed ws _], by simp only [EV, EB, EL, ER, ET, and_self, true_and, and_true, Nat.reduceEqDiff, reduceCtorEq, reduceIte, strs_closed ws _, pick], rfl⟩
 ·rintro i ⟨h1, h2⟩
  refine WC.rs fun K hK => ?_
  simp only [↓EJ, EX, FA, simprocAttr]
  refine hK _ ?_; try clear hK K
  refine WC.trim [0, 1, 4, 5, 7, 8, 9, 16] ?_
  simp only [ET, simprocAttr]
  refine WC.cs (c := .tmp 9) rfl fun K2 hK2 => ⟨fun h => ?_, fun h => ?_⟩
  ·have hlt : i < ws.length := by simpa using h
   have hg := gi_map .str ws hlt
   refine WC.skip ?_
   simp only [EQ]
   refine hK2 _ ?_; try clear hK2 K2
   refine WC.bs fun K3 hK3 => ?_
   refine WC.rs fun K hK => ?_
   simp only [↓EJ, EX, FA, simprocAttr]
   refine hK _ ?_; try clear hK K
   refine WC.trim [0, 1, 4, 5, 7, 8, 9, 16] ?_
   simp only [ET, simprocAttr]
   refine WC.rs fun K hK => ?_
   simp only [↓EJ, EX, FA, simprocAttr, hg, List.length_map]
   repeat refine And.intro (by omega) ?_
   refine hK _ ?_; try clear hK K
   refine WC.trim [0, 1, 4, 5, 7, 8, 9, 16] ?_
   simp only [ET, simprocAttr]
   refine WC.cond (c := .tmp 16) rfl (fun h => ?_) (fun h => ?_)
   ·have hw : w = ws[i] := by simpa using h
    refine WC.rs fun K hK => ?_
    simp only [↓EJ, EX, FA, simprocAttr]
    refine hK _ ?_; try clear hK K
    refine WC.trim [0, 1, 4, 5, 7, 8, 9, 16] ?_
    simp only [ET, simprocAttr]
    refine WC.ret ?_
    simp only [↓EJ, EX, FA, simprocAttr, EQ, FnQ, Tryd.results41, wResL, tup, List.reverse_cons, List.reverse_nil, true_and]
    refine endsPure (by simp only [CL]) ?_
    rw [← h2, drop_at hlt, ixF, if_pos hw]
   ·have hw : ¬ w = ws[i] := by simpa using h
    refine WC.skip ?_
    try simp only [EQ, reduceIte, Nat.reduceEqDiff]
    refine hK3 _ ?_; try clear hK3 K3
    refine WC.r1 ?_
    simp (maxSteps := 1000000) (disch := omega) only [↓EJ, EX, FA, simprocAttr, w64, wu64]
    try simp only [EQ, reduceIte, Nat.reduceEqDiff]
    refine ⟨i + 1, [], ⟨by omega, ?_⟩, by omega, ?_⟩
    ·rw [← h2, drop_at hlt, ixF, if_neg hw]
    ·refine ⟨by simp, by simp only [EV, EB, EL, ER, ET, and_self, true_and, and_true, Nat.reduceEqDiff, reduceCtorEq, reduceIte, Int.natCast_add, strs_closed ws _], by simp only [EV, EB, EL, ER, ET, and_self, true_and, and_true, Nat.reduceEqDiff, reduceCtorEq, reduceIte, Int.natCast_add, strs_closed ws _], by simp only [EV, EB, EL, ER, ET, and_self, true_and, and_true, Nat.reduceEqDiff, reduceCtorEq, reduceIte, Int.natCast_add, strs_closed ws _, pick], rfl⟩
  ·have hge : i = ws.length := by simp at h; omega
   refine WC.exit ?_
   simp only [EQ, reduceIte, Nat.reduceEqDiff]
   try simp only [EQ, reduceIte, Nat.reduceEqDiff]
   refine hK1 _ ?_; try clear hK1 K1
   refine WC.rs fun K hK => ?_
   simp only [↓EJ, EX, FA, simprocAttr]
   refine hK _ ?_; try clear hK K
   refine WC.trim [0, 1, 4, 5, 7, 8, 9, 16] ?_
   simp only [ET, simprocAttr]
   refine WC.ret ?_
   simp only [↓EJ, EX, FA, simprocAttr, EQ, FnQ, Tryd.results41, wResL, tup, List.reverse_cons, List.reverse_nil, true_and]
   refine endsPure (by simp only [CL]) ?_
   rw [← h2, hge, List.drop_length]; rfl

theorem contains_sem (ws : List (List UInt8)) (w : List UInt8) (hl : ws.length ≤ 1000) : FSem C 30 [.slc (ws.map .str), .str w] [] fun r st => r = .ret (.bool (decide (w ∈ ws))) ∧ st = [] := by
 refine FSem.enter' (C := C) (n := 9) Tryd.func30 rfl rfl ok_30 (by simp) ?_
 simp only [argEnv]
 refine WC.rs fun K hK => ?_
 simp only [↓EJ, EX, FA, simprocAttr]
 refine hK _ ?_; try clear hK K
 refine WC.trim [0, 1, 4] ?_
 simp only [ET, simprocAttr]
 refine WC.rs fun K hK => ?_
 simp only [↓EJ, EX, FA, simprocAttr]
 refine CallX.mk (CallW.pure (index_sem ws w hl) (by simp only [CL, and_self, strs_closed]) (by simp only [CL]) ?_)
 simp only [↓EJ, EX, FA, simprocAttr]
 refine hK _ ?_; try clear hK K
 refine WC.trim [0, 1, 4] ?_
 simp only [ET, simprocAttr]
 refine WC.ret ?_
 simp only [↓EJ, EX, FA, simprocAttr, EQ, FnQ, Tryd.results30, wResL, tup, List.reverse_cons, List.reverse_nil, true_and]
 refine endsPure (by simp only [CL]) ?_
 rw [ixF_mem]

/-- The words of the language. -/
def kws : List (List UInt8) := [[112, 97, 114, 97, 109], [102, 117, 110, 99], [113, 117, 101, 114, 121], [118, 97, 114], [114, 101, 116, 117, 114, 110], [98, 111, 111, 108], [105, 110, 116], [110, 97, 116], [114, 101, 97, 108], [108, 105, 115, 116], [105, 102], [101, 108, 115, 101], [114, 101, 112, 101, 97, 116], [119, 104, 105, 108, 101], [111, 98, 115, 101, 114, 118, 101], [119, 101, 105, 103, 104, 116], [116, 114, 117, 101], [102, 97, 108, 115, 101], [108, 101, 110], [112, 117, 115, 104], [102, 108, 105, 112], [117, 110, 105, 102, 111, 114, 109], [116, 97, 98, 108, 101], [98, 105, 110, 111, 109, 105, 97, 108], [103, 101, 111, 109, 101, 116, 114, 105, 99], [105, 110, 116, 101, 114, 118, 97, 108], [98, 101, 116, 97], [112, 111, 115, 116, 101, 114, 105, 111, 114]]

end Go.LexSem
set_option maxRecDepth 8000
namespace Go.LexSem
open Go Go.V Go.Proofs

def notNl (x : Int) : Bool := !decide (x = 10)
/-- Behind blanks and comments. -/
def blanksF (s : List UInt8) (i : Nat) : Nat :=
 if h : i < s.length then
  if blankI (gb s i) = true then blanksF s (i + 1)
  else if gb s i = 35 then blanksF s (max (i + 1) (runTo notNl s (s.length - i) i)) else i
 else i
termination_by s.length - i
decreasing_by all_goals omega

end Go.LexSem
set_option maxRecDepth 8000
namespace Go.LexSem
open Go Go.V Go.Proofs

def pl (l c : Nat) : PVal := .agg [.int .i64 l, .int .i64 c]

end Go.LexSem
set_option maxRecDepth 8000
namespace Go.LexSem
open Go Go.V Go.Proofs

def twos : List (List UInt8) := [[58, 61], [61, 61], [33, 61], [60, 61], [62, 61], [38, 38], [124, 124]]
def ones : List UInt8 := [126, 60, 62, 43, 45, 42, 47, 40, 41, 91, 93, 123, 125, 44, 59, 58, 63, 46, 33]
def oneNums : List Int := ones.map fun b => (b.toNat : Int)
theorem gb_at {s : List UInt8} {i : Nat} (h : i < s.length) : gb s i = (s[i].toNat : Int) := by simp [gb, List.getD_eq_getElem?_getD, h]
theorem gb_ones {i : Nat} (h : i < 19) : ∃ r, oneNums.drop i = gb ones i :: r ∧ r = oneNums.drop (i + 1) := by
 have h1 : i < oneNums.length := h
 have h2 : i < ones.length := h
 have e : oneNums[i]'h1 = gb ones i := by
  rw [gb_at h2]
  simp only [oneNums, List.getElem_map]
 refine ⟨_, ?_, rfl⟩
 rw [← e]
 exact drop_at h1
/-- How long the sign is that stands first. -/
def signF (s : List UInt8) : Nat := if 2 ≤ s.length ∧ s.take 2 ∈ twos then 2 else if gb s 0 ∈ oneNums then 1 else 0

end Go.LexSem
set_option maxRecDepth 8000
namespace Go.LexSem
open Go Go.V Go.Proofs

/-- Where the word ends that begins at 0. -/
def wordTo (s : List UInt8) : Nat → Nat → Nat
 | 0, t => t
 | f + 1, t => if t < s.length ∧ (letterI (gb s t) || (decide (0 < t) && digitI (gb s t))) = true then wordTo s f (t + 1) else t
theorem wordTo_le (s : List UInt8) : ∀ f t, t ≤ s.length → wordTo s f t ≤ s.length
 | 0, t, h => h
 | f + 1, t, h => by
   unfold wordTo
   split
   ·rename_i hc; exact wordTo_le s f (t + 1) hc.1
   ·exact h
def tk (k : Nat) (t : List UInt8) (l c : Nat) : PVal := .agg [.int .i64 k, .str t, .int .i64 l, .int .i64 c]
/-- The token that stands first: its kind and text; the error. -/
def nextF (s : List UInt8) : Nat × List UInt8 × Nat :=
 if 0 < wordTo s s.length 0 then
  if s.take (wordTo s s.length 0) ∈ kws then (3, s.take (wordTo s s.length 0), 0) else if 12 < wordTo s s.length 0 then (0, [], 9) else (1, s.take (wordTo s s.length 0), 0)
 else if 60 < runTo digitI s s.length 0 then (0, [], 9)
 else if 0 < runTo digitI s s.length 0 then (2, s.take (runTo digitI s s.length 0), 0)
 else if signF s = 0 then (0, [], 4) else (4, s.take (signF s), 0)
theorem signF_le (s : List UInt8) (h : 0 < s.length) : signF s ≤ s.length := by
 unfold signF
 split
 ·rename_i hc; exact hc.1
 ·split <;> omega

end Go.LexSem
set_option maxRecDepth 8000
namespace Go.LexSem
open Go Go.V Go.Proofs

def sgs : List (List UInt8) := [[58, 61], [61, 61], [33, 61], [60, 61], [62, 61], [38, 38], [124, 124], [126], [60], [62], [43], [45], [42], [47], [40], [41], [91], [93], [123], [125], [44], [59], [58], [63], [46], [33]]
/-- The first of the signs that stands at the front. -/
def signAt (s : List UInt8) : List (List UInt8) → Option (List UInt8)
 | [] => none
 | x :: r => if x.length ≤ s.length ∧ s.take x.length = x then some x else signAt s r
def runAt (p : Int → Bool) (s : List UInt8) (a : Nat) : List UInt8 := (s.drop a).take (runTo p s (s.length - a) a - a)
/-- The token at a: its kind and text; the error. -/
def tokenF (s : List UInt8) (a : Nat) : Nat × List UInt8 × Nat :=
 if wordI false (gb s a) = true then
  if runAt (wordI true) s a ∈ kws then (3, runAt (wordI true) s a, 0) else if 12 < (runAt (wordI true) s a).length then (0, [], 9) else (1, runAt (wordI true) s a, 0)
 else if digitI (gb s a) = true then if 60 < (runAt digitI s a).length then (0, [], 9) else (2, runAt digitI s a, 0)
 else match signAt (s.drop a) sgs with
  | some x => (4, x, 0)
  | none => (0, [], 4)

theorem token_sem (hkw : FSem C 31 [] [] fun r st => r = .ret (.slc (kws.map .str)) ∧ st = []) (hsg : FSem C 33 [] [] fun r st => r = .ret (.slc (sgs.map .str)) ∧ st = [])
 (s : List UInt8) (hs : s.length ≤ 8192) (a l c : Nat) (ha : a < s.length) :
 FSem C 17 [.ptr (.o 0) 0 0] [rd s a l c] fun r st => r = .ret (.tuple [.int .i64 (tokenF s a).1, .str (tokenF s a).2.1, .int .i64 (tokenF s a).2.2]) ∧ st = [rd s a l c] := by
 refine FSem.enter' (C := C) (n := 68) Tryd.func17 rfl rfl ok_17 (by simp) ?_
 simp only [argEnv]
 refine WC.rs fun K hK => ?_
 simp only [↓EJ, EX, FA, simprocAttr]
 refine hK _ ?_; try clear hK K
 refine WC.trim [0, 2, 3, 4, 5, 6, 7, 8, 9, 11, 25, 34, 38, 40, 47, 49, 50, 51, 52, 65] ?_
 simp only [ET, simprocAttr]
 refine WC.rs fun K hK => ?_
 simp only [↓EJ, EX, FA, simprocAttr]
 refine hK _ ?_; try clear hK K
 refine WC.trim [0, 2, 3, 4, 5, 6, 7, 8, 9, 11, 25, 34, 38, 40, 47, 49, 50, 51, 52, 65] ?_
 simp only [ET, simprocAttr]
 refine WC.ds [⟨0, 0, false, []⟩, ⟨1, 0, false, []⟩, ⟨2, 0, false, []⟩, ⟨3, 0, false, []⟩, ⟨4, 0, false, []⟩, ⟨5, 0, false, []⟩, ⟨6, 0, false, []⟩, ⟨7, 0, false, []⟩, ⟨8, 0, false, []⟩, ⟨9, 0, false, []⟩] [0, 1, 3, 7, 0, 16, 48, 112, 255, 511] mo (by kernel_rfl) (by simp only [EPl, List.getElem?_cons_zero, List.getElem?_cons_succ]; rfl) fun K hK => ?_
 simp only [↓EJ, EX, FA, simprocAttr, rd]
 repeat refine And.intro (by omega) ?_
 refine hK _ ?_; try clear hK K
 refine WC.trim [0, 2, 3, 4, 5, 6, 7, 8, 9, 11, 25, 34, 38, 40, 47, 49, 50, 51, 52, 65] ?_
 simp only [ET, simprocAttr]
 refine WC.bs fun K1 hK1 => ?_
 refine WC.rs fun K hK => ?_
 simp only [↓EJ, EX, FA, simprocAttr]
 refine CallX.mk (CallW.pure (has_sem false _) (by simp only [CL, and_self]) (by simp only [CL]) ?_)
 simp only [↓EJ, EX, FA, simprocAttr]
 refine hK _ ?_; try clear hK K
 refine WC.trim [0, 2, 3, 4, 5, 6, 7, 8, 9, 11, 25, 34, 38, 40, 47, 49, 50, 51, 52, 65] ?_
 simp only [ET, simprocAttr]
 refine WC.cond (c := .tmp 25) rfl (fun h => ?_) (fun h => ?_)
 ·have hw : wordI false (gb s a) = true := h
  refine WC.rs fun K hK => ?_
  simp only [↓EJ, EX, FA, simprocAttr]
  refine CallX.mk (CallW.one (r := .o 0) (run_sem s hs a l c (Nat.le_of_lt ha) 29 [.agg [.bool true]] (by simp only [CL, and_self]) (wordI true) (fun x => has_sem true x)) rfl (rd_closed _ _ _ _) (rd_closed _ _ _ _) (by simp only [CL]) (by simp [renL, ren, fCall]) ?_)
  simp only [↓EJ, EX, FA, simprocAttr, rd]
  refine hK _ ?_; try clear hK K
  refine WC.trim [0, 2, 3, 4, 5, 6, 7, 8, 9, 11, 25, 34, 38, 40, 47, 49, 50, 51, 52, 65] ?_
  simp only [ET, simprocAttr]
  rw [show (s.drop a).take (runTo (wordI true) s (s.length - a) a - a) = runAt (wordI true) s a from rfl]
  generalize hr : runAt (wordI true) s a = w
  have hwl : w.length ≤ s.length := by
   rw [← hr, runAt, List.length_take, List.length_drop]; omega
  refine WC.sK fun K2 hK2 => ?_
  refine WC.rs fun K hK => ?_
  simp only [↓EJ, EX, FA, simprocAttr]
  refine CallX.mk (CallW.pure hkw (by simp only [CL]) (by simp only [CL, strs_closed]) ?_)
  simp only [↓EJ, EX, FA, simprocAttr]
  refine CallX.mk (CallW.pure (contains_sem kws w (by decide)) (by simp only [CL, and_self, strs_closed]) (by simp only [CL]) ?_)
  simp only [↓EJ, EX, FA, simprocAttr]
  refine hK _ ?_; try clear hK K
  refine WC.trim [0, 2, 3, 4, 5, 6, 7, 8, 9, 11, 25, 34, 38, 40, 47, 49, 50, 51, 52, 65] ?_
  simp only [ET, simprocAttr]
  refine WC.cond (c := .tmp 34) rfl (fun h => ?_) (fun h => ?_)
  ·have hk : w ∈ kws := by simpa using h
   refine WC.rs fun K hK => ?_
   simp only [↓EJ, EX, FA, simprocAttr]
   refine hK _ ?_; try clear hK K
   refine WC.trim [0, 2, 3, 4, 5, 6, 7, 8, 9, 11, 25, 34, 38, 40, 47, 49, 50, 51, 52, 65] ?_
   simp only [ET, simprocAttr]
   refine WC.ret ?_
   simp only [↓EJ, EX, FA, simprocAttr, EQ, FnQ, Tryd.results17, wResL, tup, List.reverse_cons, List.reverse_nil, true_and]
   refine endsSame (by simp only [CL, and_self]) (closedBs_cons (fun f => rfl) closedBs_nil) ⟨?_, rfl⟩
   rw [tokenF, if_pos hw, hr, if_pos hk]; rfl
  ·have hk : ¬ w ∈ kws := by simpa using h
   refine WC.skip ?_
   try simp only [EQ, reduceIte, Nat.reduceEqDiff]
   refine hK2 _ ?_; try clear hK2 K2
   refine WC.sK fun K3 hK3 => ?_
   refine WC.rs fun K hK => ?_
   simp only [↓EJ, EX, FA, simprocAttr]
   refine hK _ ?_; try clear hK K
   refine WC.trim [0, 2, 3, 4, 5, 6, 7, 8, 9, 11, 25, 34, 38, 40, 47, 49, 50, 51, 52, 65] ?_
   simp only [ET, simprocAttr]
   refine WC.cond (c := .tmp 38) rfl (fun h => ?_) (fun h => ?_)
   ·have h12 : 12 < w.length := by simp at h; omega
    refine WC.rs fun K hK => ?_
    simp only [↓EJ, EX, FA, simprocAttr]
    refine hK _ ?_; try clear hK K
    refine WC.trim [0, 2, 3, 4, 5, 6, 7, 8, 9, 11, 25, 34, 38, 40, 47, 49, 50, 51, 52, 65] ?_
    simp only [ET, simprocAttr]
    refine WC.ret ?_
    simp only [↓EJ, EX, FA, simprocAttr, EQ, FnQ, Tryd.results17, wResL, tup, List.reverse_cons, List.reverse_nil, true_and]
    refine endsSame (by simp only [CL, and_self]) (closedBs_cons (fun f => rfl) closedBs_nil) ⟨?_, rfl⟩
    rw [tokenF, if_pos hw, hr, if_neg hk, if_pos h12]; rfl
   ·have h12 : ¬ 12 < w.length := by simp at h; omega
    refine WC.skip ?_
    try simp only [EQ, reduceIte, Nat.reduceEqDiff]
    refine hK3 _ ?_; try clear hK3 K3
    refine WC.rs fun K hK => ?_
    simp only [↓EJ, EX, FA, simprocAttr]
    refine hK _ ?_; try clear hK K
    refine WC.trim [0, 2, 3, 4, 5, 6, 7, 8, 9, 11, 25, 34, 38, 40, 47, 49, 50, 51, 52, 65] ?_
    simp only [ET, simprocAttr]
    refine WC.ret ?_
    simp only [↓EJ, EX, FA, simprocAttr, EQ, FnQ, Tryd.results17, wResL, tup, List.reverse_cons, List.reverse_nil, true_and]
    refine endsSame (by simp only [CL, and_self]) (closedBs_cons (fun f => rfl) closedBs_nil) ⟨?_, rfl⟩
    rw [tokenF, if_pos hw, hr, if_neg hk, if_neg h12]; rfl
 ·have hw : ¬ wordI false (gb s a) = true := by simp [h]
  refine WC.rs fun K hK => ?_
  simp only [↓EJ, EX, FA, simprocAttr]
  refine CallX.mk (CallW.pure (digit_sem _) (by simp only [CL, and_self]) (by simp only [CL]) ?_)
  simp only [↓EJ, EX, FA, simprocAttr]
  refine hK _ ?_; try clear hK K
  refine WC.trim [0, 2, 3, 4, 5, 6, 7, 8, 9, 11, 25, 34, 38, 40, 47, 49, 50, 51, 52, 65] ?_
  simp only [ET, simprocAttr]
  refine WC.cond (c := .tmp 40) rfl (fun h => ?_) (fun h => ?_)
  ·have hd : digitI (gb s a) = true := h
   refine WC.rs fun K hK => ?_
   simp only [↓EJ, EX, FA, simprocAttr]
   refine CallX.mk (CallW.one (r := .o 0) (run_sem s hs a l c (Nat.le_of_lt ha) 32 [] (by simp only [CL]) digitI (fun x => digit_sem x)) rfl (rd_closed _ _ _ _) (rd_closed _ _ _ _) (by simp only [CL]) (by simp [renL, ren, fCall]) ?_)
   simp only [↓EJ, EX, FA, simprocAttr, rd]
   refine hK _ ?_; try clear hK K
   refine WC.trim [0, 2, 3, 4, 5, 6, 7, 8, 9, 11, 25, 34, 38, 40, 47, 49, 50, 51, 52, 65] ?_
   simp only [ET, simprocAttr]
   rw [show (s.drop a).take (runTo digitI s (s.length - a) a - a) = runAt digitI s a from rfl]
   generalize hr : runAt digitI s a = w
   have hwl : w.length ≤ s.length := by
    rw [← hr, runAt, List.length_take, List.length_drop]; omega
   refine WC.sK fun K4 hK4 => ?_
   refine WC.rs fun K hK => ?_
   simp only [↓EJ, EX, FA, simprocAttr]
   refine hK _ ?_; try clear hK K
   refine WC.trim [0, 2, 3, 4, 5, 6, 7, 8, 9, 11, 25, 34, 38, 40, 47, 49, 50, 51, 52, 65] ?_
   simp only [ET, simprocAttr]
   refine WC.cond (c := .tmp 47) rfl (fun h => ?_) (fun h => ?_)
   ·have h60 : 60 < w.length := by simp at h; omega
    refine WC.rs fun K hK => ?_
    simp only [↓EJ, EX, FA, simprocAttr]
    refine hK _ ?_; try clear hK K
    refine WC.trim [0, 2, 3, 4, 5, 6, 7, 8, 9, 11, 25, 34, 38, 40, 47, 49, 50, 51, 52, 65] ?_
    simp only [ET, simprocAttr]
    refine WC.ret ?_
    simp only [↓EJ, EX, FA, simprocAttr, EQ, FnQ, Tryd.results17, wResL, tup, List.reverse_cons, List.reverse_nil, true_and]
    refine endsSame (by simp only [CL, and_self]) (closedBs_cons (fun f => rfl) closedBs_nil) ⟨?_, rfl⟩
    rw [tokenF, if_neg hw, if_pos hd, hr, if_pos h60]; rfl
   ·have h60 : ¬ 60 < w.length := by simp at h; omega
    refine WC.skip ?_
    try simp only [EQ, reduceIte, Nat.reduceEqDiff]
    refine hK4 _ ?_; try clear hK4 K4
    refine WC.rs fun K hK => ?_
    simp only [↓EJ, EX, FA, simprocAttr]
    refine hK _ ?_; try clear hK K
    refine WC.trim [0, 2, 3, 4, 5, 6, 7, 8, 9, 11, 25, 34, 38, 40, 47, 49, 50, 51, 52, 65] ?_
    simp only [ET, simprocAttr]
    refine WC.ret ?_
    simp only [↓EJ, EX, FA, simprocAttr, EQ, FnQ, Tryd.results17, wResL, tup, List.reverse_cons, List.reverse_nil, true_and]
    refine endsSame (by simp only [CL, and_self]) (closedBs_cons (fun f => rfl) closedBs_nil) ⟨?_, rfl⟩
    rw [tokenF, if_neg hw, if_pos hd, hr, if_neg h60]; rfl
  ·have hd : ¬ digitI (gb s a) = true := by simp [h]
   refine WC.skip ?_
   try simp only [EQ, reduceIte, Nat.reduceEqDiff]
   refine hK1 _ ?_; try clear hK1 K1
   refine WC.sK fun K5 hK5 => ?_
   refine WC.rs fun K hK => ?_
   simp only [↓EJ, EX, FA, simprocAttr]
   refine CallX.mk (CallW.pure hsg (by simp only [CL]) (by simp only [CL, strs_closed]) ?_)
   simp only [↓EJ, EX, FA, simprocAttr, List.length_map]
   refine hK _ ?_; try clear hK K
   refine WC.trim [0, 2, 3, 4, 5, 6, 7, 8, 9, 11, 25, 34, 38, 40, 47, 49, 50, 51, 52, 65] ?_
   simp only [ET, simprocAttr]
   refine WC.b1 ?_
   have hsl : sgs.length = 26 := rfl
   refine WC.loop (X := Nat) (fun i => ⟨[(51, .int .i64 i), (50, .int .i64 sgs.length), (49, .slc (sgs.map .str)), (4, .int .i64 0), (3, .str []), (2, .int .i64 0), (0, .ptr (.o 0) 0 0)], [rd s a l c], [], []⟩)
    (fun i => i ≤ 26 ∧ signAt (s.drop a) (sgs.drop i) = signAt (s.drop a) sgs) (fun i => 26 - i) 0 [] ⟨Nat.zero_le _, rfl⟩ ?_ ?_
   ·refine ⟨by simp, by simp only [EV, EB, EL, ER, ET, and_self, true_and, and_true, Nat.reduceEqDiff, reduceCtorEq, reduceIte, rd, strs_closed sgs _], by simp only [EV, EB, EL, ER, ET, and_self, true_and, and_true, Nat.reduceEqDiff, reduceCtorEq, reduceIte, rd, strs_closed sgs _], by simp only [EV, EB, EL, ER, ET, and_self, true_and, and_true, Nat.reduceEqDiff, reduceCtorEq, reduceIte, rd, strs_closed sgs _, pick], rfl⟩
   ·rintro i ⟨h1, h2⟩
    refine WC.rs fun K hK => ?_
    simp only [↓EJ, EX, FA, simprocAttr]
    refine hK _ ?_; try clear hK K
    refine WC.trim [0, 2, 3, 4, 5, 6, 7, 8, 9, 11, 25, 34, 38, 40, 47, 49, 50, 51, 52, 65] ?_
    simp only [ET, simprocAttr]
    refine WC.cs (c := .tmp 52) rfl fun K6 hK6 => ⟨fun h => ?_, fun h => ?_⟩
    ·have hlt : i < sgs.length := by rw [hsl]; simp at h; omega
     have hg := gi_map .str sgs hlt
     refine WC.skip ?_
     simp only [EQ]
     refine hK6 _ ?_; try clear hK6 K6
     refine WC.bs fun K7 hK7 => ?_
     refine WC.rs fun K hK => ?_
     simp only [↓EJ, EX, FA, simprocAttr, hg, List.length_map]
     repeat refine And.intro (by omega) ?_
     refine hK _ ?_; try clear hK K
     refine WC.trim [0, 2, 3, 4, 5, 6, 7, 8, 9, 11, 25, 34, 38, 40, 47, 49, 50, 51, 52, 65] ?_
     simp only [ET, simprocAttr]
     have htk : (s.drop a).take (s.length - a) = s.drop a := List.take_of_length_le (by simp)
     refine WC.ds [⟨0, 0, false, []⟩, ⟨1, 0, false, []⟩, ⟨2, 0, false, []⟩, ⟨3, 0, false, []⟩, ⟨4, 0, false, []⟩, ⟨5, 0, false, []⟩, ⟨6, 0, false, []⟩, ⟨7, 0, false, []⟩, ⟨8, 0, false, []⟩, ⟨9, 0, false, []⟩, ⟨10, 1, false, []⟩] [0, 1, 3, 7, 0, 16, 48, 112, 255, 0, 1023] mo (by kernel_rfl) (by simp only [EPl, List.getElem?_cons_zero, List.getElem?_cons_succ]; rfl) fun K hK => ?_
     simp only [↓EJ, EX, FA, simprocAttr, rd, htk]
     repeat refine And.intro (by omega) ?_
     refine CallX.mk (CallW.pure (hasPrefix_sem (s.drop a) sgs[i]) (by simp only [CL, and_self]) (by simp only [CL]) ?_)
     simp only [↓EJ, EX, FA, simprocAttr]
     refine hK _ ?_; try clear hK K
     refine WC.trim [0, 2, 3, 4, 5, 6, 7, 8, 9, 11, 25, 34, 38, 40, 47, 49, 50, 51, 52, 65] ?_
     simp only [ET, simprocAttr]
     refine WC.cond (c := .tmp 65) rfl (fun h => ?_) (fun h => ?_)
     ·have hp : sgs[i].length ≤ (s.drop a).length ∧ (s.drop a).take sgs[i].length = sgs[i] := by simpa using h
      refine WC.rs fun K hK => ?_
      simp only [↓EJ, EX, FA, simprocAttr]
      refine hK _ ?_; try clear hK K
      refine WC.trim [0, 2, 3, 4, 5, 6, 7, 8, 9, 11, 25, 34, 38, 40, 47, 49, 50, 51, 52, 65] ?_
      simp only [ET, simprocAttr]
      refine WC.ret ?_
      simp only [↓EJ, EX, FA, simprocAttr, EQ, FnQ, Tryd.results17, wResL, tup, List.reverse_cons, List.reverse_nil, true_and]
      refine endsSame (by simp only [CL, and_self]) (closedBs_cons (fun f => rfl) closedBs_nil) ⟨?_, rfl⟩
      rw [tokenF, if_neg hw, if_neg hd, ← h2, drop_at hlt, signAt, if_pos hp]; rfl
     ·have hp : ¬ (sgs[i].length ≤ (s.drop a).length ∧ (s.drop a).take sgs[i].length = sgs[i]) := by
       intro hh
       simp only [hh.1, hh.2] at h
       simp at h
      refine WC.skip ?_
      try simp only [EQ, reduceIte, Nat.reduceEqDiff]
      refine hK7 _ ?_; try clear hK7 K7
      refine WC.r1 ?_
      simp (maxSteps := 1000000) (disch := omega) only [↓EJ, EX, FA, simprocAttr, w64, wu64]
      try simp only [EQ, reduceIte, Nat.reduceEqDiff]
      refine ⟨i + 1, [], ⟨by omega, ?_⟩, by omega, ?_⟩
      ·rw [← h2, drop_at hlt, signAt, if_neg hp]
      ·refine ⟨by simp, by simp only [EV, EB, EL, ER, ET, and_self, true_and, and_true, Nat.reduceEqDiff, reduceCtorEq, reduceIte, rd, Int.natCast_add, strs_closed sgs _], by simp only [EV, EB, EL, ER, ET, and_self, true_and, and_true, Nat.reduceEqDiff, reduceCtorEq, reduceIte, rd, Int.natCast_add, strs_closed sgs _], by simp only [EV, EB, EL, ER, ET, and_self, true_and, and_true, Nat.reduceEqDiff, reduceCtorEq, reduceIte, rd, Int.natCast_add, strs_closed sgs _, pick], rfl⟩
    ·have hge : i = 26 := by simp [hsl] at h; omega
     refine WC.exit ?_
     simp only [EQ, reduceIte, Nat.reduceEqDiff]
     try simp only [EQ, reduceIte, Nat.reduceEqDiff]
     refine hK5 _ ?_; try clear hK5 K5
     refine WC.rs fun K hK => ?_
     simp only [↓EJ, EX, FA, simprocAttr]
     refine hK _ ?_; try clear hK K
     refine WC.trim [0, 2, 3, 4, 5, 6, 7, 8, 9, 11, 25, 34, 38, 40, 47, 49, 50, 51, 52, 65] ?_
     simp only [ET, simprocAttr]
     refine WC.ret ?_
     simp only [↓EJ, EX, FA, simprocAttr, EQ, FnQ, Tryd.results17, wResL, tup, List.reverse_cons, List.reverse_nil, true_and]
     refine endsSame (by simp only [CL, and_self]) (closedBs_cons (fun f => rfl) closedBs_nil) ⟨?_, rfl⟩
     have hn : signAt (s.drop a) sgs = none := by rw [← h2, hge, ← hsl, List.drop_length]; rfl
     rw [tokenF, if_neg hw, if_neg hd, hn]; rfl
end Go.LexSem
set_option maxRecDepth 8000
namespace Go.LexSem
open Go Go.V Go.Proofs

/-! ### how far a step goes -/
theorem adv_at (s : List UInt8) : ∀ k a l c, (adv s k (a, l, c)).1 = a + k
 | 0, a, l, c => rfl
 | k + 1, a, l, c => by
   unfold adv
   split
   ·rw [adv_at s k]; omega
   ·rw [adv_at s k]; omega
theorem adv_line (s : List UInt8) : ∀ k a l c, l ≤ a + 1 → c ≤ a + 1 → (adv s k (a, l, c)).2.1 ≤ a + k + 1 ∧ (adv s k (a, l, c)).2.2 ≤ a + k + 1
 | 0, a, l, c, h1, h2 => ⟨h1, h2⟩
 | k + 1, a, l, c, h1, h2 => by
   unfold adv
   split
   ·have := adv_line s k (a + 1) (l + 1) 1 (by omega) (by omega); omega
   ·have := adv_line s k (a + 1) l (c + 1) (by omega) (by omega); omega
theorem runTo_pos {p : Int → Bool} {s : List UInt8} {a : Nat} (h : a < s.length) (hp : p (gb s a) = true) : a + 1 ≤ runTo p s (s.length - a) a := by
 rw [show s.length - a = (s.length - (a + 1)) + 1 by omega]
 unfold runTo
 rw [if_pos ⟨h, hp⟩]
 exact runTo_ge _ _ _ _
theorem runAt_length {p : Int → Bool} {s : List UInt8} {a : Nat} (h : a ≤ s.length) : a + (runAt p s a).length = runTo p s (s.length - a) a := by
 have h1 := runTo_le p s (s.length - a) a h
 have h2 := runTo_ge p s (s.length - a) a
 rw [runAt, List.length_take, List.length_drop]; omega
theorem signAt_spec (s : List UInt8) : ∀ (xs : List (List UInt8)) x, signAt s xs = some x → x ∈ xs ∧ x.length ≤ s.length ∧ s.take x.length = x
 | [], x, h => by cases h
 | y :: r, x, h => by
   unfold signAt at h
   split at h
   ·rename_i hc; cases h; exact ⟨List.mem_cons_self, hc⟩
   ·obtain ⟨h1, h2⟩ := signAt_spec s r x h; exact ⟨List.mem_cons_of_mem _ h1, h2⟩
theorem sgs_pos : ∀ x ∈ sgs, 0 < x.length := by decide
theorem wordI_mono {x : Int} (h : wordI false x = true) : wordI true x = true := by
 simp only [wordI, Bool.or_eq_true, Bool.and_eq_true, decide_eq_true_eq, Bool.false_and, Bool.false_eq_true, or_false, Bool.true_and] at h ⊢
 rcases h with h | h | h
 ·exact .inl h
 ·exact .inr (.inl h)
 ·exact .inr (.inr (.inl h))
/-- A token has a byte at least, and lies within the text. -/
theorem tokenF_len (s : List UInt8) (a : Nat) (ha : a < s.length) (h : (tokenF s a).2.2 = 0) : 0 < (tokenF s a).2.1.length ∧ a + (tokenF s a).2.1.length ≤ s.length := by
 unfold tokenF at h ⊢
 split
 ·rename_i hw
  rw [if_pos hw] at h
  have h1 := runTo_pos ha (wordI_mono hw)
  have h2 := runAt_length (p := wordI true) (Nat.le_of_lt ha)
  have h3 := runTo_le (wordI true) s (s.length - a) a (Nat.le_of_lt ha)
  split
  ·exact ⟨by show 0 < (runAt (wordI true) s a).length; omega, by show a + (runAt (wordI true) s a).length ≤ _; omega⟩
  ·rename_i hk
   rw [if_neg hk] at h
   split
   ·rename_i h12; rw [if_pos h12] at h; cases h
   ·exact ⟨by show 0 < (runAt (wordI true) s a).length; omega, by show a + (runAt (wordI true) s a).length ≤ _; omega⟩
 ·rename_i hw
  rw [if_neg hw] at h
  split
  ·rename_i hd
   rw [if_pos hd] at h
   have h1 := runTo_pos ha hd
   have h2 := runAt_length (p := digitI) (Nat.le_of_lt ha)
   have h3 := runTo_le digitI s (s.length - a) a (Nat.le_of_lt ha)
   split
   ·rename_i h60; rw [if_pos h60] at h; cases h
   ·exact ⟨by show 0 < (runAt digitI s a).length; omega, by show a + (runAt digitI s a).length ≤ _; omega⟩
  ·rename_i hd
   rw [if_neg hd] at h
   cases hs : signAt (s.drop a) sgs with
   | none => rw [hs] at h; cases h
   | some x =>
     obtain ⟨h1, h2, _⟩ := signAt_spec _ _ _ hs
     rw [List.length_drop] at h2
     exact ⟨sgs_pos x h1, by show a + x.length ≤ _; omega⟩

abbrev Tok := Nat × List UInt8 × Nat × Nat
def tkv (t : Tok) : PVal := tk t.1 t.2.1 t.2.2.1 t.2.2.2
/-- The lexer from the byte a on, at line l and column c, behind the tokens acc. -/
def lexF (s : List UInt8) (a l c : Nat) (acc : List Tok) : List Tok × (Nat × Nat) × Nat :=
 if h : a < s.length then
  if blankI (gb s a) = true then
   lexF s (a + 1) (adv s 1 (a, l, c)).2.1 (adv s 1 (a, l, c)).2.2 acc
  else if gb s a = 35 then
   lexF s (max (a + 1) (adv s (runAt notNl s a).length (a, l, c)).1) (adv s (runAt notNl s a).length (a, l, c)).2.1 (adv s (runAt notNl s a).length (a, l, c)).2.2 acc
  else if (tokenF s a).2.2 = 0 then
   lexF s (max (a + 1) (adv s (tokenF s a).2.1.length (a, l, c)).1) (adv s (tokenF s a).2.1.length (a, l, c)).2.1 (adv s (tokenF s a).2.1.length (a, l, c)).2.2 (acc ++ [((tokenF s a).1, (tokenF s a).2.1, l, c)])
  else ([], (l, c), (tokenF s a).2.2)
 else (acc ++ [(5, [], l, c)], (0, 0), 0)
termination_by s.length - a
decreasing_by all_goals omega
end Go.LexSem
set_option maxRecDepth 8000
namespace Go.LexSem
open Go Go.V Go.Proofs

def tokv (ts : List Tok) : PVal := match ts with
 | [] => .nils
 | t :: r => .slc ((t :: r).map tkv)
def tokensF (s : List UInt8) : List Tok × (Nat × Nat) × Nat := if 8192 < s.length then ([], (1, 1), 9) else lexF s 0 1 1 []
theorem tkv_closed (ts : List Tok) : ClosedL (ts.map tkv) := ClosedL.map (fun t => fun _ => rfl) ts

theorem renL_append (f : Ref → Ref) (a b : List PVal) : renL f (a ++ b) = renL f a ++ renL f b := by rw [renL_map, renL_map, renL_map, List.map_append]
theorem tokv_append (acc : List Tok) (t : Tok) : tokv (acc ++ [t]) = .slc ((acc ++ [t]).map tkv) := by
 cases acc <;> rfl

theorem tokens_sem (hkw : FSem C 31 [] [] fun r st => r = .ret (.slc (kws.map .str)) ∧ st = []) (hsg : FSem C 33 [] [] fun r st => r = .ret (.slc (sgs.map .str)) ∧ st = []) (s : List UInt8) :
 FSem C 8 [.str s] [] fun r st => r = .ret (.tuple [tokv (tokensF s).1, pl (tokensF s).2.1.1 (tokensF s).2.1.2, .int .i64 (tokensF s).2.2]) ∧ st = [] := by
 refine FSem.enter' (C := C) (n := 90) Tryd.func8 rfl rfl ok_8 (by simp) ?_
 simp only [argEnv]
 refine WC.rs fun K hK => ?_
 simp only [↓EJ, EX, FA, simprocAttr]
 refine hK _ ?_; try clear hK K
 refine WC.trim [0, 2, 3, 4, 5, 6, 7, 8, 9, 15, 24, 25, 35, 55] ?_
 simp only [ET, simprocAttr]
 refine WC.scope ?_
 refine WC.rs fun K hK => ?_
 simp only [↓EJ, EX, FA, simprocAttr]
 refine hK _ ?_; try clear hK K
 refine WC.trim [0, 2, 3, 4, 5, 6, 7, 8, 9, 15, 24, 25, 35, 55] ?_
 simp only [ET, simprocAttr]
 refine WC.sK fun K1 hK1 => ?_
 refine WC.rs fun K hK => ?_
 simp only [↓EJ, EX, FA, simprocAttr]
 refine hK _ ?_; try clear hK K
 refine WC.trim [0, 2, 3, 4, 5, 6, 7, 8, 9, 15, 24, 25, 35, 55] ?_
 simp only [ET, simprocAttr]
 refine WC.cond (c := .tmp 15) rfl (fun h => ?_) (fun h => ?_)
 ·have h8 : 8192 < s.length := by simp at h; omega
  refine WC.rs fun K hK => ?_
  simp only [↓EJ, EX, FA, simprocAttr]
  refine CallX.mk (CallW.one (r := .l 1) (pos_sem s 0 1 1) rfl (rd_closed _ _ _ _) (rd_closed _ _ _ _) (by simp only [CL, and_self]) (by simp [renL, ren, fCall]) ?_)
  simp only [↓EJ, EX, FA, simprocAttr, rd]
  refine hK _ ?_; try clear hK K
  refine WC.trim [0, 2, 3, 4, 5, 6, 7, 8, 9, 15, 24, 25, 35, 55] ?_
  simp only [ET, simprocAttr]
  refine WC.ret ?_
  simp only [↓EJ, EX, FA, simprocAttr, EQ, FnQ, Tryd.results8, wResL, tup, List.reverse_cons, List.reverse_nil, true_and]
  refine endsSame (by simp only [CL, and_self]) closedBs_nil ⟨?_, rfl⟩
  rw [tokensF, if_pos h8]; rfl
 ·have h8 : ¬ 8192 < s.length := by simp at h; omega
  have hs : s.length ≤ 8192 := by omega
  refine WC.skip ?_
  try simp only [EQ, reduceIte, Nat.reduceEqDiff]
  refine hK1 _ ?_; try clear hK1 K1
  refine WC.rs fun K hK => ?_
  simp only [↓EJ, EX, FA, simprocAttr]
  refine hK _ ?_; try clear hK K
  refine WC.trim [0, 2, 3, 4, 5, 6, 7, 8, 9, 15, 24, 25, 35, 55] ?_
  simp only [ET, simprocAttr]
  refine WC.thaw 6 4 66 rfl ?_
  refine WC.ls ?_
  refine WC.bs fun K2 hK2 => ?_
  refine WC.loop (X := Nat × Nat × Nat × List Tok) (fun x => ⟨[(6, .ref (.l 2) 0 x.2.2.2.length), (5, .ptr (.l 1) 0 0), (4, .int .i64 0), (3, .ptr (.l 0) 0 0), (2, .nils), (0, .str s)], [],
   [.row [.agg [.int .i64 0, .int .i64 0]] 2 30, rd s x.1 x.2.1 x.2.2.1, .row (x.2.2.2.map tkv) 4 66], []⟩)
   (fun x => x.1 ≤ s.length ∧ x.2.1 ≤ x.1 + 1 ∧ x.2.2.1 ≤ x.1 + 1 ∧ x.2.2.2.length ≤ x.1 ∧ lexF s x.1 x.2.1 x.2.2.1 x.2.2.2 = lexF s 0 1 1 []) (fun x => s.length - x.1) (0, 1, 1, []) [0, 1, 2]
   ⟨Nat.zero_le _, Nat.le_refl _, Nat.le_refl _, Nat.le_refl _, rfl⟩ ?_ ?_
  ·refine ⟨by simp, by simp only [EV, EB, EL, ER, ET, and_self, true_and, and_true, Nat.reduceEqDiff, reduceCtorEq, reduceIte, rd], by simp only [EV, EB, EL, ER, ET, and_self, true_and, and_true, Nat.reduceEqDiff, reduceCtorEq, reduceIte, rd], by simp only [EV, EB, EL, ER, ET, and_self, true_and, and_true, Nat.reduceEqDiff, reduceCtorEq, reduceIte, rd, pick], rfl⟩
  ·rintro ⟨a, l, c, acc⟩ ⟨h1, h2, h3, h4, h5⟩
   dsimp only at h1 h2 h3 h4 h5 ⊢
   refine WC.sK fun K3 hK3 => ?_
   refine WC.rs fun K hK => ?_
   simp only [↓EJ, EX, FA, simprocAttr, rd]
   refine hK _ ?_; try clear hK K
   refine WC.trim [0, 2, 3, 4, 5, 6, 7, 8, 9, 15, 24, 25, 35, 55] ?_
   simp only [ET, simprocAttr]
   refine WC.cond (c := .tmp 24) rfl (fun h => ?_) (fun h => ?_)
   ·have hlt : a < s.length := by simpa using h
    refine WC.skip ?_
    try simp only [EQ, reduceIte, Nat.reduceEqDiff]
    refine hK3 _ ?_; try clear hK3 K3
    refine WC.b1 ?_
    refine WC.bs fun K4 hK4 => ?_
    refine WC.rs fun K hK => ?_
    simp only [↓EJ, EX, FA, simprocAttr, rd]
    repeat refine And.intro (by omega) ?_
    refine CallX.mk (CallW.pure (blank_sem _) (by simp only [CL, and_self]) (by simp only [CL]) ?_)
    simp only [↓EJ, EX, FA, simprocAttr]
    refine hK _ ?_; try clear hK K
    refine WC.trim [0, 2, 3, 4, 5, 6, 7, 8, 9, 15, 24, 25, 35, 55] ?_
    simp only [ET, simprocAttr]
    refine WC.cond (c := .tmp 25) rfl (fun h => ?_) (fun h => ?_)
    ·have hb : blankI (gb s a) = true := h
     have hadv := adv_line s 1 a l c h2 h3
     refine WC.rs fun K hK => ?_
     simp only [↓EJ, EX, FA, simprocAttr]
     refine CallX.mk (CallW.one (r := .l 1) (step_sem s hs 1 a l c (by omega) h2 h3) rfl (rd_closed _ _ _ _) (rd_closed _ _ _ _) (by simp only [CL]) (by simp [renL, ren, fCall]) ?_)
     simp only [↓EJ, EX, FA, simprocAttr]
     refine hK _ ?_; try clear hK K
     refine WC.trim [0, 2, 3, 4, 5, 6, 7, 8, 9, 15, 24, 25, 35, 55] ?_
     simp only [ET, simprocAttr]
     refine WC.exit ?_
     simp only [EQ, reduceIte, Nat.reduceEqDiff]
     try simp only [EQ, reduceIte, Nat.reduceEqDiff]
     refine ⟨((adv s 1 (a, l, c)).1, (adv s 1 (a, l, c)).2.1, (adv s 1 (a, l, c)).2.2, acc), [0, 1, 2], ⟨?_, ?_, ?_, ?_, ?_⟩, ?_, ?_⟩
     ·dsimp only; rw [adv_at]; omega
     ·dsimp only; rw [adv_at]; omega
     ·dsimp only; rw [adv_at]; omega
     ·dsimp only; rw [adv_at]; omega
     ·dsimp only
      rw [← h5, adv_at]
      conv => rhs; unfold lexF
      rw [dif_pos hlt, if_pos hb]
     ·dsimp only; rw [adv_at]; omega
     ·refine ⟨by simp, by simp only [EV, EB, EL, ER, ET, and_self, true_and, and_true, Nat.reduceEqDiff, reduceCtorEq, reduceIte, rd, tkv_closed acc _], by simp only [EV, EB, EL, ER, ET, and_self, true_and, and_true, Nat.reduceEqDiff, reduceCtorEq, reduceIte, rd, tkv_closed acc _], by simp only [EV, EB, EL, ER, ET, and_self, true_and, and_true, Nat.reduceEqDiff, reduceCtorEq, reduceIte, rd, tkv_closed acc _, pick], rfl⟩
    ·have hb : ¬ blankI (gb s a) = true := by simp [h]
     refine WC.rs fun K hK => ?_
     simp only [↓EJ, EX, FA, simprocAttr, rd]
     repeat refine And.intro (by omega) ?_
     refine hK _ ?_; try clear hK K
     refine WC.trim [0, 2, 3, 4, 5, 6, 7, 8, 9, 15, 24, 25, 35, 55] ?_
     simp only [ET, simprocAttr]
     refine WC.cond (c := .tmp 35) rfl (fun h => ?_) (fun h => ?_)
     ·have h35 : gb s a = 35 := by simpa using h
      have hra := runAt_length (p := notNl) (s := s) (a := a) h1
      have hrp := runTo_pos (p := notNl) hlt (by simp [notNl, h35])
      have hrl := runTo_le notNl s (s.length - a) a h1
      refine WC.rs fun K hK => ?_
      simp only [↓EJ, EX, FA, simprocAttr]
      refine CallX.mk (CallW.one (r := .l 1) (run_sem s hs a l c h1 16 [] (by simp only [CL]) notNl (fun x => comment_sem x)) rfl (rd_closed _ _ _ _) (rd_closed _ _ _ _) (by simp only [CL]) (by simp [renL, ren, fCall]) ?_)
      rw [show (s.drop a).take (runTo notNl s (s.length - a) a - a) = runAt notNl s a from rfl]
      have hadv := adv_line s (runAt notNl s a).length a l c h2 h3
      simp only [↓EJ, EX, FA, simprocAttr]
      refine CallX.mk (CallW.one (r := .l 1) (step_sem s hs (runAt notNl s a).length a l c (by omega) h2 h3) rfl (rd_closed _ _ _ _) (rd_closed _ _ _ _) (by simp only [CL]) (by simp [renL, ren, fCall]) ?_)
      simp only [↓EJ, EX, FA, simprocAttr]
      refine hK _ ?_; try clear hK K
      refine WC.trim [0, 2, 3, 4, 5, 6, 7, 8, 9, 15, 24, 25, 35, 55] ?_
      simp only [ET, simprocAttr]
      refine WC.exit ?_
      simp only [EQ, reduceIte, Nat.reduceEqDiff]
      try simp only [EQ, reduceIte, Nat.reduceEqDiff]
      refine ⟨((adv s (runAt notNl s a).length (a, l, c)).1, (adv s (runAt notNl s a).length (a, l, c)).2.1, (adv s (runAt notNl s a).length (a, l, c)).2.2, acc), [0, 1, 2], ⟨?_, ?_, ?_, ?_, ?_⟩, ?_, ?_⟩
      ·dsimp only; rw [adv_at]; omega
      ·dsimp only; rw [adv_at]; omega
      ·dsimp only; rw [adv_at]; omega
      ·dsimp only; rw [adv_at]; omega
      ·dsimp only
       rw [← h5]
       conv => rhs; unfold lexF
       rw [dif_pos hlt, if_neg hb, if_pos h35, Nat.max_eq_right (by rw [adv_at]; omega)]
      ·dsimp only; rw [adv_at]; omega
      ·refine ⟨by simp, by simp only [EV, EB, EL, ER, ET, and_self, true_and, and_true, Nat.reduceEqDiff, reduceCtorEq, reduceIte, rd, tkv_closed acc _], by simp only [EV, EB, EL, ER, ET, and_self, true_and, and_true, Nat.reduceEqDiff, reduceCtorEq, reduceIte, rd, tkv_closed acc _], by simp only [EV, EB, EL, ER, ET, and_self, true_and, and_true, Nat.reduceEqDiff, reduceCtorEq, reduceIte, rd, tkv_closed acc _, pick], rfl⟩
     ·have h35 : ¬ gb s a = 35 := by simpa using h
      refine WC.skip ?_
      try simp only [EQ, reduceIte, Nat.reduceEqDiff]
      refine hK4 _ ?_; try clear hK4 K4
      refine WC.rs fun K hK => ?_
      simp only [↓EJ, EX, FA, simprocAttr]
      refine CallX.mk (CallW.one (r := .l 1) (token_sem hkw hsg s hs a l c hlt) rfl (rd_closed _ _ _ _) (rd_closed _ _ _ _) (by simp only [CL, and_self]) (by simp [renL, ren, fCall]) ?_)
      simp only [↓EJ, EX, FA, simprocAttr, rd]
      refine hK _ ?_; try clear hK K
      refine WC.trim [0, 2, 3, 4, 5, 6, 7, 8, 9, 15, 24, 25, 35, 55] ?_
      simp only [ET, simprocAttr]
      refine WC.sK fun K5 hK5 => ?_
      refine WC.rs fun K hK => ?_
      simp only [↓EJ, EX, FA, simprocAttr]
      refine hK _ ?_; try clear hK K
      refine WC.trim [0, 2, 3, 4, 5, 6, 7, 8, 9, 15, 24, 25, 35, 55] ?_
      simp only [ET, simprocAttr]
      refine WC.cond (c := .tmp 55) rfl (fun h => ?_) (fun h => ?_)
      ·have he : ¬ (tokenF s a).2.2 = 0 := by simp at h; omega
       refine WC.rs fun K hK => ?_
       simp only [↓EJ, EX, FA, simprocAttr]
       refine CallX.mk (CallW.one (r := .l 1) (pos_sem s a l c) rfl (rd_closed _ _ _ _) (rd_closed _ _ _ _) (by simp only [CL, and_self]) (by simp [renL, ren, fCall]) ?_)
       simp only [↓EJ, EX, FA, simprocAttr, rd]
       refine hK _ ?_; try clear hK K
       refine WC.trim [0, 2, 3, 4, 5, 6, 7, 8, 9, 15, 24, 25, 35, 55] ?_
       simp only [ET, simprocAttr]
       refine WC.ret ?_
       simp only [↓EJ, EX, FA, simprocAttr, EQ, FnQ, Tryd.results8, wResL, tup, List.reverse_cons, List.reverse_nil, true_and]
       refine endsSame (by simp only [CL, and_self]) closedBs_nil ⟨?_, rfl⟩
       rw [tokensF, if_neg h8, ← h5]
       unfold lexF
       rw [dif_pos hlt, if_neg hb, if_neg h35, if_neg he]; rfl
      ·have he : (tokenF s a).2.2 = 0 := by simp at h; omega
       have htl := tokenF_len s a hlt he
       have hadv := adv_line s (tokenF s a).2.1.length a l c h2 h3
       refine WC.skip ?_
       try simp only [EQ, reduceIte, Nat.reduceEqDiff]
       refine hK5 _ ?_; try clear hK5 K5
       refine WC.ds [⟨0, 0, false, []⟩, ⟨1, 0, false, []⟩, ⟨2, 0, false, []⟩, ⟨3, 0, false, []⟩, ⟨4, 0, false, []⟩, ⟨5, 0, false, []⟩, ⟨6, 0, false, []⟩, ⟨7, 0, false, []⟩, ⟨8, 0, false, []⟩, ⟨9, 0, false, []⟩, ⟨10, 0, false, []⟩, ⟨11, 0, false, []⟩, ⟨12, 2, false, []⟩, ⟨13, 1, false, []⟩, ⟨14, 0, false, []⟩] [0, 0, 0, 0, 8, 24, 56, 0, 128, 384, 896, 2046, 4094, 8191, 16383] mo (by kernel_rfl) (by simp only [EPl, List.getElem?_cons_zero, List.getElem?_cons_succ]; rfl) fun K hK => ?_
       simp only [↓EJ, EX, FA, simprocAttr, rd, List.length_map]
       repeat refine And.intro (by omega) ?_
       refine hK _ ?_; try clear hK K
       refine WC.trim [0, 2, 3, 4, 5, 6, 7, 8, 9, 15, 24, 25, 35, 55] ?_
       simp only [ET, simprocAttr]
       refine WC.r1 ?_
       simp only [↓EJ, EX, FA, simprocAttr, rd]
       refine CallX.mk (CallW.one (r := .l 1) (step_sem s hs (tokenF s a).2.1.length a l c (by omega) h2 h3) rfl (rd_closed _ _ _ _) (rd_closed _ _ _ _) (by simp only [CL]) (by simp [renL, ren, fCall]) ?_)
       simp only [↓EJ, EX, FA, simprocAttr]
       try simp only [EQ, reduceIte, Nat.reduceEqDiff]
       refine ⟨((adv s (tokenF s a).2.1.length (a, l, c)).1, (adv s (tokenF s a).2.1.length (a, l, c)).2.1, (adv s (tokenF s a).2.1.length (a, l, c)).2.2, acc ++ [((tokenF s a).1, (tokenF s a).2.1, l, c)]), [0, 1, 3], ⟨?_, ?_, ?_, ?_, ?_⟩, ?_, ?_⟩
       ·dsimp only; rw [adv_at]; omega
       ·dsimp only; rw [adv_at]; omega
       ·dsimp only; rw [adv_at]; omega
       ·dsimp only; rw [adv_at, List.length_append]; simp only [List.length_cons, List.length_nil]; omega
       ·dsimp only
        rw [← h5]
        conv => rhs; unfold lexF
        rw [dif_pos hlt, if_neg hb, if_neg h35, if_pos he, Nat.max_eq_right (by rw [adv_at]; omega)]
       ·dsimp only; rw [adv_at]; omega
       ·refine ⟨by simp, by simp only [EV, EB, EL, ER, ET, and_self, true_and, and_true, Nat.reduceEqDiff, reduceCtorEq, reduceIte, rd, tkv_closed acc _, renL_append, List.length_append, List.map_append, tkv, tk], by simp only [EV, EB, EL, ER, ET, and_self, true_and, and_true, Nat.reduceEqDiff, reduceCtorEq, reduceIte, rd, tkv_closed acc _, renL_append, List.length_append, List.map_append, tkv, tk], by simp only [EV, EB, EL, ER, ET, and_self, true_and, and_true, Nat.reduceEqDiff, reduceCtorEq, reduceIte, rd, tkv_closed acc _, renL_append, List.length_append, List.map_append, tkv, tk, pick], rfl⟩
   ·have hge : s.length ≤ a := by simp at h; omega
    refine WC.exit ?_
    simp only [EQ, reduceIte, Nat.reduceEqDiff]
    refine hK2 _ ?_
    refine WC.ds [⟨0, 0, false, []⟩, ⟨1, 0, false, []⟩, ⟨2, 0, false, []⟩, ⟨3, 0, false, []⟩, ⟨4, 0, false, []⟩, ⟨5, 0, false, []⟩, ⟨6, 0, false, []⟩, ⟨7, 0, false, []⟩, ⟨8, 0, false, []⟩, ⟨9, 0, false, []⟩, ⟨10, 2, false, []⟩, ⟨12, 0, true, []⟩, ⟨11, 1, false, [12]⟩, ⟨13, 0, false, []⟩, ⟨14, 1, false, []⟩, ⟨15, 0, false, []⟩] [0, 0, 2, 6, 14, 0, 32, 96, 224, 510, 1022, 2047, 0, 4095, 16383, 32767] mo (by kernel_rfl) (by simp only [EPl, List.getElem?_cons_zero, List.getElem?_cons_succ]; rfl) fun K hK => ?_
    simp only [↓EJ, EX, FA, simprocAttr, rd, List.length_map]
    repeat refine And.intro (by omega) ?_
    refine hK _ ?_; try clear hK K
    refine WC.trim [0, 2, 3, 4, 5, 6, 7, 8, 9, 15, 24, 25, 35, 55] ?_
    simp only [ET, simprocAttr]
    refine WC.frz 2 3 rfl rfl (by simp) ?_
    refine WC.ret ?_
    simp only [↓EJ, EX, FA, simprocAttr, EQ, FnQ, Tryd.results8, wResL, tup, List.reverse_cons, List.reverse_nil, true_and]
    rw [List.take_of_length_le (by simp)]
    have hr : tokensF s = (acc ++ [(5, [], l, c)], (0, 0), 0) := by
     rw [tokensF, if_neg h8, ← h5]
     unfold lexF
     rw [dif_neg (by omega)]
    have ht : acc.map tkv ++ [.agg [.int .i64 5, .str [], .int .i64 l, .int .i64 c]] = (acc ++ [(5, [], l, c)]).map tkv := by rw [List.map_append]; rfl
    rw [hr, tokv_append, ht]
    exact endsSame (by simp only [CL, and_self, tkv_closed]) closedBs_nil ⟨rfl, rfl⟩
end Go.LexSem
set_option maxRecDepth 100000
namespace Go.LexSem
open Go Go.V Go.Proofs

/-- strings.Fields at an ASCII text. -/
theorem fieldsT (s : List UInt8) (hs : s.length < 4294967281) (ha : s.all (fun b => decide (b.toNat < 128)) = true) (ws : List (List UInt8)) (h : Lib.fields s = ws) :
 FSem C 42 [.str s] [] fun r st => r = .ret (.slc (ws.map .str)) ∧ st = [] := by
 subst h
 exact fields_sem (C := C) (ρ := lays157_ren) lays157 (by kernel_rfl) ok_42 rfl s hs (fun b hb => by simpa using List.all_eq_true.1 ha b hb)

def kwText : List UInt8 := [112, 97, 114, 97, 109, 32, 102, 117, 110, 99, 32, 113, 117, 101, 114, 121, 32, 118, 97, 114, 32, 114, 101, 116, 117, 114, 110, 32, 98, 111, 111, 108, 32, 105, 110, 116, 32, 110, 97, 116, 32, 114, 101, 97, 108, 32, 108, 105, 115, 116, 32, 105, 102, 32, 101, 108, 115, 101, 32, 114, 101, 112, 101, 97, 116, 32, 119, 104, 105, 108, 101, 32, 111, 98, 115, 101, 114, 118, 101, 32, 119, 101, 105, 103, 104, 116, 32, 116, 114, 117, 101, 32, 102, 97, 108, 115, 101, 32, 108, 101, 110, 32, 112, 117, 115, 104, 32, 102, 108, 105, 112, 32, 117, 110, 105, 102, 111, 114, 109, 32, 116, 97, 98, 108, 101, 32, 98, 105, 110, 111, 109, 105, 97, 108, 32, 103, 101, 111, 109, 101, 116, 114, 105, 99, 32, 105, 110, 116, 101, 114, 118, 97, 108, 32, 98, 101, 116, 97, 32, 112, 111, 115, 116, 101, 114, 105, 111, 114]
def sgText : List UInt8 := [58, 61, 32, 61, 61, 32, 33, 61, 32, 60, 61, 32, 62, 61, 32, 38, 38, 32, 124, 124, 32, 126, 32, 60, 32, 62, 32, 43, 32, 45, 32, 42, 32, 47, 32, 40, 32, 41, 32, 91, 32, 93, 32, 123, 32, 125, 32, 44, 32, 59, 32, 58, 32, 63, 32, 46, 32, 33]

theorem keywords_sem : FSem C 31 [] [] fun r st => r = .ret (.slc (kws.map .str)) ∧ st = [] := by
 refine FSem.enter' (C := C) (n := 2) Tryd.func31 rfl rfl ok_31 (by simp) ?_
 simp only [argEnv]
 refine WC.rs fun K hK => ?_
 simp only [↓EJ, EX, FA, simprocAttr]
 refine hK _ ?_; try clear hK K
 refine WC.trim [0] ?_
 simp only [ET, simprocAttr]
 refine WC.rs fun K hK => ?_
 simp only [↓EJ, EX, FA, simprocAttr]
 refine CallX.mk (CallW.pure (fieldsT kwText (by decide) (by decide) kws (by decide)) (by simp only [CL, and_self]) (by simp only [CL, strs_closed]) ?_)
 simp only [↓EJ, EX, FA, simprocAttr]
 refine hK _ ?_; try clear hK K
 refine WC.trim [0] ?_
 simp only [ET, simprocAttr]
 refine WC.ret ?_
 simp only [↓EJ, EX, FA, simprocAttr, EQ, FnQ, Tryd.results31, wResL, tup, List.reverse_cons, List.reverse_nil, true_and]
 exact endsPure (by simp only [CL, strs_closed]) rfl
theorem signs_sem : FSem C 33 [] [] fun r st => r = .ret (.slc (sgs.map .str)) ∧ st = [] := by
 refine FSem.enter' (C := C) (n := 2) Tryd.func33 rfl rfl ok_33 (by simp) ?_
 simp only [argEnv]
 refine WC.rs fun K hK => ?_
 simp only [↓EJ, EX, FA, simprocAttr]
 refine hK _ ?_; try clear hK K
 refine WC.trim [0] ?_
 simp only [ET, simprocAttr]
 refine WC.rs fun K hK => ?_
 simp only [↓EJ, EX, FA, simprocAttr]
 refine CallX.mk (CallW.pure (fieldsT sgText (by decide) (by decide) sgs (by decide)) (by simp only [CL, and_self]) (by simp only [CL, strs_closed]) ?_)
 simp only [↓EJ, EX, FA, simprocAttr]
 refine hK _ ?_; try clear hK K
 refine WC.trim [0] ?_
 simp only [ET, simprocAttr]
 refine WC.ret ?_
 simp only [↓EJ, EX, FA, simprocAttr, EQ, FnQ, Tryd.results33, wResL, tup, List.reverse_cons, List.reverse_nil, true_and]
 exact endsPure (by simp only [CL, strs_closed]) rfl
theorem toks_sem (s : List UInt8) : FSem C 8 [.str s] [] fun r st => r = .ret (.tuple [tokv (tokensF s).1, pl (tokensF s).2.1.1 (tokensF s).2.1.2, .int .i64 (tokensF s).2.2]) ∧ st = [] := tokens_sem keywords_sem signs_sem s
/-! ### tokens of constant texts -/
def lexN : Nat → List UInt8 → Nat → Nat → Nat → List Tok → List Tok × (Nat × Nat) × Nat
 | 0, _, _, _, _, _ => ([], (0, 0), 0)
 | k + 1, s, a, l, c, acc =>
   if a < s.length then
    if blankI (gb s a) = true then lexN k s (a + 1) (adv s 1 (a, l, c)).2.1 (adv s 1 (a, l, c)).2.2 acc
    else if gb s a = 35 then
     lexN k s (max (a + 1) (adv s (runAt notNl s a).length (a, l, c)).1) (adv s (runAt notNl s a).length (a, l, c)).2.1 (adv s (runAt notNl s a).length (a, l, c)).2.2 acc
    else if (tokenF s a).2.2 = 0 then
     lexN k s (max (a + 1) (adv s (tokenF s a).2.1.length (a, l, c)).1) (adv s (tokenF s a).2.1.length (a, l, c)).2.1 (adv s (tokenF s a).2.1.length (a, l, c)).2.2 (acc ++ [((tokenF s a).1, (tokenF s a).2.1, l, c)])
    else ([], (l, c), (tokenF s a).2.2)
   else (acc ++ [(5, [], l, c)], (0, 0), 0)
theorem lexF_eq (s : List UInt8) : ∀ k a l c acc, s.length - a < k → lexF s a l c acc = lexN k s a l c acc := by
 intro k
 induction k with
 | zero => intro a l c acc h; omega
 | succ k ih =>
   intro a l c acc h
   unfold lexF lexN
   by_cases ha : a < s.length
   ·rw [dif_pos ha, if_pos ha]
    split
    ·exact ih _ _ _ _ (by omega)
    ·split
     ·exact ih _ _ _ _ (by omega)
     ·split
      ·exact ih _ _ _ _ (by omega)
      ·rfl
   ·rw [dif_neg ha, if_neg ha]
theorem tokensF_at {s : List UInt8} {r : List Tok × (Nat × Nat) × Nat} (hs : s.length ≤ 8192) (h : lexN (s.length + 1) s 0 1 1 [] = r) : tokensF s = r := by
 rw [tokensF, if_neg (by omega), lexF_eq s (s.length + 1) 0 1 1 [] (by omega)]; exact h

def awText : List UInt8 := [120, 49, 32, 58, 61, 32, 51, 59]
theorem aw_tokens : tokensF awText = ([(1, [120, 49], 1, 1), (4, [58, 61], 1, 4), (2, [51], 1, 7), (4, [59], 1, 8), (5, [], 1, 9)], (0, 0), 0) := tokensF_at (by decide) (by decide +kernel)

end Go.LexSem
