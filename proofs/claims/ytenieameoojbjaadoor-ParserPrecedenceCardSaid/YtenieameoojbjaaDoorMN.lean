/-
 Texts joined: PaAC PaAD PaAE.
-/
import Derived.Test.YtenieameoojbjaaDoorMM
set_option linter.unusedVariables false
set_option linter.unusedSimpArgs false
set_option linter.loopingSimpArgs false
-- CLOSERS: PCL, TCL, DCL, FCL, RCL, MCL, BCL, GCL
set_option maxHeartbeats 16000000
set_option maxRecDepth 8000
namespace Go.LexSem
open Go Go.V Go.Proofs Go.Num

/-! ### Equal values are found to be the same -/
def Tru (f : FuncId) (p : PVal) : Prop := FSem C f [p, p] [] fun r st => r = .ret (.bool true) ∧ st = []
theorem Tru.nils {f : FuncId} (h : Tru f (.slc [])) : Tru f .nils := FSem.weak h ⟨.inr ⟨rfl, rfl⟩, .inr ⟨rfl, rfl⟩, trivial⟩

theorem same01 (l : List Nat) (hl : l.length ≤ 10000) : Tru 58 (.slc (l.map lb)) := by
 unfold Tru
 refine FSem.enter' (C := C) (n := 26) Tryd.func58 rfl rfl ok_58 (by simp) ?_
 simp only [argEnv]
 refine WC.rs fun K hK => ?_
 simp (maxSteps := 1000000) only [↓EJ, EX, FA, simprocAttr]
 refine hK _ ?_; try clear hK K
 refine WC.trim [0, 1, 4, 5, 10, 14, 25] ?_
 simp only [ET, simprocAttr]
 refine WC.sK fun K1 hK1 => ?_
 refine WC.rs fun K hK => ?_
 simp (maxSteps := 1000000) only [↓EJ, EX, FA, simprocAttr, List.length_map]
 refine hK _ ?_; try clear hK K
 refine WC.trim [0, 1, 4, 5, 10, 14, 25] ?_
 simp only [ET, simprocAttr]
 refine WC.cond (c := .tmp 10) rfl (fun h => ?_) (fun h => ?_)
 ·simp at h
 refine WC.skip ?_
 try simp only [EQ, reduceIte, Nat.reduceEqDiff]
 refine hK1 _ ?_; try clear hK1 K1
 refine WC.sK fun K2 hK2 => ?_
 refine WC.rs fun K hK => ?_
 simp (maxSteps := 1000000) only [↓EJ, EX, FA, simprocAttr]
 refine hK _ ?_; try clear hK K
 refine WC.trim [0, 1, 4, 5, 10, 14, 25] ?_
 simp only [ET, simprocAttr]
 refine WC.b1 ?_
 refine WC.loop (X := Nat) (fun i => ⟨[(5, .int .i64 i), (4, .bool false), (0, .slc (l.map lb)), (1, .slc (l.map lb))], [], [], []⟩) (fun i => i ≤ l.length) (fun i => l.length - i) 0 [] (Nat.zero_le _) ?_ ?_
 ·refine ⟨by simp, by simp only [EV, EB, EL, ER, ET, and_self, true_and, and_true, Nat.reduceEqDiff, reduceCtorEq, reduceIte, lb_closedL l _], by simp only [EV, EB, EL, ER, ET, and_self, true_and, and_true, Nat.reduceEqDiff, reduceCtorEq, reduceIte, lb_closedL l _], by simp only [EV, EB, EL, ER, ET, and_self, true_and, and_true, Nat.reduceEqDiff, reduceCtorEq, reduceIte, lb_closedL l _, pick], rfl⟩
 intro i hi
 refine WC.sK fun K3 hK3 => ?_
 refine WC.rs fun K hK => ?_
 simp (maxSteps := 1000000) only [↓EJ, EX, FA, simprocAttr, List.length_map]
 refine hK _ ?_; try clear hK K
 refine WC.trim [0, 1, 4, 5, 10, 14, 25] ?_
 simp only [ET, simprocAttr]
 refine WC.cond (c := .tmp 14) rfl (fun h => ?_) (fun h => ?_)
 ·have hlt : i < l.length := by simpa using h
  have hg : gi (l.map lb) i = lb l[i] := by simp [gi, hlt]
  refine WC.skip ?_
  try simp only [EQ, reduceIte, Nat.reduceEqDiff]
  refine hK3 _ ?_; try clear hK3 K3
  refine WC.bs fun K4 hK4 => ?_
  refine WC.ds [⟨0, 0, false, []⟩, ⟨1, 0, false, []⟩, ⟨2, 0, false, []⟩, ⟨3, 0, false, []⟩, ⟨4, 0, false, []⟩, ⟨5, 0, false, []⟩, ⟨6, 0, false, []⟩, ⟨7, 0, false, []⟩, ⟨8, 0, false, []⟩] [0, 0, 3, 7, 0, 0, 48, 112, 255] mo (by kernel_rfl) (by simp only [EPl, List.getElem?_cons_zero, List.getElem?_cons_succ]; rfl) fun K hK => ?_
  simp (maxSteps := 1000000) only [↓EJ, EX, FA, simprocAttr, hg, List.length_map, Int.toNat_natCast, lb_cells, lb]
  refine ⟨by omega, by omega, by omega, by omega, ?_⟩
  refine hK _ ?_; try clear hK K
  refine WC.trim [0, 1, 4, 5, 10, 14, 25] ?_
  simp only [ET, simprocAttr]
  refine WC.cond (c := .tmp 25) rfl (fun h => ?_) (fun h => ?_)
  ·simp at h
  refine WC.skip ?_
  try simp only [EQ, reduceIte, Nat.reduceEqDiff]
  refine hK4 _ ?_; try clear hK4 K4
  refine WC.r1 ?_
  simp (maxSteps := 1000000) (disch := omega) only [↓EJ, EX, FA, simprocAttr, w64, wu64]
  try simp only [EQ, reduceIte, Nat.reduceEqDiff]
  refine ⟨i + 1, [], hlt, by omega, ?_⟩
  refine ⟨by simp, by simp only [EV, EB, EL, ER, ET, and_self, true_and, and_true, Nat.reduceEqDiff, reduceCtorEq, reduceIte, Int.natCast_add, lb_closedL l _], by simp only [EV, EB, EL, ER, ET, and_self, true_and, and_true, Nat.reduceEqDiff, reduceCtorEq, reduceIte, Int.natCast_add, lb_closedL l _], by simp only [EV, EB, EL, ER, ET, and_self, true_and, and_true, Nat.reduceEqDiff, reduceCtorEq, reduceIte, Int.natCast_add, lb_closedL l _, pick], rfl⟩
 ·have he : i = l.length := by simp at h; omega
  refine WC.exit ?_
  simp only [EQ, reduceIte, Nat.reduceEqDiff]
  try simp only [EQ, reduceIte, Nat.reduceEqDiff]
  refine hK2 _ ?_; try clear hK2 K2
  refine WC.rs fun K hK => ?_
  simp (maxSteps := 1000000) only [↓EJ, EX, FA, simprocAttr]
  refine hK _ ?_; try clear hK K
  refine WC.trim [0, 1, 4, 5, 10, 14, 25] ?_
  simp only [ET, simprocAttr]
  refine WC.ret ?_
  simp (maxSteps := 1000000) only [↓EJ, EX, FA, simprocAttr, EQ, FnQ, Tryd.results58, wResL, tup, List.reverse_cons, List.reverse_nil, true_and]
  exact endsPure (of_eq_true (by simp only [CL])) rfl
/-- Fractions that are small enough. -/
def rtOk (r : Rt) : Bool := decide (r.2.1 < 2 ^ 250) && decide (r.2.2 < 2 ^ 250)
theorem okN_lt {n : Nat} (h : n < 2 ^ 250) : okN n := Nat.le_trans (len_toL (k := 8) (Nat.lt_of_lt_of_le h (by decide))) (by decide)
theorem sameN {n : Nat} (h : n < 2 ^ 250) : Tru 58 (numV n) := by
 unfold numV
 split
 ·exact Tru.nils (same01 [] (by decide))
 ·exact same01 (toL n) (okN_lt h)
theorem numV_sc : (∀ n, (numV n).solid = true) ∧ (∀ n, (numV n).cells = [numV n]) := by
 constructor <;> intro n <;> unfold numV <;> split <;> rfl
def rtV (r : Rt) : PVal := .agg [.bool r.1, numV r.2.1, numV r.2.2]
theorem rtV_closed (r : Rt) : Closed (rtV r) := of_eq_true (by simp only [rtV, CL, PCL, and_self])
theorem same02 (r : Rt) (h : rtOk r = true) : Tru 51 (rtV r) := by
 simp only [rtOk, Bool.and_eq_true, decide_eq_true_eq] at h
 obtain ⟨a, n, d⟩ := r
 unfold Tru rtV
 refine FSem.enter' (C := C) (n := 24) Tryd.func51 rfl rfl ok_51 (by simp) ?_
 simp only [argEnv]
 refine WC.rs fun K hK => ?_
 simp (maxSteps := 1000000) only [↓EJ, EX, FA, simprocAttr, numV_sc]
 refine hK _ ?_; try clear hK K
 refine WC.trim [0, 1, 2, 3, 4] ?_
 simp only [ET, simprocAttr]
 refine WC.rs fun K hK => ?_
 simp (maxSteps := 1000000) only [↓EJ, EX, FA, simprocAttr, numV_sc]
 refine CallX.mk (CallW.pure (sameN h.1) (by simp only [CL, PCL, TCL, DCL, FCL, RCL, MCL, BCL, GCL, and_self]) (by simp only [CL]) ?_)
 simp (maxSteps := 1000000) only [↓EJ, EX, FA, simprocAttr, numV_sc]
 refine CallX.mk (CallW.pure (sameN h.2) (by simp only [CL, PCL, TCL, DCL, FCL, RCL, MCL, BCL, GCL, and_self]) (by simp only [CL]) ?_)
 simp (maxSteps := 1000000) only [↓EJ, EX, FA, simprocAttr, numV_sc]
 refine hK _ ?_; try clear hK K
 refine WC.trim [0, 1, 2, 3, 4] ?_
 simp only [ET, simprocAttr]
 refine WC.ret ?_
 simp (maxSteps := 1000000) only [↓EJ, EX, FA, simprocAttr, EQ, FnQ, Tryd.results51, wResL, tup, List.reverse_cons, List.reverse_nil, true_and]
 exact endsPure (of_eq_true (by simp only [CL])) rfl
/-! ### Expressions -/
mutual
def exOk : Ex → Bool
 | .mk _ _ r _ al => rtOk r && (decide (al.length ≤ 10000) && exsOk al)
def exsOk : List Ex → Bool
 | [] => true
 | e :: es => exOk e && exsOk es
end
theorem exsOk_mem : ∀ {l : List Ex}, exsOk l = true → ∀ e ∈ l, exOk e = true
 | [], _, e, he => by cases he
 | x :: l, h, e, he => by
   simp only [exsOk, Bool.and_eq_true] at h
   rcases List.mem_cons.1 he with rfl | he
   ·exact h.1
   ·exact exsOk_mem h.2 e he
theorem sameExs (l : List Ex) (hl : l.length ≤ 10000) (H : ∀ e ∈ l, Tru 38 (exV e)) : Tru 39 (.slc (l.map exV)) := by
 unfold Tru
 refine FSem.enter' (C := C) (n := 27) Tryd.func39 rfl rfl ok_39 (by simp) ?_
 simp only [argEnv]
 refine WC.rs fun K hK => ?_
 simp (maxSteps := 1000000) only [↓EJ, EX, FA, simprocAttr]
 refine hK _ ?_; try clear hK K
 refine WC.trim [0, 1, 4, 5, 10, 14, 26] ?_
 simp only [ET, simprocAttr]
 refine WC.sK fun K1 hK1 => ?_
 refine WC.rs fun K hK => ?_
 simp (maxSteps := 1000000) only [↓EJ, EX, FA, simprocAttr, List.length_map]
 refine hK _ ?_; try clear hK K
 refine WC.trim [0, 1, 4, 5, 10, 14, 26] ?_
 simp only [ET, simprocAttr]
 refine WC.cond (c := .tmp 10) rfl (fun h => ?_) (fun h => ?_)
 ·simp at h
 refine WC.skip ?_
 try simp only [EQ, reduceIte, Nat.reduceEqDiff]
 refine hK1 _ ?_; try clear hK1 K1
 refine WC.sK fun K2 hK2 => ?_
 refine WC.rs fun K hK => ?_
 simp (maxSteps := 1000000) only [↓EJ, EX, FA, simprocAttr]
 refine hK _ ?_; try clear hK K
 refine WC.trim [0, 1, 4, 5, 10, 14, 26] ?_
 simp only [ET, simprocAttr]
 refine WC.b1 ?_
 refine WC.loop (X := Nat) (fun i => ⟨[(5, .int .i64 i), (4, .bool false), (0, .slc (l.map exV)), (1, .slc (l.map exV))], [], [], []⟩) (fun i => i ≤ l.length) (fun i => l.length - i) 0 [] (Nat.zero_le _) ?_ ?_
 ·refine ⟨by simp, by simp only [EV, EB, EL, ER, ET, and_self, true_and, and_true, Nat.reduceEqDiff, reduceCtorEq, reduceIte, exVs_ren], by simp only [EV, EB, EL, ER, ET, and_self, true_and, and_true, Nat.reduceEqDiff, reduceCtorEq, reduceIte, exVs_ren], by simp only [EV, EB, EL, ER, ET, and_self, true_and, and_true, Nat.reduceEqDiff, reduceCtorEq, reduceIte, exVs_ren, pick], rfl⟩
 intro i hi
 refine WC.sK fun K3 hK3 => ?_
 refine WC.rs fun K hK => ?_
 simp (maxSteps := 1000000) only [↓EJ, EX, FA, simprocAttr, List.length_map]
 refine hK _ ?_; try clear hK K
 refine WC.trim [0, 1, 4, 5, 10, 14, 26] ?_
 simp only [ET, simprocAttr]
 refine WC.cond (c := .tmp 14) rfl (fun h => ?_) (fun h => ?_)
 ·have hlt : i < l.length := by simpa using h
  have hg : gi (l.map exV) i = exV l[i] := by simp [gi, hlt]
  refine WC.skip ?_
  try simp only [EQ, reduceIte, Nat.reduceEqDiff]
  refine hK3 _ ?_; try clear hK3 K3
  refine WC.bs fun K4 hK4 => ?_
  refine WC.ds [⟨0, 0, false, []⟩, ⟨1, 0, false, []⟩, ⟨2, 0, false, []⟩, ⟨3, 0, false, []⟩, ⟨4, 0, false, []⟩, ⟨5, 0, false, []⟩, ⟨6, 0, false, []⟩, ⟨7, 0, false, []⟩, ⟨8, 1, false, []⟩, ⟨9, 0, false, []⟩] [0, 0, 3, 7, 0, 0, 48, 112, 255, 511] mo (by kernel_rfl) (by simp only [EPl, List.getElem?_cons_zero, List.getElem?_cons_succ]; rfl) fun K hK => ?_
  simp (maxSteps := 1000000) only [↓EJ, EX, FA, simprocAttr, hg, List.length_map, Int.toNat_natCast, XS]
  repeat refine And.intro (by omega) ?_
  refine CallX.mk (CallW.pure (H l[i] (List.getElem_mem hlt)) (by simp only [CL, PCL, TCL, DCL, FCL, RCL, MCL, BCL, GCL, and_self]) (by simp only [CL]) ?_)
  simp (maxSteps := 1000000) only [↓EJ, EX, FA, simprocAttr, XS]
  repeat refine And.intro (by omega) ?_
  refine hK _ ?_; try clear hK K
  refine WC.trim [0, 1, 4, 5, 10, 14, 26] ?_
  simp only [ET, simprocAttr]
  refine WC.cond (c := .tmp 26) rfl (fun h => ?_) (fun h => ?_)
  ·simp at h
  refine WC.skip ?_
  try simp only [EQ, reduceIte, Nat.reduceEqDiff]
  refine hK4 _ ?_; try clear hK4 K4
  refine WC.r1 ?_
  simp (maxSteps := 1000000) (disch := omega) only [↓EJ, EX, FA, simprocAttr, w64, wu64]
  try simp only [EQ, reduceIte, Nat.reduceEqDiff]
  refine ⟨i + 1, [], hlt, by omega, ?_⟩
  refine ⟨by simp, by simp only [EV, EB, EL, ER, ET, and_self, true_and, and_true, Nat.reduceEqDiff, reduceCtorEq, reduceIte, Int.natCast_add, exVs_ren], by simp only [EV, EB, EL, ER, ET, and_self, true_and, and_true, Nat.reduceEqDiff, reduceCtorEq, reduceIte, Int.natCast_add, exVs_ren], by simp only [EV, EB, EL, ER, ET, and_self, true_and, and_true, Nat.reduceEqDiff, reduceCtorEq, reduceIte, Int.natCast_add, exVs_ren, pick], rfl⟩
 ·have he : i = l.length := by simp at h; omega
  refine WC.exit ?_
  simp only [EQ, reduceIte, Nat.reduceEqDiff]
  try simp only [EQ, reduceIte, Nat.reduceEqDiff]
  refine hK2 _ ?_; try clear hK2 K2
  refine WC.rs fun K hK => ?_
  simp (maxSteps := 1000000) only [↓EJ, EX, FA, simprocAttr]
  refine hK _ ?_; try clear hK K
  refine WC.trim [0, 1, 4, 5, 10, 14, 26] ?_
  simp only [ET, simprocAttr]
  refine WC.ret ?_
  simp (maxSteps := 1000000) only [↓EJ, EX, FA, simprocAttr, EQ, FnQ, Tryd.results39, wResL, tup, List.reverse_cons, List.reverse_nil, true_and]
  exact endsPure (of_eq_true (by simp only [CL])) rfl
theorem sameExs' (l : List Ex) (hl : l.length ≤ 10000) (H : ∀ e ∈ l, Tru 38 (exV e)) : Tru 39 (exsV l) := by
 cases l with
 | nil => rw [exsV_nil]; exact Tru.nils (sameExs [] hl H)
 | cons e es => rw [exsV_ne (by simp)]; exact sameExs _ hl H
theorem sameEx_step (op : Nat) (i : Int) (r : Rt) (nm : List UInt8) (al : List Ex) (hr : rtOk r = true) (H : Tru 39 (exsV al)) : Tru 38 (exV (.mk op i r nm al)) := by
 have h2 := same02 r hr
 unfold Tru rtV at h2
 rw [exV_mk]
 unfold Tru
 refine FSem.enter' (C := C) (n := 38) Tryd.func38 rfl rfl ok_38 (by simp) ?_
 simp only [argEnv]
 refine WC.rs fun K hK => ?_
 simp (maxSteps := 1000000) only [↓EJ, EX, FA, simprocAttr, numV_sc, exsV_sc]
 refine hK _ ?_; try clear hK K
 refine WC.trim [0, 1, 2, 3, 4] ?_
 simp only [ET, simprocAttr]
 refine WC.rs fun K hK => ?_
 simp (maxSteps := 1000000) only [↓EJ, EX, FA, simprocAttr, numV_sc, exsV_sc]
 refine CallX.mk (CallW.pure (h2) (by simp only [CL, PCL, TCL, DCL, FCL, RCL, MCL, BCL, GCL, and_self]) (by simp only [CL]) ?_)
 simp (maxSteps := 1000000) only [↓EJ, EX, FA, simprocAttr, numV_sc, exsV_sc]
 refine CallX.mk (CallW.pure (H) (by simp only [CL, PCL, TCL, DCL, FCL, RCL, MCL, BCL, GCL, and_self]) (by simp only [CL]) ?_)
 simp (maxSteps := 1000000) only [↓EJ, EX, FA, simprocAttr, numV_sc, exsV_sc]
 refine hK _ ?_; try clear hK K
 refine WC.trim [0, 1, 2, 3, 4] ?_
 simp only [ET, simprocAttr]
 refine WC.ret ?_
 simp (maxSteps := 1000000) only [↓EJ, EX, FA, simprocAttr, EQ, FnQ, Tryd.results38, wResL, tup, List.reverse_cons, List.reverse_nil, true_and]
 exact endsPure (of_eq_true (by simp only [CL])) rfl
mutual
theorem sameEx : ∀ e : Ex, exOk e = true → Tru 38 (exV e)
 | .mk op i r nm al, h => by
   simp only [exOk, Bool.and_eq_true, decide_eq_true_eq] at h
   exact sameEx_step op i r nm al h.1 (sameExs' al h.2.1 (sameExM al h.2.2))
theorem sameExM : ∀ l : List Ex, exsOk l = true → ∀ e ∈ l, Tru 38 (exV e)
 | [], _, e, he => by cases he
 | x :: l, h, e, he => by
   simp only [exsOk, Bool.and_eq_true] at h
   rcases List.mem_cons.1 he with h' | he
   ·rw [h']; exact sameEx x h.1
   ·exact sameExM l h.2 e he
end
def exlOk (l : List Ex) : Bool := decide (l.length ≤ 10000) && exsOk l
theorem sameExl (l : List Ex) (h : exlOk l = true) : Tru 39 (exsV l) := by
 simp only [exlOk, Bool.and_eq_true, decide_eq_true_eq] at h
 exact sameExs' l h.1 (sameExM l h.2)
end Go.LexSem
-- CLOSERS: PCL, TCL, DCL, FCL, RCL, MCL, BCL, GCL
set_option maxHeartbeats 32000000
set_option maxRecDepth 8000
namespace Go.LexSem
open Go Go.V Go.Proofs Go.Num

theorem sameDr_step (d : Dr) (h1 : rtOk d.from_ = true) (h2 : rtOk d.to_ = true) (H : Tru 39 (exsV d.probs)) : Tru 40 (drV d) := by
 have g1 := same02 d.from_ h1
 have g2 := same02 d.to_ h2
 unfold Tru rtV at g1 g2
 unfold Tru drV drC
 refine FSem.enter' (C := C) (n := 52) Tryd.func40 rfl rfl ok_40 (by simp) ?_
 simp only [argEnv]
 refine WC.rs fun K hK => ?_
 simp (maxSteps := 1000000) only [↓EJ, EX, FA, simprocAttr, numV_sc, exsV_sc]
 refine hK _ ?_; try clear hK K
 refine WC.trim [0, 1, 2, 3, 4] ?_
 simp only [ET, simprocAttr]
 refine WC.rs fun K hK => ?_
 simp (maxSteps := 1000000) only [↓EJ, EX, FA, simprocAttr, numV_sc, exsV_sc]
 refine CallX.mk (CallW.pure (g1) (by simp only [CL, PCL, TCL, DCL, FCL, RCL, MCL, BCL, GCL, and_self]) (by simp only [CL]) ?_)
 simp (maxSteps := 1000000) only [↓EJ, EX, FA, simprocAttr, numV_sc, exsV_sc]
 refine CallX.mk (CallW.pure (g2) (by simp only [CL, PCL, TCL, DCL, FCL, RCL, MCL, BCL, GCL, and_self]) (by simp only [CL]) ?_)
 simp (maxSteps := 1000000) only [↓EJ, EX, FA, simprocAttr, numV_sc, exsV_sc]
 refine CallX.mk (CallW.pure (H) (by simp only [CL, PCL, TCL, DCL, FCL, RCL, MCL, BCL, GCL, and_self]) (by simp only [CL]) ?_)
 simp (maxSteps := 1000000) only [↓EJ, EX, FA, simprocAttr, numV_sc, exsV_sc]
 refine hK _ ?_; try clear hK K
 refine WC.trim [0, 1, 2, 3, 4] ?_
 simp only [ET, simprocAttr]
 refine WC.ret ?_
 simp (maxSteps := 1000000) only [↓EJ, EX, FA, simprocAttr, EQ, FnQ, Tryd.results40, wResL, tup, List.reverse_cons, List.reverse_nil, true_and]
 exact endsPure (of_eq_true (by simp only [CL])) rfl
def drOk (d : Dr) : Bool := rtOk d.from_ && (rtOk d.to_ && exlOk d.probs)
theorem sameDr (d : Dr) (h : drOk d = true) : Tru 40 (drV d) := by
 simp only [drOk, Bool.and_eq_true] at h
 exact sameDr_step d h.1 h.2.1 (sameExl d.probs h.2.2)
/-! ### Types -/
mutual
def tyOk : Ty → Bool
 | .mk _ _ _ _ es => decide (es.length ≤ 10000) && tysOk es
def tysOk : List Ty → Bool
 | [] => true
 | e :: es => tyOk e && tysOk es
end
theorem sameTy_nil (k : Nat) (lo hi : Int) (m : Nat) : Tru 37 (.agg [.int .i64 k, .int .i64 lo, .int .i64 hi, .int .i64 m, .nils]) := by
 unfold Tru
 refine FSem.enter' (C := C) (n := 60) Tryd.func37 rfl rfl ok_37 (by simp) ?_
 simp only [argEnv]
 refine WC.rs fun K hK => ?_
 simp (maxSteps := 1000000) only [↓EJ, EX, FA, simprocAttr]
 refine hK _ ?_; try clear hK K
 refine WC.trim [0, 1, 2, 3, 4, 5, 40, 45, 59] ?_
 simp only [ET, simprocAttr]
 refine WC.sK fun K1 hK1 => ?_
 refine WC.rs fun K hK => ?_
 simp (maxSteps := 1000000) only [↓EJ, EX, FA, simprocAttr, List.length_map, Bool.not_true, Bool.not_false]
 refine hK _ ?_; try clear hK K
 refine WC.trim [0, 1, 2, 3, 4, 5, 40, 45, 59] ?_
 simp only [ET, simprocAttr]
 refine WC.cond (c := .tmp 40) rfl (fun h => ?_) (fun h => ?_)
 ·simp at h
 refine WC.skip ?_
 try simp only [EQ, reduceIte, Nat.reduceEqDiff]
 refine hK1 _ ?_; try clear hK1 K1
 refine WC.sK fun K2 hK2 => ?_
 refine WC.rs fun K hK => ?_
 simp (maxSteps := 1000000) only [↓EJ, EX, FA, simprocAttr]
 refine hK _ ?_; try clear hK K
 refine WC.trim [0, 1, 2, 3, 4, 5, 40, 45, 59] ?_
 simp only [ET, simprocAttr]
 refine WC.b1 ?_
 refine WC.loop (X := Nat) (fun i => ⟨[(5, .int .i64 i), (4, .bool false), (3, .ptr (.l 1) 0 0), (2, .ptr (.l 0) 0 0)], [], [.row [.agg [.int .i64 k, .int .i64 lo, .int .i64 hi, .int .i64 m, .nils]] 5 74, .row [.agg [.int .i64 k, .int .i64 lo, .int .i64 hi, .int .i64 m, .nils]] 5 74], []⟩) (fun i => i ≤ 0) (fun i => 0 - i) 0 [0, 1] (Nat.zero_le _) ?_ ?_
 ·refine ⟨by simp, by simp only [EV, EB, EL, ER, ET, and_self, true_and, and_true, Nat.reduceEqDiff, reduceCtorEq, reduceIte, TRN], by simp only [EV, EB, EL, ER, ET, and_self, true_and, and_true, Nat.reduceEqDiff, reduceCtorEq, reduceIte, TRN], by simp only [EV, EB, EL, ER, ET, and_self, true_and, and_true, Nat.reduceEqDiff, reduceCtorEq, reduceIte, TRN, pick], rfl⟩
 intro i hi
 refine WC.sK fun K3 hK3 => ?_
 refine WC.rs fun K hK => ?_
 simp (maxSteps := 1000000) only [↓EJ, EX, FA, simprocAttr, List.length_map]
 refine hK _ ?_; try clear hK K
 refine WC.trim [0, 1, 2, 3, 4, 5, 40, 45, 59] ?_
 simp only [ET, simprocAttr]
 refine WC.cond (c := .tmp 45) rfl (fun h => ?_) (fun h => ?_)
 ·simp at h; omega
 ·skip
  refine WC.exit ?_
  simp only [EQ, reduceIte, Nat.reduceEqDiff]
  try simp only [EQ, reduceIte, Nat.reduceEqDiff]
  refine hK2 _ ?_; try clear hK2 K2
  refine WC.rs fun K hK => ?_
  simp (maxSteps := 1000000) only [↓EJ, EX, FA, simprocAttr]
  refine hK _ ?_; try clear hK K
  refine WC.trim [0, 1, 2, 3, 4, 5, 40, 45, 59] ?_
  simp only [ET, simprocAttr]
  refine WC.ret ?_
  simp (maxSteps := 1000000) only [↓EJ, EX, FA, simprocAttr, EQ, FnQ, Tryd.results37, wResL, tup, List.reverse_cons, List.reverse_nil, true_and]
  exact endsPure' (by simp only [CL]) rfl
theorem sameTy_cons (k : Nat) (lo hi : Int) (m : Nat) (es : List Ty) (hl : es.length ≤ 10000) (H : ∀ e ∈ es, Tru 37 (tyV e)) : Tru 37 (.agg [.int .i64 k, .int .i64 lo, .int .i64 hi, .int .i64 m, .slc (es.map tyV)]) := by
 unfold Tru
 refine FSem.enter' (C := C) (n := 60) Tryd.func37 rfl rfl ok_37 (by simp) ?_
 simp only [argEnv]
 refine WC.rs fun K hK => ?_
 simp (maxSteps := 1000000) only [↓EJ, EX, FA, simprocAttr]
 refine hK _ ?_; try clear hK K
 refine WC.trim [0, 1, 2, 3, 4, 5, 40, 45, 59] ?_
 simp only [ET, simprocAttr]
 refine WC.sK fun K1 hK1 => ?_
 refine WC.rs fun K hK => ?_
 simp (maxSteps := 1000000) only [↓EJ, EX, FA, simprocAttr, List.length_map, Bool.not_true, Bool.not_false]
 refine hK _ ?_; try clear hK K
 refine WC.trim [0, 1, 2, 3, 4, 5, 40, 45, 59] ?_
 simp only [ET, simprocAttr]
 refine WC.cond (c := .tmp 40) rfl (fun h => ?_) (fun h => ?_)
 ·simp at h
 refine WC.skip ?_
 try simp only [EQ, reduceIte, Nat.reduceEqDiff]
 refine hK1 _ ?_; try clear hK1 K1
 refine WC.sK fun K2 hK2 => ?_
 refine WC.rs fun K hK => ?_
 simp (maxSteps := 1000000) only [↓EJ, EX, FA, simprocAttr]
 refine hK _ ?_; try clear hK K
 refine WC.trim [0, 1, 2, 3, 4, 5, 40, 45, 59] ?_
 simp only [ET, simprocAttr]
 refine WC.b1 ?_
 refine WC.loop (X := Nat) (fun i => ⟨[(5, .int .i64 i), (4, .bool false), (3, .ptr (.l 1) 0 0), (2, .ptr (.l 0) 0 0)], [], [.row [.agg [.int .i64 k, .int .i64 lo, .int .i64 hi, .int .i64 m, .slc (es.map tyV)]] 5 74, .row [.agg [.int .i64 k, .int .i64 lo, .int .i64 hi, .int .i64 m, .slc (es.map tyV)]] 5 74], []⟩) (fun i => i ≤ es.length) (fun i => es.length - i) 0 [0, 1] (Nat.zero_le _) ?_ ?_
 ·refine ⟨by simp, by simp only [EV, EB, EL, ER, ET, and_self, true_and, and_true, Nat.reduceEqDiff, reduceCtorEq, reduceIte, TRN], by simp only [EV, EB, EL, ER, ET, and_self, true_and, and_true, Nat.reduceEqDiff, reduceCtorEq, reduceIte, TRN], by simp only [EV, EB, EL, ER, ET, and_self, true_and, and_true, Nat.reduceEqDiff, reduceCtorEq, reduceIte, TRN, pick], rfl⟩
 intro i hi
 refine WC.sK fun K3 hK3 => ?_
 refine WC.rs fun K hK => ?_
 simp (maxSteps := 1000000) only [↓EJ, EX, FA, simprocAttr, List.length_map]
 refine hK _ ?_; try clear hK K
 refine WC.trim [0, 1, 2, 3, 4, 5, 40, 45, 59] ?_
 simp only [ET, simprocAttr]
 refine WC.cond (c := .tmp 45) rfl (fun h => ?_) (fun h => ?_)
 ·have hlt : i < es.length := by simpa using h
  have hg : gi (es.map tyV) i = tyV es[i] := by simp [gi, hlt]
  refine WC.skip ?_
  try simp only [EQ, reduceIte, Nat.reduceEqDiff]
  refine hK3 _ ?_; try clear hK3 K3
  refine WC.bs fun K4 hK4 => ?_
  refine WC.ds [⟨0, 0, false, []⟩, ⟨1, 0, false, []⟩, ⟨2, 0, false, []⟩, ⟨3, 0, false, []⟩, ⟨4, 0, false, []⟩, ⟨5, 0, false, []⟩, ⟨6, 0, false, []⟩, ⟨7, 0, false, []⟩, ⟨8, 0, false, []⟩, ⟨9, 0, false, []⟩, ⟨10, 1, false, []⟩, ⟨11, 0, false, []⟩] [0, 1, 0, 7, 15, 0, 32, 0, 224, 480, 1023, 2047] mo (by kernel_rfl) (by simp only [EPl, List.getElem?_cons_zero, List.getElem?_cons_succ]; rfl) fun K hK => ?_
  simp (maxSteps := 1000000) only [↓EJ, EX, FA, simprocAttr, hg, List.length_map, Int.toNat_natCast, TS]
  repeat refine And.intro (by omega) ?_
  refine CallX.mk (CallW.pure (H es[i] (List.getElem_mem hlt)) (by simp only [CL, PCL, TCL, DCL, FCL, RCL, MCL, BCL, GCL, and_self]) (by simp only [CL]) ?_)
  simp (maxSteps := 1000000) only [↓EJ, EX, FA, simprocAttr, hg, List.length_map, Int.toNat_natCast, TS]
  repeat refine And.intro (by omega) ?_
  refine hK _ ?_; try clear hK K
  refine WC.trim [0, 1, 2, 3, 4, 5, 40, 45, 59] ?_
  simp only [ET, simprocAttr]
  refine WC.cond (c := .tmp 59) rfl (fun h => ?_) (fun h => ?_)
  ·simp at h
  refine WC.skip ?_
  try simp only [EQ, reduceIte, Nat.reduceEqDiff]
  refine hK4 _ ?_; try clear hK4 K4
  refine WC.r1 ?_
  simp (maxSteps := 1000000) (disch := omega) only [↓EJ, EX, FA, simprocAttr, w64, wu64]
  try simp only [EQ, reduceIte, Nat.reduceEqDiff]
  refine ⟨i + 1, [0, 1], hlt, by omega, ?_⟩
  refine ⟨by simp, by simp only [EV, EB, EL, ER, ET, and_self, true_and, and_true, Nat.reduceEqDiff, reduceCtorEq, reduceIte, Int.natCast_add, TRN], by simp only [EV, EB, EL, ER, ET, and_self, true_and, and_true, Nat.reduceEqDiff, reduceCtorEq, reduceIte, Int.natCast_add, TRN], by simp only [EV, EB, EL, ER, ET, and_self, true_and, and_true, Nat.reduceEqDiff, reduceCtorEq, reduceIte, Int.natCast_add, TRN, pick], rfl⟩
 ·skip
  refine WC.exit ?_
  simp only [EQ, reduceIte, Nat.reduceEqDiff]
  try simp only [EQ, reduceIte, Nat.reduceEqDiff]
  refine hK2 _ ?_; try clear hK2 K2
  refine WC.rs fun K hK => ?_
  simp (maxSteps := 1000000) only [↓EJ, EX, FA, simprocAttr]
  refine hK _ ?_; try clear hK K
  refine WC.trim [0, 1, 2, 3, 4, 5, 40, 45, 59] ?_
  simp only [ET, simprocAttr]
  refine WC.ret ?_
  simp (maxSteps := 1000000) only [↓EJ, EX, FA, simprocAttr, EQ, FnQ, Tryd.results37, wResL, tup, List.reverse_cons, List.reverse_nil, true_and]
  exact endsPure' (by simp only [CL]) rfl
mutual
theorem sameTy : ∀ e : Ty, tyOk e = true → Tru 37 (tyV e)
 | .mk k lo hi m es, h => by
   simp only [tyOk, Bool.and_eq_true, decide_eq_true_eq] at h
   rw [tyV_mk]
   cases es with
   | nil => rw [tysV_nil]; exact sameTy_nil k lo hi m
   | cons e es => rw [tysV_ne (by simp)]; exact sameTy_cons k lo hi m (e :: es) h.1 (sameTyM (e :: es) h.2)
theorem sameTyM : ∀ l : List Ty, tysOk l = true → ∀ e ∈ l, Tru 37 (tyV e)
 | [], _, e, he => by cases he
 | x :: l, h, e, he => by
   simp only [tysOk, Bool.and_eq_true] at h
   rcases List.mem_cons.1 he with h' | he
   ·rw [h']; exact sameTy x h.1
   ·exact sameTyM l h.2 e he
end
/-! ### Declarations -/
def delOk (l : List De) : Bool := decide (l.length ≤ 10000) && l.all fun d => tyOk d.ty
theorem sameDes (l : List De) (hl : l.length ≤ 10000) (H : ∀ d ∈ l, Tru 37 (tyV d.ty)) : Tru 27 (.slc (l.map deV)) := by
 unfold Tru
 refine FSem.enter' (C := C) (n := 42) Tryd.func27 rfl rfl ok_27 (by simp) ?_
 simp only [argEnv]
 refine WC.rs fun K hK => ?_
 simp (maxSteps := 1000000) only [↓EJ, EX, FA, simprocAttr]
 refine hK _ ?_; try clear hK K
 refine WC.trim [0, 1, 4, 5, 10, 14, 41] ?_
 simp only [ET, simprocAttr]
 refine WC.sK fun K1 hK1 => ?_
 refine WC.rs fun K hK => ?_
 simp (maxSteps := 1000000) only [↓EJ, EX, FA, simprocAttr, List.length_map]
 refine hK _ ?_; try clear hK K
 refine WC.trim [0, 1, 4, 5, 10, 14, 41] ?_
 simp only [ET, simprocAttr]
 refine WC.cond (c := .tmp 10) rfl (fun h => ?_) (fun h => ?_)
 ·simp at h
 refine WC.skip ?_
 try simp only [EQ, reduceIte, Nat.reduceEqDiff]
 refine hK1 _ ?_; try clear hK1 K1
 refine WC.sK fun K2 hK2 => ?_
 refine WC.rs fun K hK => ?_
 simp (maxSteps := 1000000) only [↓EJ, EX, FA, simprocAttr]
 refine hK _ ?_; try clear hK K
 refine WC.trim [0, 1, 4, 5, 10, 14, 41] ?_
 simp only [ET, simprocAttr]
 refine WC.b1 ?_
 refine WC.loop (X := Nat) (fun i => ⟨[(5, .int .i64 i), (4, .bool false), (0, .slc (l.map deV)), (1, .slc (l.map deV))], [], [], []⟩) (fun i => i ≤ l.length) (fun i => l.length - i) 0 [] (Nat.zero_le _) ?_ ?_
 ·refine ⟨by simp, by simp only [EV, EB, EL, ER, ET, and_self, true_and, and_true, Nat.reduceEqDiff, reduceCtorEq, reduceIte, DRN], by simp only [EV, EB, EL, ER, ET, and_self, true_and, and_true, Nat.reduceEqDiff, reduceCtorEq, reduceIte, DRN], by simp only [EV, EB, EL, ER, ET, and_self, true_and, and_true, Nat.reduceEqDiff, reduceCtorEq, reduceIte, DRN, pick], rfl⟩
 intro i hi
 refine WC.sK fun K3 hK3 => ?_
 refine WC.rs fun K hK => ?_
 simp (maxSteps := 1000000) only [↓EJ, EX, FA, simprocAttr, List.length_map]
 refine hK _ ?_; try clear hK K
 refine WC.trim [0, 1, 4, 5, 10, 14, 41] ?_
 simp only [ET, simprocAttr]
 refine WC.cond (c := .tmp 14) rfl (fun h => ?_) (fun h => ?_)
 ·have hlt : i < l.length := by simpa using h
  have hg : gi (l.map deV) i = deV l[i] := by simp [gi, hlt]
  refine WC.skip ?_
  try simp only [EQ, reduceIte, Nat.reduceEqDiff]
  refine hK3 _ ?_; try clear hK3 K3
  refine WC.bs fun K4 hK4 => ?_
  refine WC.ds [⟨0, 0, false, []⟩, ⟨1, 0, false, []⟩, ⟨2, 0, false, []⟩, ⟨3, 0, false, []⟩, ⟨4, 0, false, []⟩, ⟨5, 0, false, []⟩, ⟨6, 0, false, []⟩, ⟨7, 0, false, []⟩, ⟨8, 0, false, []⟩, ⟨9, 0, false, []⟩, ⟨10, 0, false, []⟩, ⟨11, 0, false, []⟩, ⟨12, 0, false, []⟩, ⟨13, 0, false, []⟩, ⟨14, 0, false, []⟩, ⟨15, 0, false, []⟩, ⟨16, 0, false, []⟩, ⟨17, 0, false, []⟩, ⟨18, 0, false, []⟩, ⟨19, 0, false, []⟩, ⟨20, 0, false, []⟩, ⟨21, 0, false, []⟩, ⟨22, 1, false, []⟩, ⟨23, 0, false, []⟩, ⟨24, 0, false, []⟩] [0, 0, 3, 7, 15, 0, 0, 96, 224, 480, 1023, 2047, 4095, 4095, 16383, 32767, 65535, 4095, 4095, 397311, 921599, 1970175, 4194303, 8388607, 16777215] mo (by kernel_rfl) (by simp only [EPl, List.getElem?_cons_zero, List.getElem?_cons_succ]; rfl) fun K hK => ?_
  simp (maxSteps := 1000000) only [↓EJ, EX, FA, simprocAttr, EDg, hg, List.length_map, Int.toNat_natCast, DS, deC, TS, Bool.not_true, Bool.not_false]
  repeat refine And.intro (by omega) ?_
  refine CallX.mk (CallW.pure (H l[i] (List.getElem_mem hlt)) (by simp only [CL, PCL, TCL, DCL, FCL, RCL, MCL, BCL, GCL, and_self]) (by simp only [CL]) ?_)
  simp (maxSteps := 1000000) only [↓EJ, EX, FA, simprocAttr, DS, deC, TS, hg]
  repeat refine And.intro (by omega) ?_
  refine hK _ ?_; try clear hK K
  refine WC.trim [0, 1, 4, 5, 10, 14, 41] ?_
  simp only [ET, simprocAttr]
  refine WC.cond (c := .tmp 41) rfl (fun h => ?_) (fun h => ?_)
  ·simp at h
  refine WC.skip ?_
  try simp only [EQ, reduceIte, Nat.reduceEqDiff]
  refine hK4 _ ?_; try clear hK4 K4
  refine WC.r1 ?_
  simp (maxSteps := 1000000) (disch := omega) only [↓EJ, EX, FA, simprocAttr, w64, wu64]
  try simp only [EQ, reduceIte, Nat.reduceEqDiff]
  refine ⟨i + 1, [], hlt, by omega, ?_⟩
  refine ⟨by simp, by simp only [EV, EB, EL, ER, ET, and_self, true_and, and_true, Nat.reduceEqDiff, reduceCtorEq, reduceIte, Int.natCast_add, DRN], by simp only [EV, EB, EL, ER, ET, and_self, true_and, and_true, Nat.reduceEqDiff, reduceCtorEq, reduceIte, Int.natCast_add, DRN], by simp only [EV, EB, EL, ER, ET, and_self, true_and, and_true, Nat.reduceEqDiff, reduceCtorEq, reduceIte, Int.natCast_add, DRN, pick], rfl⟩
 ·have he : i = l.length := by simp at h; omega
  refine WC.exit ?_
  simp only [EQ, reduceIte, Nat.reduceEqDiff]
  try simp only [EQ, reduceIte, Nat.reduceEqDiff]
  refine hK2 _ ?_; try clear hK2 K2
  refine WC.rs fun K hK => ?_
  simp (maxSteps := 1000000) only [↓EJ, EX, FA, simprocAttr]
  refine hK _ ?_; try clear hK K
  refine WC.trim [0, 1, 4, 5, 10, 14, 41] ?_
  simp only [ET, simprocAttr]
  refine WC.ret ?_
  simp (maxSteps := 1000000) only [↓EJ, EX, FA, simprocAttr, EQ, FnQ, Tryd.results27, wResL, tup, List.reverse_cons, List.reverse_nil, true_and]
  exact endsPure (of_eq_true (by simp only [CL])) rfl
theorem sameDel (l : List De) (h : delOk l = true) : Tru 27 (desV l) := by
 simp only [delOk, Bool.and_eq_true, decide_eq_true_eq, List.all_eq_true] at h
 have H : ∀ d ∈ l, Tru 37 (tyV d.ty) := fun d hd => sameTy d.ty (h.2 d hd)
 cases l with
 | nil => rw [desV_nil]; exact Tru.nils (sameDes [] h.1 H)
 | cons e es => rw [desV_ne (by simp)]; exact sameDes _ h.1 H
end Go.LexSem
-- CLOSERS: PCL, TCL, DCL, FCL, RCL, MCL, BCL, GCL
set_option maxHeartbeats 32000000
set_option maxRecDepth 8000
namespace Go.LexSem
open Go Go.V Go.Proofs Go.Num

/-! ### Statements -/
def SmTru (x : Sm) : Prop := match x with
 | .mk _ _ _ _ e al d th el => Tru 38 (exV e) ∧ Tru 39 (exsV al) ∧ Tru 40 (drV d) ∧ Tru 28 (smsV th) ∧ Tru 28 (smsV el)
theorem smV_mk (k : Nat) (nm fn : List UInt8) (i : Int) (op : Nat) (j : Int) (r : Rt) (en : List UInt8) (ea al : List Ex) (d : Dr) (th el : List Sm) : smV (.mk k nm fn i (.mk op j r en ea) al d th el) =
 .agg [.int .i64 k, .str nm, .str fn, .int .i64 i, .int .i64 op, .int .i64 j, .bool r.1, numV r.2.1, numV r.2.2, .str en, exsV ea, exsV al, .int .i64 d.kind, .int .i64 d.low, .int .i64 d.high, .bool d.from_.1, numV d.from_.2.1, numV d.from_.2.2, .bool d.to_.1, numV d.to_.2.1, numV d.to_.2.2, exsV d.probs, .str d.name, smsV th, smsV el] := by
 simp [smV, smC, exC, drC]
theorem sameSms (l : List Sm) (hl : l.length ≤ 10000) (H : ∀ x ∈ l, SmTru x) : Tru 28 (.slc (l.map smV)) := by
 unfold Tru
 refine FSem.enter' (C := C) (n := 93) Tryd.func28 rfl rfl ok_28 (by simp) ?_
 simp only [argEnv]
 refine WC.rs fun K hK => ?_
 simp (maxSteps := 1000000) only [↓EJ, EX, FA, simprocAttr]
 refine hK _ ?_; try clear hK K
 refine WC.trim [0, 1, 4, 5, 6, 7, 12, 16, 92] ?_
 simp only [ET, simprocAttr]
 refine WC.sK fun K1 hK1 => ?_
 refine WC.rs fun K hK => ?_
 simp (maxSteps := 1000000) only [↓EJ, EX, FA, simprocAttr, List.length_map]
 refine hK _ ?_; try clear hK K
 refine WC.trim [0, 1, 4, 5, 6, 7, 12, 16, 92] ?_
 simp only [ET, simprocAttr]
 refine WC.cond (c := .tmp 12) rfl (fun h => ?_) (fun h => ?_)
 ·simp at h
 refine WC.skip ?_
 try simp only [EQ, reduceIte, Nat.reduceEqDiff]
 refine hK1 _ ?_; try clear hK1 K1
 refine WC.sK fun K2 hK2 => ?_
 refine WC.rs fun K hK => ?_
 simp (maxSteps := 1000000) only [↓EJ, EX, FA, simprocAttr]
 refine hK _ ?_; try clear hK K
 refine WC.trim [0, 1, 4, 5, 6, 7, 12, 16, 92] ?_
 simp only [ET, simprocAttr]
 refine WC.b1 ?_
 refine WC.loop (X := Nat) (fun i => ⟨[(5, .int .i64 i), (4, .bool false), (0, .slc (l.map smV)), (1, .slc (l.map smV))], [], [], []⟩) (fun i => i ≤ l.length) (fun i => l.length - i) 0 [] (Nat.zero_le _) ?_ ?_
 ·refine ⟨by simp, by simp only [EV, EB, EL, ER, ET, and_self, true_and, and_true, Nat.reduceEqDiff, reduceCtorEq, reduceIte, MRN], by simp only [EV, EB, EL, ER, ET, and_self, true_and, and_true, Nat.reduceEqDiff, reduceCtorEq, reduceIte, MRN], by simp only [EV, EB, EL, ER, ET, and_self, true_and, and_true, Nat.reduceEqDiff, reduceCtorEq, reduceIte, MRN, pick], rfl⟩
 intro i hi
 refine WC.sK fun K3 hK3 => ?_
 refine WC.rs fun K hK => ?_
 simp (maxSteps := 1000000) only [↓EJ, EX, FA, simprocAttr, List.length_map]
 refine hK _ ?_; try clear hK K
 refine WC.trim [0, 1, 4, 5, 6, 7, 12, 16, 92] ?_
 simp only [ET, simprocAttr]
 refine WC.cond (c := .tmp 16) rfl (fun h => ?_) (fun h => ?_)
 ·have hlt : i < l.length := by simpa using h
  have hg : gi (l.map smV) i = smV l[i] := by simp [gi, hlt]
  have hH := H l[i] (List.getElem_mem hlt)
  generalize l[i] = x at hg hH
  obtain ⟨k, nm, fn, si, ⟨op, j, r, en, ea⟩, al, d, th, el⟩ := x
  rw [smV_mk] at hg
  unfold SmTru at hH
  dsimp only at hH
  obtain ⟨H1, H2, H3, H4, H5⟩ := hH
  rw [exV_mk] at H1
  unfold drV drC at H3
  refine WC.skip ?_
  try simp only [EQ, reduceIte, Nat.reduceEqDiff]
  refine hK3 _ ?_; try clear hK3 K3
  refine WC.bs fun K4 hK4 => ?_
  refine WC.ts [(0, 0), (1, 0), (2, 0), (3, 0), (4, 0), (5, 0), (6, 0), (7, 0), (8, 1), (9, 1), (10, 1), (11, 1)] (.st ⟨0, 0, true, []⟩ (.st ⟨1, 0, true, []⟩ (.st ⟨2, 0, true, []⟩ (.st ⟨3, 0, true, []⟩ (.st ⟨4, 0, true, []⟩ (.st ⟨5, 0, true, []⟩ (.st ⟨6, 0, true, []⟩ (.st ⟨7, 0, true, []⟩ (.two ⟨8, 1, false, [0, 1, 2, 3, 4, 5, 6, 7]⟩ (.leaf [⟨9, 1, false, [0, 1, 2, 3, 4, 5, 6, 7]⟩, ⟨10, 1, false, [4, 5, 6, 7]⟩, ⟨11, 1, false, []⟩]) ⟨9, 1, false, [0, 1, 2, 3, 4, 5, 6, 7]⟩ (.leaf [⟨8, 1, false, [0, 1, 2, 3, 4, 5, 6, 7]⟩, ⟨10, 1, false, [4, 5, 6, 7]⟩, ⟨11, 1, false, []⟩])))))))))) [0, 0, 3, 7, 0, 0, 48, 112, 0, 0, 783, 2047] mo (by kernel_rfl) (by simp only [EPt, EPl, List.getElem?_cons_zero, List.getElem?_cons_succ]; rfl) fun K hK => ?_
  simp (maxSteps := 1000000) only [↓EJ, EX, FA, simprocAttr, EDt, hg, List.length_map, Int.toNat_natCast, numV_sc, exsV_sc, MS]
  repeat refine And.intro (by omega) ?_
  refine ⟨?_, ?_⟩
  ·skip
   repeat refine And.intro (by omega) ?_
   refine hK _ ?_; try clear hK K
   refine WC.trim [0, 1, 4, 5, 6, 7, 12, 16, 92] ?_
   simp only [ET, simprocAttr]
   refine WC.rsE (by simp only [List.append_eq, List.cons_append, List.nil_append]; rfl) fun K hK => ?_
   simp (maxSteps := 1000000) only [↓EJ, EX, FA, simprocAttr, numV_sc, exsV_sc, MS, Bool.not_true, Bool.not_false]
   refine CallX.mk (CallW.pure (H1) (by simp only [CL, PCL, TCL, DCL, FCL, RCL, MCL, BCL, GCL, and_self]) (by simp only [CL]) ?_)
   simp (maxSteps := 1000000) only [↓EJ, EX, FA, simprocAttr, numV_sc, exsV_sc, MS, Bool.not_true, Bool.not_false]
   refine CallX.mk (CallW.pure (H2) (by simp only [CL, PCL, TCL, DCL, FCL, RCL, MCL, BCL, GCL, and_self]) (by simp only [CL]) ?_)
   simp (maxSteps := 1000000) only [↓EJ, EX, FA, simprocAttr, numV_sc, exsV_sc, MS, Bool.not_true, Bool.not_false]
   refine CallX.mk (CallW.pure (H3) (by simp only [CL, PCL, TCL, DCL, FCL, RCL, MCL, BCL, GCL, and_self]) (by simp only [CL]) ?_)
   simp (maxSteps := 1000000) only [↓EJ, EX, FA, simprocAttr, numV_sc, exsV_sc, MS, Bool.not_true, Bool.not_false]
   refine CallX.mk (CallW.pure (H4) (by simp only [CL, PCL, TCL, DCL, FCL, RCL, MCL, BCL, GCL, and_self]) (by simp only [CL]) ?_)
   simp (maxSteps := 1000000) only [↓EJ, EX, FA, simprocAttr, numV_sc, exsV_sc, MS, Bool.not_true, Bool.not_false]
   refine CallX.mk (CallW.pure (H5) (by simp only [CL, PCL, TCL, DCL, FCL, RCL, MCL, BCL, GCL, and_self]) (by simp only [CL]) ?_)
   simp (maxSteps := 1000000) only [↓EJ, EX, FA, simprocAttr, numV_sc, exsV_sc, MS, Bool.not_true, Bool.not_false]
   refine hK _ ?_; try clear hK K
   refine WC.trim [0, 1, 4, 5, 6, 7, 12, 16, 92] ?_
   simp only [ET, simprocAttr]
   refine WC.cond (c := .tmp 92) rfl (fun h => ?_) (fun h => ?_)
   ·simp at h
   refine WC.skip ?_
   try simp only [EQ, reduceIte, Nat.reduceEqDiff]
   refine hK4 _ ?_; try clear hK4 K4
   refine WC.r1 ?_
   simp (maxSteps := 1000000) (disch := omega) only [↓EJ, EX, FA, simprocAttr, w64, wu64]
   try simp only [EQ, reduceIte, Nat.reduceEqDiff]
   refine ⟨i + 1, [], hlt, by omega, ?_⟩
   refine ⟨by simp, by simp only [EV, EB, EL, ER, ET, and_self, true_and, and_true, Nat.reduceEqDiff, reduceCtorEq, reduceIte, Int.natCast_add, MRN], by simp only [EV, EB, EL, ER, ET, and_self, true_and, and_true, Nat.reduceEqDiff, reduceCtorEq, reduceIte, Int.natCast_add, MRN], by simp only [EV, EB, EL, ER, ET, and_self, true_and, and_true, Nat.reduceEqDiff, reduceCtorEq, reduceIte, Int.natCast_add, MRN, pick], rfl⟩
  ·skip
   repeat refine And.intro (by omega) ?_
   refine hK _ ?_; try clear hK K
   refine WC.trim [0, 1, 4, 5, 6, 7, 12, 16, 92] ?_
   simp only [ET, simprocAttr]
   refine WC.rsE (by simp only [List.append_eq, List.cons_append, List.nil_append]; rfl) fun K hK => ?_
   simp (maxSteps := 1000000) only [↓EJ, EX, FA, simprocAttr, numV_sc, exsV_sc, MS, Bool.not_true, Bool.not_false]
   refine CallX.mk (CallW.pure (H1) (by simp only [CL, PCL, TCL, DCL, FCL, RCL, MCL, BCL, GCL, and_self]) (by simp only [CL]) ?_)
   simp (maxSteps := 1000000) only [↓EJ, EX, FA, simprocAttr, numV_sc, exsV_sc, MS, Bool.not_true, Bool.not_false]
   refine CallX.mk (CallW.pure (H2) (by simp only [CL, PCL, TCL, DCL, FCL, RCL, MCL, BCL, GCL, and_self]) (by simp only [CL]) ?_)
   simp (maxSteps := 1000000) only [↓EJ, EX, FA, simprocAttr, numV_sc, exsV_sc, MS, Bool.not_true, Bool.not_false]
   refine CallX.mk (CallW.pure (H3) (by simp only [CL, PCL, TCL, DCL, FCL, RCL, MCL, BCL, GCL, and_self]) (by simp only [CL]) ?_)
   simp (maxSteps := 1000000) only [↓EJ, EX, FA, simprocAttr, numV_sc, exsV_sc, MS, Bool.not_true, Bool.not_false]
   refine CallX.mk (CallW.pure (H4) (by simp only [CL, PCL, TCL, DCL, FCL, RCL, MCL, BCL, GCL, and_self]) (by simp only [CL]) ?_)
   simp (maxSteps := 1000000) only [↓EJ, EX, FA, simprocAttr, numV_sc, exsV_sc, MS, Bool.not_true, Bool.not_false]
   refine CallX.mk (CallW.pure (H5) (by simp only [CL, PCL, TCL, DCL, FCL, RCL, MCL, BCL, GCL, and_self]) (by simp only [CL]) ?_)
   simp (maxSteps := 1000000) only [↓EJ, EX, FA, simprocAttr, numV_sc, exsV_sc, MS, Bool.not_true, Bool.not_false]
   refine hK _ ?_; try clear hK K
   refine WC.trim [0, 1, 4, 5, 6, 7, 12, 16, 92] ?_
   simp only [ET, simprocAttr]
   refine WC.cond (c := .tmp 92) rfl (fun h => ?_) (fun h => ?_)
   ·simp at h
   refine WC.skip ?_
   try simp only [EQ, reduceIte, Nat.reduceEqDiff]
   refine hK4 _ ?_; try clear hK4 K4
   refine WC.r1 ?_
   simp (maxSteps := 1000000) (disch := omega) only [↓EJ, EX, FA, simprocAttr, w64, wu64]
   try simp only [EQ, reduceIte, Nat.reduceEqDiff]
   refine ⟨i + 1, [], hlt, by omega, ?_⟩
   refine ⟨by simp, by simp only [EV, EB, EL, ER, ET, and_self, true_and, and_true, Nat.reduceEqDiff, reduceCtorEq, reduceIte, Int.natCast_add, MRN], by simp only [EV, EB, EL, ER, ET, and_self, true_and, and_true, Nat.reduceEqDiff, reduceCtorEq, reduceIte, Int.natCast_add, MRN], by simp only [EV, EB, EL, ER, ET, and_self, true_and, and_true, Nat.reduceEqDiff, reduceCtorEq, reduceIte, Int.natCast_add, MRN, pick], rfl⟩
 ·skip
  refine WC.exit ?_
  simp only [EQ, reduceIte, Nat.reduceEqDiff]
  try simp only [EQ, reduceIte, Nat.reduceEqDiff]
  refine hK2 _ ?_; try clear hK2 K2
  refine WC.rs fun K hK => ?_
  simp (maxSteps := 1000000) only [↓EJ, EX, FA, simprocAttr]
  refine hK _ ?_; try clear hK K
  refine WC.trim [0, 1, 4, 5, 6, 7, 12, 16, 92] ?_
  simp only [ET, simprocAttr]
  refine WC.ret ?_
  simp (maxSteps := 1000000) only [↓EJ, EX, FA, simprocAttr, EQ, FnQ, Tryd.results28, wResL, tup, List.reverse_cons, List.reverse_nil, true_and]
  exact endsPure' (by simp only [CL]) rfl
mutual
def smOk : Sm → Bool
 | .mk _ _ _ _ e al d th el => exOk e && (exlOk al && (drOk d && ((decide (th.length ≤ 10000) && smsOk th) && (decide (el.length ≤ 10000) && smsOk el))))
def smsOk : List Sm → Bool
 | [] => true
 | e :: es => smOk e && smsOk es
end
theorem sameSms' (l : List Sm) (hl : l.length ≤ 10000) (H : ∀ x ∈ l, SmTru x) : Tru 28 (smsV l) := by
 cases l with
 | nil => rw [smsV_nil]; exact Tru.nils (sameSms [] hl H)
 | cons e es => rw [smsV_ne (by simp)]; exact sameSms _ hl H
mutual
theorem sameSm : ∀ e : Sm, smOk e = true → SmTru e
 | .mk k nm fn i e al d th el, h => by
   simp only [smOk, Bool.and_eq_true, decide_eq_true_eq] at h
   exact ⟨sameEx e h.1, sameExl al h.2.1, sameDr d h.2.2.1, sameSms' th h.2.2.2.1.1 (sameSmM th h.2.2.2.1.2), sameSms' el h.2.2.2.2.1 (sameSmM el h.2.2.2.2.2)⟩
theorem sameSmM : ∀ l : List Sm, smsOk l = true → ∀ e ∈ l, SmTru e
 | [], _, e, he => by cases he
 | x :: l, h, e, he => by
   simp only [smsOk, Bool.and_eq_true] at h
   rcases List.mem_cons.1 he with h' | he
   ·rw [h']; exact sameSm x h.1
   ·exact sameSmM l h.2 e he
end
def smlOk (l : List Sm) : Bool := decide (l.length ≤ 10000) && smsOk l
theorem sameSml (l : List Sm) (h : smlOk l = true) : Tru 28 (smsV l) := by
 simp only [smlOk, Bool.and_eq_true, decide_eq_true_eq] at h
 exact sameSms' l h.1 (sameSmM l h.2)
/-! ### Functions, programs -/
def fnOk (f : Fn) : Bool := delOk f.args && (delOk f.vars && smlOk f.body)
def fnlOk (l : List Fn) : Bool := decide (l.length ≤ 10000) && l.all fnOk
theorem sameFns (l : List Fn) (hl : l.length ≤ 10000) (H : ∀ f ∈ l, Tru 27 (desV f.args) ∧ Tru 27 (desV f.vars) ∧ Tru 28 (smsV f.body)) : Tru 26 (.slc (l.map fnV)) := by
 unfold Tru
 refine FSem.enter' (C := C) (n := 63) Tryd.func26 rfl rfl ok_26 (by simp) ?_
 simp only [argEnv]
 refine WC.rs fun K hK => ?_
 simp (maxSteps := 1000000) only [↓EJ, EX, FA, simprocAttr]
 refine hK _ ?_; try clear hK K
 refine WC.trim [0, 1, 4, 5, 6, 7, 12, 16, 62] ?_
 simp only [ET, simprocAttr]
 refine WC.sK fun K1 hK1 => ?_
 refine WC.rs fun K hK => ?_
 simp (maxSteps := 1000000) only [↓EJ, EX, FA, simprocAttr, List.length_map]
 refine hK _ ?_; try clear hK K
 refine WC.trim [0, 1, 4, 5, 6, 7, 12, 16, 62] ?_
 simp only [ET, simprocAttr]
 refine WC.cond (c := .tmp 12) rfl (fun h => ?_) (fun h => ?_)
 ·simp at h
 refine WC.skip ?_
 try simp only [EQ, reduceIte, Nat.reduceEqDiff]
 refine hK1 _ ?_; try clear hK1 K1
 refine WC.sK fun K2 hK2 => ?_
 refine WC.rs fun K hK => ?_
 simp (maxSteps := 1000000) only [↓EJ, EX, FA, simprocAttr]
 refine hK _ ?_; try clear hK K
 refine WC.trim [0, 1, 4, 5, 6, 7, 12, 16, 62] ?_
 simp only [ET, simprocAttr]
 refine WC.b1 ?_
 refine WC.loop (X := Nat) (fun i => ⟨[(5, .int .i64 i), (4, .bool false), (0, .slc (l.map fnV)), (1, .slc (l.map fnV))], [], [], []⟩) (fun i => i ≤ l.length) (fun i => l.length - i) 0 [] (Nat.zero_le _) ?_ ?_
 ·refine ⟨by simp, by simp only [EV, EB, EL, ER, ET, and_self, true_and, and_true, Nat.reduceEqDiff, reduceCtorEq, reduceIte, PGR], by simp only [EV, EB, EL, ER, ET, and_self, true_and, and_true, Nat.reduceEqDiff, reduceCtorEq, reduceIte, PGR], by simp only [EV, EB, EL, ER, ET, and_self, true_and, and_true, Nat.reduceEqDiff, reduceCtorEq, reduceIte, PGR, pick], rfl⟩
 intro i hi
 refine WC.sK fun K3 hK3 => ?_
 refine WC.rs fun K hK => ?_
 simp (maxSteps := 1000000) only [↓EJ, EX, FA, simprocAttr, List.length_map]
 refine hK _ ?_; try clear hK K
 refine WC.trim [0, 1, 4, 5, 6, 7, 12, 16, 62] ?_
 simp only [ET, simprocAttr]
 refine WC.cond (c := .tmp 16) rfl (fun h => ?_) (fun h => ?_)
 ·have hlt : i < l.length := by simpa using h
  have hg : gi (l.map fnV) i = fnV l[i] := by simp [gi, hlt]
  have hH := H l[i] (List.getElem_mem hlt)
  generalize l[i] = x at hg hH
  obtain ⟨H1, H2, H3⟩ := hH
  refine WC.skip ?_
  try simp only [EQ, reduceIte, Nat.reduceEqDiff]
  refine hK3 _ ?_; try clear hK3 K3
  refine WC.bs fun K4 hK4 => ?_
  refine WC.ts [(0, 0), (1, 0), (2, 0), (3, 0), (4, 0), (5, 0), (6, 0), (7, 0), (8, 1), (9, 1), (10, 1), (11, 1)] (.st ⟨0, 0, true, []⟩ (.st ⟨1, 0, true, []⟩ (.st ⟨2, 0, true, []⟩ (.st ⟨3, 0, true, []⟩ (.st ⟨4, 0, true, []⟩ (.st ⟨5, 0, true, []⟩ (.st ⟨6, 0, true, []⟩ (.st ⟨7, 0, true, []⟩ (.two ⟨8, 1, false, [0, 1, 2, 3, 4, 5, 6, 7]⟩ (.leaf [⟨9, 1, false, [0, 1, 2, 3, 4, 5, 6, 7]⟩, ⟨10, 1, false, [4, 5, 6, 7]⟩, ⟨11, 1, false, []⟩]) ⟨9, 1, false, [0, 1, 2, 3, 4, 5, 6, 7]⟩ (.leaf [⟨8, 1, false, [0, 1, 2, 3, 4, 5, 6, 7]⟩, ⟨10, 1, false, [4, 5, 6, 7]⟩, ⟨11, 1, false, []⟩])))))))))) [0, 0, 3, 7, 0, 0, 48, 112, 0, 0, 783, 2047] mo (by kernel_rfl) (by simp only [EPt, EPl, List.getElem?_cons_zero, List.getElem?_cons_succ]; rfl) fun K hK => ?_
  simp (maxSteps := 1000000) only [↓EJ, EX, FA, simprocAttr, EDt, hg, List.length_map, Int.toNat_natCast, desV_sc, PGS, MS]
  repeat refine And.intro (by omega) ?_
  refine ⟨?_, ?_⟩
  ·skip
   repeat refine And.intro (by omega) ?_
   refine hK _ ?_; try clear hK K
   refine WC.trim [0, 1, 4, 5, 6, 7, 12, 16, 62] ?_
   simp only [ET, simprocAttr]
   refine WC.rs fun K hK => ?_
   simp (maxSteps := 1000000) only [↓EJ, EX, FA, simprocAttr, desV_sc, PGS, MS, Bool.not_true, Bool.not_false]
   refine CallX.mk (CallW.pure (H1) (by simp only [CL, PCL, TCL, DCL, FCL, RCL, MCL, BCL, GCL, and_self]) (by simp only [CL]) ?_)
   simp (maxSteps := 1000000) only [↓EJ, EX, FA, simprocAttr, desV_sc, PGS, MS, Bool.not_true, Bool.not_false]
   refine CallX.mk (CallW.pure (H2) (by simp only [CL, PCL, TCL, DCL, FCL, RCL, MCL, BCL, GCL, and_self]) (by simp only [CL]) ?_)
   simp (maxSteps := 1000000) only [↓EJ, EX, FA, simprocAttr, desV_sc, PGS, MS, Bool.not_true, Bool.not_false]
   refine CallX.mk (CallW.pure (H3) (by simp only [CL, PCL, TCL, DCL, FCL, RCL, MCL, BCL, GCL, and_self]) (by simp only [CL]) ?_)
   simp (maxSteps := 1000000) only [↓EJ, EX, FA, simprocAttr, desV_sc, PGS, MS, Bool.not_true, Bool.not_false]
   refine hK _ ?_; try clear hK K
   refine WC.trim [0, 1, 4, 5, 6, 7, 12, 16, 62] ?_
   simp only [ET, simprocAttr]
   refine WC.cond (c := .tmp 62) rfl (fun h => ?_) (fun h => ?_)
   ·simp at h
   refine WC.skip ?_
   try simp only [EQ, reduceIte, Nat.reduceEqDiff]
   refine hK4 _ ?_; try clear hK4 K4
   refine WC.r1 ?_
   simp (maxSteps := 1000000) (disch := omega) only [↓EJ, EX, FA, simprocAttr, w64, wu64]
   try simp only [EQ, reduceIte, Nat.reduceEqDiff]
   refine ⟨i + 1, [], hlt, by omega, ?_⟩
   refine ⟨by simp, by simp only [EV, EB, EL, ER, ET, and_self, true_and, and_true, Nat.reduceEqDiff, reduceCtorEq, reduceIte, Int.natCast_add, PGR], by simp only [EV, EB, EL, ER, ET, and_self, true_and, and_true, Nat.reduceEqDiff, reduceCtorEq, reduceIte, Int.natCast_add, PGR], by simp only [EV, EB, EL, ER, ET, and_self, true_and, and_true, Nat.reduceEqDiff, reduceCtorEq, reduceIte, Int.natCast_add, PGR, pick], rfl⟩
  ·skip
   repeat refine And.intro (by omega) ?_
   refine hK _ ?_; try clear hK K
   refine WC.trim [0, 1, 4, 5, 6, 7, 12, 16, 62] ?_
   simp only [ET, simprocAttr]
   refine WC.rs fun K hK => ?_
   simp (maxSteps := 1000000) only [↓EJ, EX, FA, simprocAttr, desV_sc, PGS, MS, Bool.not_true, Bool.not_false]
   refine CallX.mk (CallW.pure (H1) (by simp only [CL, PCL, TCL, DCL, FCL, RCL, MCL, BCL, GCL, and_self]) (by simp only [CL]) ?_)
   simp (maxSteps := 1000000) only [↓EJ, EX, FA, simprocAttr, desV_sc, PGS, MS, Bool.not_true, Bool.not_false]
   refine CallX.mk (CallW.pure (H2) (by simp only [CL, PCL, TCL, DCL, FCL, RCL, MCL, BCL, GCL, and_self]) (by simp only [CL]) ?_)
   simp (maxSteps := 1000000) only [↓EJ, EX, FA, simprocAttr, desV_sc, PGS, MS, Bool.not_true, Bool.not_false]
   refine CallX.mk (CallW.pure (H3) (by simp only [CL, PCL, TCL, DCL, FCL, RCL, MCL, BCL, GCL, and_self]) (by simp only [CL]) ?_)
   simp (maxSteps := 1000000) only [↓EJ, EX, FA, simprocAttr, desV_sc, PGS, MS, Bool.not_true, Bool.not_false]
   refine hK _ ?_; try clear hK K
   refine WC.trim [0, 1, 4, 5, 6, 7, 12, 16, 62] ?_
   simp only [ET, simprocAttr]
   refine WC.cond (c := .tmp 62) rfl (fun h => ?_) (fun h => ?_)
   ·simp at h
   refine WC.skip ?_
   try simp only [EQ, reduceIte, Nat.reduceEqDiff]
   refine hK4 _ ?_; try clear hK4 K4
   refine WC.r1 ?_
   simp (maxSteps := 1000000) (disch := omega) only [↓EJ, EX, FA, simprocAttr, w64, wu64]
   try simp only [EQ, reduceIte, Nat.reduceEqDiff]
   refine ⟨i + 1, [], hlt, by omega, ?_⟩
   refine ⟨by simp, by simp only [EV, EB, EL, ER, ET, and_self, true_and, and_true, Nat.reduceEqDiff, reduceCtorEq, reduceIte, Int.natCast_add, PGR], by simp only [EV, EB, EL, ER, ET, and_self, true_and, and_true, Nat.reduceEqDiff, reduceCtorEq, reduceIte, Int.natCast_add, PGR], by simp only [EV, EB, EL, ER, ET, and_self, true_and, and_true, Nat.reduceEqDiff, reduceCtorEq, reduceIte, Int.natCast_add, PGR, pick], rfl⟩
 ·skip
  refine WC.exit ?_
  simp only [EQ, reduceIte, Nat.reduceEqDiff]
  try simp only [EQ, reduceIte, Nat.reduceEqDiff]
  refine hK2 _ ?_; try clear hK2 K2
  refine WC.rs fun K hK => ?_
  simp (maxSteps := 1000000) only [↓EJ, EX, FA, simprocAttr]
  refine hK _ ?_; try clear hK K
  refine WC.trim [0, 1, 4, 5, 6, 7, 12, 16, 62] ?_
  simp only [ET, simprocAttr]
  refine WC.ret ?_
  simp (maxSteps := 1000000) only [↓EJ, EX, FA, simprocAttr, EQ, FnQ, Tryd.results26, wResL, tup, List.reverse_cons, List.reverse_nil, true_and]
  exact endsPure' (by simp only [CL]) rfl
theorem sameFnl (l : List Fn) (h : fnlOk l = true) : Tru 26 (fnsV l) := by
 simp only [fnlOk, Bool.and_eq_true, decide_eq_true_eq, List.all_eq_true] at h
 have H : ∀ f ∈ l, Tru 27 (desV f.args) ∧ Tru 27 (desV f.vars) ∧ Tru 28 (smsV f.body) := fun f hf => by
  have := h.2 f hf
  simp only [fnOk, Bool.and_eq_true] at this
  exact ⟨sameDel _ this.1, sameDel _ this.2.1, sameSml _ this.2.2⟩
 cases l with
 | nil => rw [fnsV_nil]; exact Tru.nils (sameFns [] h.1 H)
 | cons e es => rw [fnsV_ne (by simp)]; exact sameFns _ h.1 H
theorem PGC : (∀ l, (fnsV l).solid = true) ∧ (∀ l, (fnsV l).cells = [fnsV l]) ∧ (∀ l, (strsV l).solid = true) ∧ (∀ l, (strsV l).cells = [strsV l]) := by
 refine ⟨?_, ?_, ?_, ?_⟩ <;> intro l <;> first | (unfold fnsV; split <;> rfl) | (unfold strsV; split <;> rfl)
theorem samePg_nil (fs qs : List Fn) (vs : List De) (b : List Sm) (w : List UInt8) (h1 : Tru 26 (fnsV fs)) (h2 : Tru 26 (fnsV qs)) (h3 : Tru 27 (desV vs)) (h4 : Tru 28 (smsV b)) :
 Tru 11 (.agg [.nils, fnsV fs, fnsV qs, desV vs, smsV b, .str w]) := by
 unfold Tru
 refine FSem.enter' (C := C) (n := 64) Tryd.func11 rfl rfl ok_11 (by simp) ?_
 simp only [argEnv]
 refine WC.rs fun K hK => ?_
 simp (maxSteps := 1000000) only [↓EJ, EX, FA, simprocAttr, PGC, desV_sc, MS]
 refine hK _ ?_; try clear hK K
 refine WC.trim [0, 1, 2, 3, 4, 5, 12, 17, 30] ?_
 simp only [ET, simprocAttr]
 refine WC.sK fun K1 hK1 => ?_
 refine WC.rs fun K hK => ?_
 simp (maxSteps := 1000000) only [↓EJ, EX, FA, simprocAttr, List.length_map, Bool.not_true, Bool.not_false]
 refine hK _ ?_; try clear hK K
 refine WC.trim [0, 1, 2, 3, 4, 5, 12, 17, 30] ?_
 simp only [ET, simprocAttr]
 refine WC.cond (c := .tmp 12) rfl (fun h => ?_) (fun h => ?_)
 ·simp at h
 refine WC.skip ?_
 try simp only [EQ, reduceIte, Nat.reduceEqDiff]
 refine hK1 _ ?_; try clear hK1 K1
 refine WC.sK fun K2 hK2 => ?_
 refine WC.rs fun K hK => ?_
 simp (maxSteps := 1000000) only [↓EJ, EX, FA, simprocAttr]
 refine hK _ ?_; try clear hK K
 refine WC.trim [0, 1, 2, 3, 4, 5, 12, 17, 30] ?_
 simp only [ET, simprocAttr]
 refine WC.b1 ?_
 refine WC.loop (X := Nat) (fun i => ⟨[(5, .int .i64 i), (4, .bool false), (3, .ptr (.l 1) 0 0), (2, .ptr (.l 0) 0 0)], [], [.row [.agg [.nils, fnsV fs, fnsV qs, desV vs, smsV b, .str w]] 6 28, .row [.agg [.nils, fnsV fs, fnsV qs, desV vs, smsV b, .str w]] 6 28], []⟩) (fun i => i ≤ 0) (fun i => 0 - i) 0 [0, 1] (Nat.zero_le _) ?_ ?_
 ·refine ⟨by simp, by simp only [EV, EB, EL, ER, ET, and_self, true_and, and_true, Nat.reduceEqDiff, reduceCtorEq, reduceIte, PGR, MRN, des_ren, strs_ren], by simp only [EV, EB, EL, ER, ET, and_self, true_and, and_true, Nat.reduceEqDiff, reduceCtorEq, reduceIte, PGR, MRN, des_ren, strs_ren], by simp only [EV, EB, EL, ER, ET, and_self, true_and, and_true, Nat.reduceEqDiff, reduceCtorEq, reduceIte, PGR, MRN, des_ren, strs_ren, pick], rfl⟩
 intro i hi
 refine WC.sK fun K3 hK3 => ?_
 refine WC.rs fun K hK => ?_
 simp (maxSteps := 1000000) only [↓EJ, EX, FA, simprocAttr, List.length_map]
 refine hK _ ?_; try clear hK K
 refine WC.trim [0, 1, 2, 3, 4, 5, 12, 17, 30] ?_
 simp only [ET, simprocAttr]
 refine WC.cond (c := .tmp 17) rfl (fun h => ?_) (fun h => ?_)
 ·simp at h; omega
 ·skip
  refine WC.exit ?_
  simp only [EQ, reduceIte, Nat.reduceEqDiff]
  try simp only [EQ, reduceIte, Nat.reduceEqDiff]
  refine hK2 _ ?_; try clear hK2 K2
  refine WC.rs fun K hK => ?_
  simp (maxSteps := 1000000) only [↓EJ, EX, FA, simprocAttr, PGC, desV_sc, MS]
  refine CallX.mk (CallW.pure (h1) (by simp only [CL, PCL, TCL, DCL, FCL, RCL, MCL, BCL, GCL, and_self]) (by simp only [CL]) ?_)
  simp (maxSteps := 1000000) only [↓EJ, EX, FA, simprocAttr, PGC, desV_sc, MS]
  refine CallX.mk (CallW.pure (h2) (by simp only [CL, PCL, TCL, DCL, FCL, RCL, MCL, BCL, GCL, and_self]) (by simp only [CL]) ?_)
  simp (maxSteps := 1000000) only [↓EJ, EX, FA, simprocAttr, PGC, desV_sc, MS]
  refine CallX.mk (CallW.pure (h3) (by simp only [CL, PCL, TCL, DCL, FCL, RCL, MCL, BCL, GCL, and_self]) (by simp only [CL]) ?_)
  simp (maxSteps := 1000000) only [↓EJ, EX, FA, simprocAttr, PGC, desV_sc, MS]
  refine CallX.mk (CallW.pure (h4) (by simp only [CL, PCL, TCL, DCL, FCL, RCL, MCL, BCL, GCL, and_self]) (by simp only [CL]) ?_)
  simp (maxSteps := 1000000) only [↓EJ, EX, FA, simprocAttr, PGC, desV_sc, MS]
  refine hK _ ?_; try clear hK K
  refine WC.trim [0, 1, 2, 3, 4, 5, 12, 17, 30] ?_
  simp only [ET, simprocAttr]
  refine WC.ret ?_
  simp (maxSteps := 1000000) only [↓EJ, EX, FA, simprocAttr, EQ, FnQ, Tryd.results11, wResL, tup, List.reverse_cons, List.reverse_nil, true_and]
  exact endsPure' (by simp only [CL]) rfl
theorem samePg_cons (es : List (List UInt8)) (hl : es.length ≤ 10000) (fs qs : List Fn) (vs : List De) (b : List Sm) (w : List UInt8) (h1 : Tru 26 (fnsV fs)) (h2 : Tru 26 (fnsV qs)) (h3 : Tru 27 (desV vs)) (h4 : Tru 28 (smsV b)) :
 Tru 11 (.agg [.slc (es.map .str), fnsV fs, fnsV qs, desV vs, smsV b, .str w]) := by
 unfold Tru
 refine FSem.enter' (C := C) (n := 64) Tryd.func11 rfl rfl ok_11 (by simp) ?_
 simp only [argEnv]
 refine WC.rs fun K hK => ?_
 simp (maxSteps := 1000000) only [↓EJ, EX, FA, simprocAttr, PGC, desV_sc, MS]
 refine hK _ ?_; try clear hK K
 refine WC.trim [0, 1, 2, 3, 4, 5, 12, 17, 30] ?_
 simp only [ET, simprocAttr]
 refine WC.sK fun K1 hK1 => ?_
 refine WC.rs fun K hK => ?_
 simp (maxSteps := 1000000) only [↓EJ, EX, FA, simprocAttr, List.length_map, Bool.not_true, Bool.not_false]
 refine hK _ ?_; try clear hK K
 refine WC.trim [0, 1, 2, 3, 4, 5, 12, 17, 30] ?_
 simp only [ET, simprocAttr]
 refine WC.cond (c := .tmp 12) rfl (fun h => ?_) (fun h => ?_)
 ·simp at h
 refine WC.skip ?_
 try simp only [EQ, reduceIte, Nat.reduceEqDiff]
 refine hK1 _ ?_; try clear hK1 K1
 refine WC.sK fun K2 hK2 => ?_
 refine WC.rs fun K hK => ?_
 simp (maxSteps := 1000000) only [↓EJ, EX, FA, simprocAttr]
 refine hK _ ?_; try clear hK K
 refine WC.trim [0, 1, 2, 3, 4, 5, 12, 17, 30] ?_
 simp only [ET, simprocAttr]
 refine WC.b1 ?_
 refine WC.loop (X := Nat) (fun i => ⟨[(5, .int .i64 i), (4, .bool false), (3, .ptr (.l 1) 0 0), (2, .ptr (.l 0) 0 0)], [], [.row [.agg [.slc (es.map .str), fnsV fs, fnsV qs, desV vs, smsV b, .str w]] 6 28, .row [.agg [.slc (es.map .str), fnsV fs, fnsV qs, desV vs, smsV b, .str w]] 6 28], []⟩) (fun i => i ≤ es.length) (fun i => es.length - i) 0 [0, 1] (Nat.zero_le _) ?_ ?_
 ·refine ⟨by simp, by simp only [EV, EB, EL, ER, ET, and_self, true_and, and_true, Nat.reduceEqDiff, reduceCtorEq, reduceIte, PGR, MRN, des_ren, strs_ren], by simp only [EV, EB, EL, ER, ET, and_self, true_and, and_true, Nat.reduceEqDiff, reduceCtorEq, reduceIte, PGR, MRN, des_ren, strs_ren], by simp only [EV, EB, EL, ER, ET, and_self, true_and, and_true, Nat.reduceEqDiff, reduceCtorEq, reduceIte, PGR, MRN, des_ren, strs_ren, pick], rfl⟩
 intro i hi
 refine WC.sK fun K3 hK3 => ?_
 refine WC.rs fun K hK => ?_
 simp (maxSteps := 1000000) only [↓EJ, EX, FA, simprocAttr, List.length_map]
 refine hK _ ?_; try clear hK K
 refine WC.trim [0, 1, 2, 3, 4, 5, 12, 17, 30] ?_
 simp only [ET, simprocAttr]
 refine WC.cond (c := .tmp 17) rfl (fun h => ?_) (fun h => ?_)
 ·have hlt : i < es.length := by simpa using h
  have hg : gi (es.map PVal.str) i = .str es[i] := by simp [gi, hlt]
  refine WC.skip ?_
  try simp only [EQ, reduceIte, Nat.reduceEqDiff]
  refine hK3 _ ?_; try clear hK3 K3
  refine WC.bs fun K4 hK4 => ?_
  refine WC.ds [⟨0, 0, false, []⟩, ⟨1, 0, false, []⟩, ⟨2, 0, false, []⟩, ⟨3, 0, false, []⟩, ⟨4, 0, false, []⟩, ⟨5, 0, false, []⟩, ⟨6, 0, false, []⟩, ⟨7, 0, false, []⟩, ⟨8, 0, false, []⟩, ⟨9, 0, false, []⟩, ⟨10, 0, false, []⟩] [0, 1, 0, 7, 15, 0, 32, 0, 224, 480, 1023] mo (by kernel_rfl) (by simp only [EPl, List.getElem?_cons_zero, List.getElem?_cons_succ]; rfl) fun K hK => ?_
  simp (maxSteps := 1000000) only [↓EJ, EX, FA, simprocAttr, hg, List.length_map, Int.toNat_natCast]
  repeat refine And.intro (by omega) ?_
  refine hK _ ?_; try clear hK K
  refine WC.trim [0, 1, 2, 3, 4, 5, 12, 17, 30] ?_
  simp only [ET, simprocAttr]
  refine WC.cond (c := .tmp 30) rfl (fun h => ?_) (fun h => ?_)
  ·simp at h
  refine WC.skip ?_
  try simp only [EQ, reduceIte, Nat.reduceEqDiff]
  refine hK4 _ ?_; try clear hK4 K4
  refine WC.r1 ?_
  simp (maxSteps := 1000000) (disch := omega) only [↓EJ, EX, FA, simprocAttr, w64, wu64]
  try simp only [EQ, reduceIte, Nat.reduceEqDiff]
  refine ⟨i + 1, [0, 1], hlt, by omega, ?_⟩
  refine ⟨by simp, by simp only [EV, EB, EL, ER, ET, and_self, true_and, and_true, Nat.reduceEqDiff, reduceCtorEq, reduceIte, Int.natCast_add, PGR, MRN, des_ren, strs_ren], by simp only [EV, EB, EL, ER, ET, and_self, true_and, and_true, Nat.reduceEqDiff, reduceCtorEq, reduceIte, Int.natCast_add, PGR, MRN, des_ren, strs_ren], by simp only [EV, EB, EL, ER, ET, and_self, true_and, and_true, Nat.reduceEqDiff, reduceCtorEq, reduceIte, Int.natCast_add, PGR, MRN, des_ren, strs_ren, pick], rfl⟩
 ·skip
  refine WC.exit ?_
  simp only [EQ, reduceIte, Nat.reduceEqDiff]
  try simp only [EQ, reduceIte, Nat.reduceEqDiff]
  refine hK2 _ ?_; try clear hK2 K2
  refine WC.rs fun K hK => ?_
  simp (maxSteps := 1000000) only [↓EJ, EX, FA, simprocAttr, PGC, desV_sc, MS]
  refine CallX.mk (CallW.pure (h1) (by simp only [CL, PCL, TCL, DCL, FCL, RCL, MCL, BCL, GCL, and_self]) (by simp only [CL]) ?_)
  simp (maxSteps := 1000000) only [↓EJ, EX, FA, simprocAttr, PGC, desV_sc, MS]
  refine CallX.mk (CallW.pure (h2) (by simp only [CL, PCL, TCL, DCL, FCL, RCL, MCL, BCL, GCL, and_self]) (by simp only [CL]) ?_)
  simp (maxSteps := 1000000) only [↓EJ, EX, FA, simprocAttr, PGC, desV_sc, MS]
  refine CallX.mk (CallW.pure (h3) (by simp only [CL, PCL, TCL, DCL, FCL, RCL, MCL, BCL, GCL, and_self]) (by simp only [CL]) ?_)
  simp (maxSteps := 1000000) only [↓EJ, EX, FA, simprocAttr, PGC, desV_sc, MS]
  refine CallX.mk (CallW.pure (h4) (by simp only [CL, PCL, TCL, DCL, FCL, RCL, MCL, BCL, GCL, and_self]) (by simp only [CL]) ?_)
  simp (maxSteps := 1000000) only [↓EJ, EX, FA, simprocAttr, PGC, desV_sc, MS]
  refine hK _ ?_; try clear hK K
  refine WC.trim [0, 1, 2, 3, 4, 5, 12, 17, 30] ?_
  simp only [ET, simprocAttr]
  refine WC.ret ?_
  simp (maxSteps := 1000000) only [↓EJ, EX, FA, simprocAttr, EQ, FnQ, Tryd.results11, wResL, tup, List.reverse_cons, List.reverse_nil, true_and]
  exact endsPure' (by simp only [CL]) rfl
def pgOk (p : Pg) : Bool := decide (p.params.length ≤ 10000) && (fnlOk p.funcs && (fnlOk p.queries && (delOk p.vars && smlOk p.body)))
theorem samePg (p : Pg) (h : pgOk p = true) : Tru 11 (pgV p) := by
 simp only [pgOk, Bool.and_eq_true, decide_eq_true_eq] at h
 obtain ⟨ps, fs, qs, vs, b, w⟩ := p
 unfold pgV pgC
 cases ps with
 | nil => dsimp only; rw [strsV_nil]; exact samePg_nil fs qs vs b w (sameFnl _ h.2.1) (sameFnl _ h.2.2.1) (sameDel _ h.2.2.2.1) (sameSml _ h.2.2.2.2)
 | cons e es => dsimp only; rw [strsV_ne (by simp)]; exact samePg_cons (e :: es) h.1 fs qs vs b w (sameFnl _ h.2.1) (sameFnl _ h.2.2.1) (sameDel _ h.2.2.2.1) (sameSml _ h.2.2.2.2)
theorem sameProgram (p : Pg) (h : pgOk p = true) : Tru 7 (pgV p) := by
 have hs := samePg p h
 unfold pgV pgC at hs ⊢
 unfold Tru
 refine FSem.enter' (C := C) (n := 8) Tryd.func7 rfl rfl ok_7 (by simp) ?_
 simp only [argEnv]
 refine WC.rs fun K hK => ?_
 simp (maxSteps := 1000000) only [↓EJ, EX, FA, simprocAttr, PGC, desV_sc, MS]
 refine hK _ ?_; try clear hK K
 refine WC.trim [0, 1, 2, 3, 4] ?_
 simp only [ET, simprocAttr]
 refine WC.rs fun K hK => ?_
 simp (maxSteps := 1000000) only [↓EJ, EX, FA, simprocAttr, PGC, desV_sc, MS]
 refine CallX.mk (CallW.pure (hs) (by simp only [CL, PCL, TCL, DCL, FCL, RCL, MCL, BCL, GCL, and_self]) (by simp only [CL]) ?_)
 simp (maxSteps := 1000000) only [↓EJ, EX, FA, simprocAttr, PGC, desV_sc, MS]
 refine hK _ ?_; try clear hK K
 refine WC.trim [0, 1, 2, 3, 4] ?_
 simp only [ET, simprocAttr]
 refine WC.ret ?_
 simp (maxSteps := 1000000) only [↓EJ, EX, FA, simprocAttr, EQ, FnQ, Tryd.results7, wResL, tup, List.reverse_cons, List.reverse_nil, true_and]
 exact endsPure' (by simp only [CL]) rfl
end Go.LexSem
