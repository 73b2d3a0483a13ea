/-
  ParserPrecedence: for every input the law answers true, and its arguments read afterwards as before.
  Its conditions: the package-level variables that its row lists hold what the program's text lays (the card ties them). No other.
-/
import Derived.Test.YtenieameoojbjaaDoorMR
import Derived.Test.YtenieameoojbjaaDoorMU
import Derived.Test.YtenieameoojbjaaDoorCards
import Derived.Test.YtenieameoojbjaaDoorTie
set_option linter.unusedSimpArgs false
set_option linter.unusedVariables false
namespace Go.Proofs.YtenieameoojbjaaDoor
open Go Go.V Go.ChangeShapes Go.WideShapes Go.ChangeAt Go.RowKit Go.ChangeMaps

theorem own : ownKnob Tryd.prog.godebug = none := by kernel_rfl
theorem laidOut : laidOutB Tryd.prog = true := by kernel_rfl
theorem gTab : Tryd.prog.globalNamed "strings.asciiSpace" = some 0 := by kernel_rfl
theorem gTabType : (Tryd.prog.globals[0]?).map (·.type) = some 105 := by kernel_rfl
theorem cells5 : Tryd.prog.cellsOf 5 = 1 := by kernel_rfl
theorem cells3 : Tryd.prog.cellsOf 3 = 1 := by kernel_rfl
theorem cells105 : Tryd.prog.cellsOf 105 = 256 := by kernel_rfl

set_option maxRecDepth 100000 in
theorem table {W : World} (h : laidMetH Tryd.prog Rows.parserPrecedenceRow.laid W) : Lib.TabIs Tryd.prog W "strings.asciiSpace" .u8 Lib.asciiSpaceTab :=
  tabIs_of_second gTab gTabType Tryd.underlying105 Tryd.underlying5 cells5 cells105 h
theorem gLev : Tryd.prog.globalNamed "exactppl/parser.levels" = some 2 := by kernel_rfl
theorem gLevType : (Tryd.prog.globals[2]?).map (·.type) = some 128 := by kernel_rfl
theorem cells127 : Tryd.prog.cellsOf 127 = 1 := by kernel_rfl
def levelsK : List (List (List UInt8 × Int)) := [[([124, 124], 7)], [([38, 38], 6)], [([43], 12), ([45], 13)], [([42], 14)]]
theorem levels {W : World} (h : laidMetH Tryd.prog Rows.parserPrecedenceRow.laid W) : ∃ v, W.cell? ⟨2, 0, none⟩ = some v ∧ v.oneCell' = true ∧ Rep (topV W) LexSem.levelsV v :=
  maps_of_third levelsK gLev gLevType Tryd.underlying128 cells127 Tryd.underlying127 Tryd.underlying9 Tryd.underlying3 (by decide) (by decide) h
/-- What the listed variables hold, in the walk's words. -/
theorem tables {W : World} (h : laidMetH Tryd.prog Rows.parserPrecedenceRow.laid W) : (∀ g cs, LexSem.C.G g = some cs → ∀ (j : Nat) (c : PVal), cs[j]? = some c → ∃ v, W.cell? ⟨g, j, none⟩ = some v ∧ v.oneCell' = true ∧ Rep (topV W) c v) ∧ ∀ g cs, LexSem.C.G g = some cs → g < W.heap.size := by
  have hc : ∀ j, j < 256 → W.cell? ⟨0, j, none⟩ = some (.int .u8 (if Lib.isSp (UInt8.ofNat j) then 1 else 0)) := fun j hj => by
    rw [(table h).cell gTab j (by rw [Lib.asciiSpaceTab_length]; exact hj), Lib.asciiSpaceTab_at j hj]
  have hg : ∀ g cs, LexSem.C.G g = some cs → (g = 0 ∧ cs = asciiTab) ∨ (g = 2 ∧ cs = [LexSem.levelsV]) := fun g cs hg => by
    simp only [LexSem.C] at hg
    split at hg
    · cases hg; exact .inl ⟨by assumption, rfl⟩
    · split at hg
      · cases hg; exact .inr ⟨by assumption, rfl⟩
      · cases hg
  obtain ⟨lv, hl1, hl2, hl3⟩ := levels h
  refine ⟨fun g cs hgc j c hj => ?_, fun g cs hgc => ?_⟩
  · rcases hg g cs hgc with ⟨rfl, rfl⟩ | ⟨rfl, rfl⟩
    · simp only [asciiTab, List.getElem?_map, Option.map_eq_some_iff] at hj
      obtain ⟨k, hk, rfl⟩ := hj
      have hk' : j < 256 ∧ k = j := by
        have := List.getElem?_eq_some_iff.1 hk
        obtain ⟨h1, h2⟩ := this
        simp at h1 h2
        exact ⟨h1, h2.symm⟩
      obtain ⟨hj256, rfl⟩ := hk'
      exact ⟨_, hc _ hj256, rfl, .int⟩
    · cases j with
      | zero => simp at hj; subst hj; exact ⟨lv, hl1, hl2, hl3⟩
      | succ j => simp at hj
  · rcases hg g cs hgc with ⟨rfl, rfl⟩ | ⟨rfl, rfl⟩
    · exact World.block_lt_of_cell? _ _ (hc 0 (by decide))
    · exact World.block_lt_of_cell? _ _ hl1

/-- A world that fits: the settled one, the listed variables holding what their initialisers lay. -/
noncomputable def laidWorld (os : Os) : World :=
  let N := (World.settled Tryd.prog os).heap.size
  let w0 := World.holding Tryd.prog os ⟨#[.cells #[.int .u16 9, .int .u16 13, .int .u16 1, .int .u16 32, .int .u16 133, .int .u16 101, .int .u16 160, .int .u16 5760, .int .u16 5600, .int .u16 8192, .int .u16 8202, .int .u16 1, .int .u16 8232, .int .u16 8233, .int .u16 1, .int .u16 8239, .int .u16 8287, .int .u16 48, .int .u16 12288, .int .u16 12288, .int .u16 1] 138,
    .cells #[.slice (some ⟨N, 0, none⟩) 7 7, .slice none 0 0, .int .i64 2] 135,
    .cells #[.map (some (N + 3)), .map (some (N + 4)), .map (some (N + 5)), .map (some (N + 6))] 127,
    .map #[⟨.string ⟨#[124, 124]⟩, .int .i64 7, 0⟩] 1, .map #[⟨.string ⟨#[38, 38]⟩, .int .i64 6, 0⟩] 1, .map #[⟨.string ⟨#[43]⟩, .int .i64 12, 0⟩, ⟨.string ⟨#[45]⟩, .int .i64 13, 1⟩] 2, .map #[⟨.string ⟨#[42]⟩, .int .i64 14, 0⟩] 1], #[], []⟩
  let put (h : Array Obj) (g : Nat) (cs : Array Value) : Array Obj := h.modify g fun
    | .cells _ t frozen => .cells cs t frozen
    | o => o
  { w0 with heap := put (put (put w0.heap 0 (Lib.asciiSpaceTab.map fun z => Value.int .u8 z).toArray) 1 #[.pointer (some ⟨N + 1, 0, none⟩)]) 2 #[.slice (some ⟨N + 2, 0, none⟩) 4 4] }
theorem laid_met (os : Os) : laidMet Tryd.prog Rows.parserPrecedenceRow.laid ((laidWorld os).forCall (fun _ _ => 0) ⟨#[], #[.int .u8 0, .int .u8 0], []⟩).memory :=
  laidMet_of_run' 10 (by kernel_rfl) (by kernel_rfl)
theorem witness_row (os : Os) {H : Type} (enc : TypeId × Value → H) :
    (OpenSpec.ofChange Rows.parserPrecedenceSpec).preRow enc Tryd.prog Tryd.f3 Rows.parserPrecedenceRow.domain false Rows.parserPrecedenceRow.laid ((laidWorld os).forCall (fun _ _ => 0) ⟨#[], #[.int .u8 0, .int .u8 0], []⟩).memory #[.int .u8 0, .int .u8 0] := by
  have hw : (DataW.whole enc Tryd.prog ((laidWorld os).forCall (fun _ _ => 0) ⟨#[], #[.int .u8 0, .int .u8 0], []⟩).memory Tryd.f3.params.toList Rows.parserPrecedenceSpec.vars false (#[.int .u8 0, .int .u8 0] : Array Value).toList 8).map (fun x => (x.1, x.2.1)) =
      some ([.lit (.int .u8 0), .lit (.int .u8 0)], []) := by kernel_rfl
  obtain ⟨⟨x1, x2, x3⟩, hx, hx1⟩ := Option.map_eq_some_iff.1 hw
  simp only [Prod.mk.injEq] at hx1
  obtain ⟨rfl, rfl⟩ := hx1
  exact OpenSpec.preRow_of_cond 8 hx (by kernel_rfl) (fun k hk => by cases hk) (by kernel_rfl) (laid_met os)

set_option maxRecDepth 100000 in
/-- For every argument and every world that holds the tables. -/
theorem contract (H : Type) (enc : TypeId × Value → H) (W : World) (base : Nat) (args : Array Value) (ds gs : List (DataW H)) (before : List MemPlace)
    (hval : ∀ (j : Nat) t v, Tryd.f3.params[j]? = some t → args[j]? = some v → Value.okWide Tryd.prog W .any base t v)
    (hW : DataW.Whole enc Tryd.prog Tryd.f3.params.toList Rows.parserPrecedenceSpec.vars false W args.toList ds gs before) (hL : laidMetH Tryd.prog Rows.parserPrecedenceRow.laid W) :
    Calls Tryd.prog 3 args W fun e W' => ∃ v, e = .returned v ∧ Rows.parserPrecedenceSpec.post enc Tryd.prog Tryd.f3 false true false false W args v W' := by
  have hW' := hW
  obtain ⟨p, q, hA0, hV, rfl, _, _⟩ := hW
  have hA : DataW.TrodAll enc Tryd.prog W 0 (fun _ => true) true Tryd.f3.params.toList args.toList ds p := hA0
  rw [Tryd.params3] at hA hval
  obtain ⟨rfl, rfl⟩ := trodVars_none hV
  obtain ⟨v0, vs0, d0, ds0, p0, q0, hargs0, hds0, hps0, h0, r0⟩ := trodAll_cons hA
  obtain ⟨v1, vs1, d1, ds1, p1, q1, hargs1, hds1, hps1, h1, r1⟩ := trodAll_cons r0
  obtain ⟨rfl, rfl, rfl⟩ := trodAll_nil r1
  subst hargs1; subst hds1; subst hps1
  subst hds0; subst hps0
  obtain rfl : args = #[v0, v1] := by cases args; simp_all
  obtain ⟨n0, hn0, _, _, w0⟩ := open_int Tryd.underlying5 (hval 0 5 v0 rfl rfl) h0
  have g0 : Rep (topV W) (.int .u8 n0) v0 := by rw [hn0]; exact .int
  obtain ⟨n1, hn1, _, _, w1⟩ := open_int Tryd.underlying5 (hval 1 5 v1 rfl rfl) h1
  have g1 : Rep (topV W) (.int .u8 n1) v1 := by rw [hn1]; exact .int
  refine (FSem.topTrue (LexSem.parserPrecedence_sem n0 w0 n1 w1) (tables hL).1 (tables hL).2 (listRep_two g0 g1)).mono fun e W' ⟨he, hS⟩ => ?_
  exact ⟨_, he, law_post laidOut rfl (by rw [Tryd.params3]; intro t ht; simp at ht; rcases ht with rfl | rfl <;> exact ⟨by kernel_rfl, of_decide_eq_true (by kernel_rfl)⟩) rfl Tryd.underlying4 hW' rfl hS.below⟩

set_option maxRecDepth 100000 in
theorem lifted (os : Os) (started : os.Started) (H : Type) (enc : TypeId × Value → H) (F : Stop.Interp) :
    ReturnsInHanded {} Tryd.checked os 3 .any ((OpenSpec.ofChange Rows.parserPrecedenceSpec).preRow enc Tryd.prog Tryd.f3 Rows.parserPrecedenceRow.domain false Rows.parserPrecedenceRow.laid) (((OpenSpec.ofChange Rows.parserPrecedenceSpec).at F).post enc Tryd.prog Tryd.f3 false true false false) := by
  refine returnsInHanded_of_row (C := Tryd.checked) (s := OpenSpec.ofChange Rows.parserPrecedenceSpec) own started (by kernel_rfl) Tryd.func3
    (witness_row_atRef (enc := enc) (C := Tryd.checked) false (laidWorld os) #[.int .u8 0, .int .u8 0] rfl (by kernel_rfl) (by kernel_rfl) (by kernel_rfl) (witness_row os enc)) ?_
  intro W base args ds gs before hval hW _ _ _ hL _ _
  exact contract H enc W base args ds gs before hval hW hL

set_option maxRecDepth 100000 in
theorem said : Rows.ParserPrecedenceSaid :=
  OpenClaim.holds_of_cond 3 Tryd.f3 rfl rfl rfl rfl rfl rfl rfl ⟨rfl, rfl, rfl, rfl, rfl⟩ rfl rfl rfl rfl rfl (by kernel_rfl) Tryd.func3 (by kernel_rfl)
    (of_decide_eq_true (by kernel_rfl)) (by unfold Func.isWrapper; first | (rw [if_pos (by decide +kernel)]; kernel_rfl) | (rw [if_neg (by decide +kernel)]; exact ⟨rfl, rfl⟩))
    (fun os started H enc _ F => by rw [OpenClaim.pre_eq_preRow]; exact lifted os started H enc F)

theorem plain (f : FuncId) (fn : Func) (hf : Tryd.pinned.checked.prog.funcNamed "exactppl/exactppllaw09.ParserPrecedence" = some f) (hfn : Tryd.pinned.checked.prog.funcs[f]? = some fn) :
    true = Tryd.pinned.checked.prog.looks [] ∧ ∀ (j : Nat) t, fn.params[j]? = some t → Tryd.pinned.checked.prog.wantsStandIn t = false := by
  obtain rfl : f = 3 := Option.some.inj ((show Tryd.prog.funcNamed "exactppl/exactppllaw09.ParserPrecedence" = some 3 by kernel_rfl).symm.trans hf) |>.symm
  obtain rfl : fn = Tryd.f3 := (Option.some.inj (Tryd.func3.symm.trans hfn)).symm
  refine ⟨by kernel_rfl, fun j t ht => ?_⟩
  rw [Tryd.params3] at ht
  match j, ht with
  | 0, ht => cases ht; exact (show Tryd.prog.wantsStandIn 5 = false by kernel_rfl)
  | 1, ht => cases ht; exact (show Tryd.prog.wantsStandIn 5 = false by kernel_rfl)
  | j + 2, ht => simp at ht

/-- The card. -/
theorem parserPrecedence_card : Rows.ParserPrecedenceCardSaid :=
  Claim7.holds_tied_plain_at .later [] _ _ _ _ said (fun _ h => by cases h) (by kernel_rfl) (fun _ h => by cases h) parserPrecedence_row_tie rfl ⟨rfl, rfl⟩ (by kernel_rfl) rfl plain (by kernel_rfl)
end Go.Proofs.YtenieameoojbjaaDoor
