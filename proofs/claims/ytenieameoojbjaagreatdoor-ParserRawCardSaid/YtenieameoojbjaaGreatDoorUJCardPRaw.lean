/-
  ParserRaw: for every input the law answers true, and its arguments read afterwards as before.
  Its conditions: the package-level variables that its row lists hold what the program's text lays (the card ties them). No other.
-/
import Derived.Test.YtenieameoojbjaaGreatDoorURQ
import Derived.Test.YtenieameoojbjaaGreatDoorUMU
import Derived.Test.YtenieameoojbjaaGreatDoorCards
import Derived.Test.YtenieameoojbjaaGreatDoorTie
set_option linter.unusedSimpArgs false
set_option linter.unusedVariables false
namespace Go.Proofs.YtenieameoojbjaaGreatDoor
open Go Go.V Go.ChangeShapes Go.WideShapes Go.ChangeAt Go.RowKit Go.ChangeMaps

theorem own : ownKnob Tryz.prog.godebug = none := by kernel_rfl
theorem laidOut : laidOutB Tryz.prog = true := by kernel_rfl
theorem gTab : Tryz.prog.globalNamed "strings.asciiSpace" = some 0 := by kernel_rfl
theorem gTabType : (Tryz.prog.globals[0]?).map (·.type) = some 181 := by kernel_rfl
theorem cells5 : Tryz.prog.cellsOf 5 = 1 := by kernel_rfl
theorem cells3 : Tryz.prog.cellsOf 3 = 1 := by kernel_rfl
theorem cells181 : Tryz.prog.cellsOf 181 = 256 := by kernel_rfl

set_option maxRecDepth 100000 in
theorem table {W : World} (h : laidMetH Tryz.prog Rows.parserRawRow.laid W) : Lib.TabIs Tryz.prog W "strings.asciiSpace" .u8 Lib.asciiSpaceTab :=
  Pv gTab gTabType Tryz.underlying181 Tryz.underlying5 cells5 cells181 h
theorem gLev : Tryz.prog.globalNamed "exactppl/parser.levels" = some 2 := by kernel_rfl
theorem gLevType : (Tryz.prog.globals[2]?).map (·.type) = some 204 := by kernel_rfl
theorem cells203 : Tryz.prog.cellsOf 203 = 1 := by kernel_rfl
def levelsK : List (List (List UInt8 × Int)) := [[([124, 124], 7)], [([38, 38], 6)], [([43], 12), ([45], 13)], [([42], 14)]]
theorem levels {W : World} (h : laidMetH Tryz.prog Rows.parserRawRow.laid W) : ∃ v, W.cell? ⟨2, 0, none⟩ = some v ∧ v.oneCell' = true ∧ Rep (Kw W) LexSem.levelsV v :=
  Sn levelsK gLev gLevType Tryz.underlying204 cells203 Tryz.underlying203 Tryz.underlying9 Tryz.underlying3 (by decide) (by decide) h
/-- What the listed variables hold, in the walk's words. -/
theorem tables {W : World} (h : laidMetH Tryz.prog Rows.parserRawRow.laid W) : (∀ g cs, LexSem.C.G g = some cs → ∀ (j : Nat) (c : PVal), cs[j]? = some c → ∃ v, W.cell? ⟨g, j, none⟩ = some v ∧ v.oneCell' = true ∧ Rep (Kw W) c v) ∧ ∀ g cs, LexSem.C.G g = some cs → g < W.heap.size := by
  have hc : ∀ j, j < 256 → W.cell? ⟨0, j, none⟩ = some (.int .u8 (if Lib.isSp (UInt8.ofNat j) then 1 else 0)) := fun j hj => by
    rw [(table h).cell gTab j (by rw [Lib.asciiSpaceTab_length]; exact hj), Lib.asciiSpaceTab_at j hj]
  have hg : ∀ g cs, LexSem.C.G g = some cs → (g = 0 ∧ cs = Lq) ∨ (g = 2 ∧ cs = [LexSem.levelsV]) := fun g cs hg => by
    simp only [LexSem.C] at hg
    split at hg
    · cases hg; exact .inl ⟨by assumption, rfl⟩
    · split at hg
      · cases hg; exact .inr ⟨by assumption, rfl⟩
      · cases hg
  obtain ⟨lv, hl1, hl2, hl3⟩ := levels h
  refine ⟨fun g cs hgc j c hj => ?_, fun g cs hgc => ?_⟩
  · rcases hg g cs hgc with ⟨rfl, rfl⟩ | ⟨rfl, rfl⟩
    · simp only [Lq, List.getElem?_map, Option.map_eq_some_iff] at hj
      obtain ⟨k, hk, rfl⟩ := hj
      have hk' : j < 256 ∧ k = j := by
        have := List.getElem?_eq_some_iff.1 hk
        obtain ⟨h1, h2⟩ := this
        simp at h1 h2
        exact ⟨h1, h2.symm⟩
      obtain ⟨hj256, rfl⟩ := hk'
      exact ⟨_, hc _ hj256, rfl, .int⟩
    · cases j with
      | zero => simp at hj; subst hj; exact ⟨lv, hl1, hl2, hl3⟩
      | succ j => simp at hj
  · rcases hg g cs hgc with ⟨rfl, rfl⟩ | ⟨rfl, rfl⟩
    · exact World.block_lt_of_cell? _ _ (hc 0 (by decide))
    · exact World.block_lt_of_cell? _ _ hl1

/-- A world that fits: the settled one, the listed variables holding what their initialisers lay. -/
noncomputable def laidWorld (os : Os) : World :=
  let N := (World.settled Tryz.prog os).heap.size
  let w0 := World.holding Tryz.prog os ⟨#[.cells #[.int .u16 9, .int .u16 13, .int .u16 1, .int .u16 32, .int .u16 133, .int .u16 101, .int .u16 160, .int .u16 5760, .int .u16 5600, .int .u16 8192, .int .u16 8202, .int .u16 1, .int .u16 8232, .int .u16 8233, .int .u16 1, .int .u16 8239, .int .u16 8287, .int .u16 48, .int .u16 12288, .int .u16 12288, .int .u16 1] 216,
    .cells #[.slice (some ⟨N, 0, none⟩) 7 7, .slice none 0 0, .int .i64 2] 213,
    .cells #[.map (some (N + 3)), .map (some (N + 4)), .map (some (N + 5)), .map (some (N + 6))] 203,
    .map #[⟨.string ⟨#[124, 124]⟩, .int .i64 7, 0⟩] 1, .map #[⟨.string ⟨#[38, 38]⟩, .int .i64 6, 0⟩] 1, .map #[⟨.string ⟨#[43]⟩, .int .i64 12, 0⟩, ⟨.string ⟨#[45]⟩, .int .i64 13, 1⟩] 2, .map #[⟨.string ⟨#[42]⟩, .int .i64 14, 0⟩] 1], #[], []⟩
  let put (h : Array Obj) (g : Nat) (cs : Array Value) : Array Obj := h.modify g fun
    | .cells _ t frozen => .cells cs t frozen
    | o => o
  { w0 with heap := put (put (put w0.heap 0 (Lib.asciiSpaceTab.map fun z => Value.int .u8 z).toArray) 1 #[.pointer (some ⟨N + 1, 0, none⟩)]) 2 #[.slice (some ⟨N + 2, 0, none⟩) 4 4] }
theorem laid_met (os : Os) : laidMet Tryz.prog Rows.parserRawRow.laid ((laidWorld os).forCall (fun _ _ => 0) ⟨#[], #[.string ByteArray.empty], []⟩).memory :=
  laidMet_of_run' 10 (by kernel_rfl) (by kernel_rfl)
theorem witness_row (os : Os) {H : Type} (enc : TypeId × Value → H) :
    (OpenSpec.ofChange Rows.parserRawSpec).preRow enc Tryz.prog Tryz.f3 Rows.parserRawRow.domain false Rows.parserRawRow.laid ((laidWorld os).forCall (fun _ _ => 0) ⟨#[], #[.string ByteArray.empty], []⟩).memory #[.string ByteArray.empty] := by
  have hw : (DataW.whole enc Tryz.prog ((laidWorld os).forCall (fun _ _ => 0) ⟨#[], #[.string ByteArray.empty], []⟩).memory Tryz.f3.params.toList Rows.parserRawSpec.vars false (#[.string ByteArray.empty] : Array Value).toList 8).map (fun x => (x.1, x.2.1)) =
      some ([.lit (.string [])], []) := by kernel_rfl
  obtain ⟨⟨x1, x2, x3⟩, hx, hx1⟩ := Option.map_eq_some_iff.1 hw
  simp only [Prod.mk.injEq] at hx1
  obtain ⟨rfl, rfl⟩ := hx1
  exact OpenSpec.preRow_of_cond 8 hx (by kernel_rfl) (fun k hk => by cases hk) (by kernel_rfl) (laid_met os)

set_option maxRecDepth 100000 in
/-- For every argument and every world that holds the tables. -/
theorem contract (H : Type) (enc : TypeId × Value → H) (W : World) (base : Nat) (args : Array Value) (ds gs : List (DataW H)) (before : List MemPlace)
    (hval : ∀ (j : Nat) t v, Tryz.f3.params[j]? = some t → args[j]? = some v → Value.okWide Tryz.prog W .any base t v)
    (hW : DataW.Whole enc Tryz.prog Tryz.f3.params.toList Rows.parserRawSpec.vars false W args.toList ds gs before) (hL : laidMetH Tryz.prog Rows.parserRawRow.laid W) :
    Calls Tryz.prog 3 args W fun e W' => ∃ v, e = .returned v ∧ Rows.parserRawSpec.post enc Tryz.prog Tryz.f3 false true false false W args v W' := by
  have hW' := hW
  obtain ⟨p, q, hA0, hV, rfl, _, _⟩ := hW
  have hA : DataW.TrodAll enc Tryz.prog W 0 (fun _ => true) true Tryz.f3.params.toList args.toList ds p := hA0
  rw [Tryz.params3] at hA hval
  obtain ⟨rfl, rfl⟩ := trodVars_none hV
  obtain ⟨v0, vs0, d0, ds0, p0, q0, hargs0, hds0, hps0, h0, r0⟩ := trodAll_cons hA
  obtain ⟨rfl, rfl, rfl⟩ := trodAll_nil r0
  subst hds0; subst hps0
  obtain rfl : args = #[v0] := by cases args; simp_all
  obtain ⟨s0, hs0, _, _, _⟩ := open_string Tryz.underlying9 (hval 0 9 v0 rfl rfl) h0
  have g0 : Rep (Kw W) (.str s0.data.toList) v0 := by rw [hs0]; exact Yp s0
  refine (Vj (LexSem.parserRaw_sem s0.data.toList) (tables hL).1 (tables hL).2 (W6 g0)).mono fun e W' ⟨he, hS⟩ => ?_
  exact ⟨_, he, law_post laidOut rfl (by rw [Tryz.params3]; intro t ht; simp at ht; rcases ht with rfl <;> exact ⟨by kernel_rfl, of_decide_eq_true (by kernel_rfl)⟩) rfl Tryz.underlying4 hW' rfl hS.below⟩

set_option maxRecDepth 100000 in
theorem lifted (os : Os) (started : os.Started) (H : Type) (enc : TypeId × Value → H) (F : Stop.Interp) :
    ReturnsInHanded {} Tryz.checked os 3 .any ((OpenSpec.ofChange Rows.parserRawSpec).preRow enc Tryz.prog Tryz.f3 Rows.parserRawRow.domain false Rows.parserRawRow.laid) (((OpenSpec.ofChange Rows.parserRawSpec).at F).post enc Tryz.prog Tryz.f3 false true false false) := by
  refine returnsInHanded_of_row (C := Tryz.checked) (s := OpenSpec.ofChange Rows.parserRawSpec) own started (by kernel_rfl) Tryz.func3
    (witness_row_atRef (enc := enc) (C := Tryz.checked) false (laidWorld os) #[.string ByteArray.empty] rfl (by kernel_rfl) (by kernel_rfl) (by kernel_rfl) (witness_row os enc)) ?_
  intro W base args ds gs before hval hW _ _ _ hL _ _
  exact contract H enc W base args ds gs before hval hW hL

set_option maxRecDepth 100000 in
theorem said : Rows.ParserRawSaid :=
  OpenClaim.holds_of_cond 3 Tryz.f3 rfl rfl rfl rfl rfl rfl rfl ⟨rfl, rfl, rfl, rfl, rfl⟩ rfl rfl rfl rfl rfl (by kernel_rfl) Tryz.func3 (by kernel_rfl)
    (of_decide_eq_true (by kernel_rfl)) (by unfold Func.isWrapper; first | (rw [if_pos (by decide +kernel)]; kernel_rfl) | (rw [if_neg (by decide +kernel)]; exact ⟨rfl, rfl⟩))
    (fun os started H enc _ F => by rw [OpenClaim.pre_eq_preRow]; exact lifted os started H enc F)

theorem plain (f : FuncId) (fn : Func) (hf : Tryz.pinned.checked.prog.funcNamed "exactppl/exactppllaw09.ParserRaw" = some f) (hfn : Tryz.pinned.checked.prog.funcs[f]? = some fn) :
    true = Tryz.pinned.checked.prog.looks [] ∧ ∀ (j : Nat) t, fn.params[j]? = some t → Tryz.pinned.checked.prog.wantsStandIn t = false := by
  obtain rfl : f = 3 := Option.some.inj ((show Tryz.prog.funcNamed "exactppl/exactppllaw09.ParserRaw" = some 3 by kernel_rfl).symm.trans hf) |>.symm
  obtain rfl : fn = Tryz.f3 := (Option.some.inj (Tryz.func3.symm.trans hfn)).symm
  refine ⟨by kernel_rfl, fun j t ht => ?_⟩
  rw [Tryz.params3] at ht
  match j, ht with
  | 0, ht => cases ht; exact (show Tryz.prog.wantsStandIn 9 = false by kernel_rfl)
  | j + 1, ht => simp at ht

/-- The card. -/
theorem parserRaw_card : Rows.ParserRawCardSaid :=
  Claim7.holds_tied_plain_at .later [] _ _ _ _ said (fun _ h => by cases h) (by kernel_rfl) (fun _ h => by cases h) parserRaw_row_tie rfl ⟨rfl, rfl⟩ (by kernel_rfl) rfl plain (by kernel_rfl)
end Go.Proofs.YtenieameoojbjaaGreatDoor
