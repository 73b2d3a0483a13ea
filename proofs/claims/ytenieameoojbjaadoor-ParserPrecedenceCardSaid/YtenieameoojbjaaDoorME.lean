/-
 Texts joined: LFacts LShelf.
-/
import Derived.Test.YtenieameoojbjaaDoorMW
import Derived.Test.YtenieameoojbjaaDoorProg
import Derived.Shelf.Small.Bits
set_option linter.unusedVariables false
set_option linter.unusedSimpArgs false
set_option linter.loopingSimpArgs false
set_option linter.defProp false
namespace Go.LexSem
open Go Go.V Go.Proofs
/-- What parser.levels holds. -/
def levelsV : PVal := .slc [.fmap [.str [124, 124]] [.int .i64 7], .fmap [.str [38, 38]] [.int .i64 6], .fmap [.str [43], .str [45]] [.int .i64 12, .int .i64 13], .fmap [.str [42]] [.int .i64 14]]
noncomputable def C : Ctx := ⟨Tryd.prog, fun g => if g = 0 then some asciiTab else if g = 2 then some [levelsV] else none⟩
theorem mo : C.P.follows .mixedOrders = true := by kernel_rfl
theorem t_0 : (tyq C.P 0 = some (false, 1)) ∧ (tz C.P 0 = some (.any)) := ⟨by kernel_rfl, by kernel_rfl⟩
theorem t_1 : (tyq C.P 1 = some (false, 1)) ∧ (tz C.P 1 = some (.nilfn)) := ⟨by kernel_rfl, by kernel_rfl⟩
theorem t_2 : (tyq C.P 2 = some (false, 1)) ∧ (inq C.P 2 = some .i64) ∧ (tz C.P 2 = some (.int .i64 (0))) := ⟨by kernel_rfl, by kernel_rfl, by kernel_rfl⟩
theorem t_3 : (tyq C.P 3 = some (false, 1)) ∧ (inq C.P 3 = some .i64) ∧ (tz C.P 3 = some (.int .i64 (0))) := ⟨by kernel_rfl, by kernel_rfl, by kernel_rfl⟩
theorem t_4 : (tyq C.P 4 = some (false, 1)) ∧ (C.P.underlying 4 = some .bool) ∧ (tz C.P 4 = some (.bool false)) := ⟨by kernel_rfl, by kernel_rfl, by kernel_rfl⟩
theorem t_5 : (tyq C.P 5 = some (false, 1)) ∧ (inq C.P 5 = some .u8) ∧ (tz C.P 5 = some (.int .u8 (0))) := ⟨by kernel_rfl, by kernel_rfl, by kernel_rfl⟩
theorem t_6 : (tyq C.P 6 = some (false, 1)) ∧ (inq C.P 6 = some .u8) ∧ (tz C.P 6 = some (.int .u8 (0))) := ⟨by kernel_rfl, by kernel_rfl, by kernel_rfl⟩
theorem t_7 : (tyq C.P 7 = some (true, 4)) ∧ (fq C.P 7 0 = some (0, false, 1)) ∧ (fq C.P 7 1 = some (1, false, 1)) ∧ (fq C.P 7 2 = some (2, false, 1)) ∧ (fq C.P 7 3 = some (3, false, 1)) ∧ (bq C.P 7 = some ([.int .i64 (0), .int .i64 (0), .bool false, .int .u8 (0)], [(0, 1), (1, 1), (2, 1), (3, 1)])) ∧ (feq C.P 7 = some [1, 1, 2, 1]) ∧ (tz C.P 7 = some (.agg [.int .i64 (0), .int .i64 (0), .bool false, .int .u8 (0)])) := ⟨by kernel_rfl, by kernel_rfl, by kernel_rfl, by kernel_rfl, by kernel_rfl, by kernel_rfl, by kernel_rfl, by kernel_rfl⟩
theorem t_8 : (tyq C.P 8 = some (true, 4)) ∧ (fq C.P 8 0 = some (0, false, 1)) ∧ (fq C.P 8 1 = some (1, false, 1)) ∧ (fq C.P 8 2 = some (2, false, 1)) ∧ (fq C.P 8 3 = some (3, false, 1)) ∧ (bq C.P 8 = some ([.int .i64 (0), .int .i64 (0), .bool false, .int .u8 (0)], [(0, 1), (1, 1), (2, 1), (3, 1)])) ∧ (feq C.P 8 = some [1, 1, 2, 1]) ∧ (tz C.P 8 = some (.agg [.int .i64 (0), .int .i64 (0), .bool false, .int .u8 (0)])) := ⟨by kernel_rfl, by kernel_rfl, by kernel_rfl, by kernel_rfl, by kernel_rfl, by kernel_rfl, by kernel_rfl, by kernel_rfl⟩
theorem t_9 : (tyq C.P 9 = some (false, 1)) ∧ (C.P.underlying 9 = some .string) ∧ (tz C.P 9 = some (.str [])) := ⟨by kernel_rfl, by kernel_rfl, by kernel_rfl⟩
theorem t_10 : (tyq C.P 10 = some (false, 1)) ∧ (C.P.underlying 10 = some .string) ∧ (tz C.P 10 = some (.str [])) := ⟨by kernel_rfl, by kernel_rfl, by kernel_rfl⟩
theorem t_11 : (tyq C.P 11 = some (false, 1)) ∧ (C.P.underlying 11 = some .string) ∧ (tz C.P 11 = some (.str [])) := ⟨by kernel_rfl, by kernel_rfl, by kernel_rfl⟩
theorem t_12 : (tyq C.P 12 = some (false, 1)) ∧ (inq C.P 12 = some .u64) ∧ (tz C.P 12 = some (.int .u64 (0))) := ⟨by kernel_rfl, by kernel_rfl, by kernel_rfl⟩
theorem t_13 : (tyq C.P 13 = some (true, 2)) ∧ (fq C.P 13 0 = some (0, false, 1)) ∧ (fq C.P 13 1 = some (1, false, 1)) ∧ (bq C.P 13 = some ([.str [], .int .u64 (0)], [(0, 1), (1, 1)])) ∧ (tz C.P 13 = some (.agg [.str [], .int .u64 (0)])) := ⟨by kernel_rfl, by kernel_rfl, by kernel_rfl, by kernel_rfl, by kernel_rfl⟩
theorem t_14 : (tyq C.P 14 = some (true, 2)) ∧ (fq C.P 14 0 = some (0, false, 1)) ∧ (fq C.P 14 1 = some (1, false, 1)) ∧ (bq C.P 14 = some ([.str [], .int .u64 (0)], [(0, 1), (1, 1)])) ∧ (tz C.P 14 = some (.agg [.str [], .int .u64 (0)])) := ⟨by kernel_rfl, by kernel_rfl, by kernel_rfl, by kernel_rfl, by kernel_rfl⟩
theorem t_15 : (tyq C.P 15 = some (false, 1)) ∧ (ptq C.P 15 = true) ∧ (tz C.P 15 = some (.nilp)) := ⟨by kernel_rfl, by kernel_rfl, by kernel_rfl⟩
theorem t_16 : (tyq C.P 16 = some (false, 1)) ∧ (ptq C.P 16 = true) ∧ (tz C.P 16 = some (.nilp)) := ⟨by kernel_rfl, by kernel_rfl, by kernel_rfl⟩
theorem t_17 : (tyq C.P 17 = some (false, 1)) ∧ (ptq C.P 17 = true) ∧ (tz C.P 17 = some (.nilp)) := ⟨by kernel_rfl, by kernel_rfl, by kernel_rfl⟩
theorem t_18 : (tyq C.P 18 = some (true, 1)) ∧ (fq C.P 18 0 = some (0, false, 1)) ∧ (bq C.P 18 = some ([.nilp], [(0, 1)])) ∧ (tz C.P 18 = some (.agg [.nilp])) := ⟨by kernel_rfl, by kernel_rfl, by kernel_rfl, by kernel_rfl⟩
theorem t_19 : (tyq C.P 19 = some (true, 1)) ∧ (fq C.P 19 0 = some (0, false, 1)) ∧ (bq C.P 19 = some ([.nilp], [(0, 1)])) ∧ (tz C.P 19 = some (.agg [.nilp])) := ⟨by kernel_rfl, by kernel_rfl, by kernel_rfl, by kernel_rfl⟩
theorem t_20 : (tyq C.P 20 = some (false, 1)) ∧ (ifq C.P 20 = true) ∧ (tz C.P 20 = some (.niliface)) := ⟨by kernel_rfl, by kernel_rfl, by kernel_rfl⟩
theorem t_21 : (tyq C.P 21 = some (false, 1)) ∧ (inq C.P 21 = some .i32) ∧ (tz C.P 21 = some (.int .i32 (0))) := ⟨by kernel_rfl, by kernel_rfl, by kernel_rfl⟩
theorem t_22 : (tyq C.P 22 = some (false, 1)) ∧ (slq C.P 22 = some (9, 1, 16)) ∧ (tz C.P 22 = some (.nils)) := ⟨by kernel_rfl, by kernel_rfl, by kernel_rfl⟩
theorem t_23 : (tyq C.P 23 = some (false, 1)) ∧ (slq C.P 23 = some (3, 1, 8)) ∧ (tz C.P 23 = some (.nils)) := ⟨by kernel_rfl, by kernel_rfl, by kernel_rfl⟩
theorem t_24 : (tyq C.P 24 = some (false, 1)) ∧ (slq C.P 24 = some (71, 5, 104)) ∧ (tz C.P 24 = some (.nils)) := ⟨by kernel_rfl, by kernel_rfl, by kernel_rfl⟩
theorem t_25 : (tyq C.P 25 = some (false, 1)) ∧ (slq C.P 25 = some (76, 6, 72)) ∧ (tz C.P 25 = some (.nils)) := ⟨by kernel_rfl, by kernel_rfl, by kernel_rfl⟩
theorem t_26 : (tyq C.P 26 = some (false, 1)) ∧ (slq C.P 26 = some (55, 25, 408)) ∧ (tz C.P 26 = some (.nils)) := ⟨by kernel_rfl, by kernel_rfl, by kernel_rfl⟩
theorem t_27 : (tyq C.P 27 = some (true, 6)) ∧ (fq C.P 27 0 = some (0, false, 1)) ∧ (fq C.P 27 1 = some (1, false, 1)) ∧ (fq C.P 27 2 = some (2, false, 1)) ∧ (fq C.P 27 3 = some (3, false, 1)) ∧ (fq C.P 27 4 = some (4, false, 1)) ∧ (fq C.P 27 5 = some (5, false, 1)) ∧ (bq C.P 27 = some ([.nils, .nils, .nils, .nils, .nils, .str []], [(0, 1), (1, 1), (2, 1), (3, 1), (4, 1), (5, 1)])) ∧ (feq C.P 27 = some [0, 0, 0, 0, 0, 3]) ∧ (tz C.P 27 = some (.agg [.nils, .nils, .nils, .nils, .nils, .str []])) := ⟨by kernel_rfl, by kernel_rfl, by kernel_rfl, by kernel_rfl, by kernel_rfl, by kernel_rfl, by kernel_rfl, by kernel_rfl, by kernel_rfl, by kernel_rfl⟩
theorem t_28 : (tyq C.P 28 = some (true, 6)) ∧ (fq C.P 28 0 = some (0, false, 1)) ∧ (fq C.P 28 1 = some (1, false, 1)) ∧ (fq C.P 28 2 = some (2, false, 1)) ∧ (fq C.P 28 3 = some (3, false, 1)) ∧ (fq C.P 28 4 = some (4, false, 1)) ∧ (fq C.P 28 5 = some (5, false, 1)) ∧ (bq C.P 28 = some ([.nils, .nils, .nils, .nils, .nils, .str []], [(0, 1), (1, 1), (2, 1), (3, 1), (4, 1), (5, 1)])) ∧ (feq C.P 28 = some [0, 0, 0, 0, 0, 3]) ∧ (tz C.P 28 = some (.agg [.nils, .nils, .nils, .nils, .nils, .str []])) := ⟨by kernel_rfl, by kernel_rfl, by kernel_rfl, by kernel_rfl, by kernel_rfl, by kernel_rfl, by kernel_rfl, by kernel_rfl, by kernel_rfl, by kernel_rfl⟩
theorem t_29 : (tyq C.P 29 = some (true, 2)) ∧ (fq C.P 29 0 = some (0, false, 1)) ∧ (fq C.P 29 1 = some (1, false, 1)) ∧ (bq C.P 29 = some ([.int .i64 (0), .int .i64 (0)], [(0, 1), (1, 1)])) ∧ (feq C.P 29 = some [1, 1]) ∧ (tz C.P 29 = some (.agg [.int .i64 (0), .int .i64 (0)])) := ⟨by kernel_rfl, by kernel_rfl, by kernel_rfl, by kernel_rfl, by kernel_rfl, by kernel_rfl⟩
theorem t_30 : (tyq C.P 30 = some (true, 2)) ∧ (fq C.P 30 0 = some (0, false, 1)) ∧ (fq C.P 30 1 = some (1, false, 1)) ∧ (bq C.P 30 = some ([.int .i64 (0), .int .i64 (0)], [(0, 1), (1, 1)])) ∧ (feq C.P 30 = some [1, 1]) ∧ (tz C.P 30 = some (.agg [.int .i64 (0), .int .i64 (0)])) := ⟨by kernel_rfl, by kernel_rfl, by kernel_rfl, by kernel_rfl, by kernel_rfl, by kernel_rfl⟩
theorem t_31 : (tyq C.P 31 = some (false, 1)) ∧ (inq C.P 31 = some .i64) ∧ (tz C.P 31 = some (.int .i64 (0))) := ⟨by kernel_rfl, by kernel_rfl, by kernel_rfl⟩
theorem t_32 : (tyq C.P 32 = some (false, 1)) ∧ (tz C.P 32 = some (.any)) := ⟨by kernel_rfl, by kernel_rfl⟩
theorem t_33 : (tyq C.P 33 = some (false, 1)) ∧ (tz C.P 33 = some (.nilfn)) := ⟨by kernel_rfl, by kernel_rfl⟩
theorem t_34 : (tyq C.P 34 = some (false, 1)) ∧ (tz C.P 34 = some (.nilfn)) := ⟨by kernel_rfl, by kernel_rfl⟩
theorem t_35 : (tyq C.P 35 = some (false, 1)) ∧ (tz C.P 35 = some (.nilfn)) := ⟨by kernel_rfl, by kernel_rfl⟩
theorem t_36 : (tyq C.P 36 = some (false, 1)) ∧ (tz C.P 36 = some (.nilfn)) := ⟨by kernel_rfl, by kernel_rfl⟩
theorem t_37 : (tyq C.P 37 = some (false, 1)) ∧ (slq C.P 37 = some (66, 4, 40)) ∧ (tz C.P 37 = some (.nils)) := ⟨by kernel_rfl, by kernel_rfl, by kernel_rfl⟩
theorem t_38 : (tyq C.P 38 = some (false, 1)) ∧ (tz C.P 38 = some (.any)) := ⟨by kernel_rfl, by kernel_rfl⟩
theorem t_39 : (tyq C.P 39 = some (false, 1)) ∧ (tz C.P 39 = some (.nilfn)) := ⟨by kernel_rfl, by kernel_rfl⟩
theorem t_40 : (tyq C.P 40 = some (true, 3)) ∧ (fq C.P 40 0 = some (0, true, 2)) ∧ (fq C.P 40 1 = some (2, false, 1)) ∧ (bq C.P 40 = some ([.int .i64 (0), .int .i64 (0), .int .i64 (0)], [(0, 2), (2, 1)])) ∧ (tz C.P 40 = some (.agg [.int .i64 (0), .int .i64 (0), .int .i64 (0)])) := ⟨by kernel_rfl, by kernel_rfl, by kernel_rfl, by kernel_rfl, by kernel_rfl⟩
theorem t_41 : (tyq C.P 41 = some (true, 3)) ∧ (fq C.P 41 0 = some (0, true, 2)) ∧ (fq C.P 41 1 = some (2, false, 1)) ∧ (bq C.P 41 = some ([.int .i64 (0), .int .i64 (0), .int .i64 (0)], [(0, 2), (2, 1)])) ∧ (tz C.P 41 = some (.agg [.int .i64 (0), .int .i64 (0), .int .i64 (0)])) := ⟨by kernel_rfl, by kernel_rfl, by kernel_rfl, by kernel_rfl, by kernel_rfl⟩
theorem t_42 : (tyq C.P 42 = some (false, 1)) ∧ (ptq C.P 42 = true) ∧ (tz C.P 42 = some (.nilp)) := ⟨by kernel_rfl, by kernel_rfl, by kernel_rfl⟩
theorem t_43 : (tyq C.P 43 = some (true, 3)) ∧ (fq C.P 43 0 = some (0, false, 1)) ∧ (fq C.P 43 1 = some (1, false, 1)) ∧ (fq C.P 43 2 = some (2, false, 1)) ∧ (bq C.P 43 = some ([.nils, .int .i64 (0), .int .i64 (0)], [(0, 1), (1, 1), (2, 1)])) ∧ (feq C.P 43 = some [0, 1, 1]) ∧ (tz C.P 43 = some (.agg [.nils, .int .i64 (0), .int .i64 (0)])) := ⟨by kernel_rfl, by kernel_rfl, by kernel_rfl, by kernel_rfl, by kernel_rfl, by kernel_rfl, by kernel_rfl⟩
theorem t_44 : (tyq C.P 44 = some (true, 3)) ∧ (fq C.P 44 0 = some (0, false, 1)) ∧ (fq C.P 44 1 = some (1, false, 1)) ∧ (fq C.P 44 2 = some (2, false, 1)) ∧ (bq C.P 44 = some ([.nils, .int .i64 (0), .int .i64 (0)], [(0, 1), (1, 1), (2, 1)])) ∧ (feq C.P 44 = some [0, 1, 1]) ∧ (tz C.P 44 = some (.agg [.nils, .int .i64 (0), .int .i64 (0)])) := ⟨by kernel_rfl, by kernel_rfl, by kernel_rfl, by kernel_rfl, by kernel_rfl, by kernel_rfl, by kernel_rfl⟩
theorem t_45 : (tyq C.P 45 = some (false, 1)) ∧ (tz C.P 45 = some (.nilfn)) := ⟨by kernel_rfl, by kernel_rfl⟩
theorem t_46 : (tyq C.P 46 = some (false, 1)) ∧ (slq C.P 46 = some (117, 1, 4)) ∧ (tz C.P 46 = some (.nils)) := ⟨by kernel_rfl, by kernel_rfl, by kernel_rfl⟩
theorem t_47 : (tyq C.P 47 = some (true, 3)) ∧ (fq C.P 47 0 = some (0, false, 1)) ∧ (fq C.P 47 1 = some (1, false, 1)) ∧ (fq C.P 47 2 = some (2, false, 1)) ∧ (bq C.P 47 = some ([.bool false, .nils, .nils], [(0, 1), (1, 1), (2, 1)])) ∧ (feq C.P 47 = some [2, 0, 0]) ∧ (tz C.P 47 = some (.agg [.bool false, .nils, .nils])) := ⟨by kernel_rfl, by kernel_rfl, by kernel_rfl, by kernel_rfl, by kernel_rfl, by kernel_rfl, by kernel_rfl⟩
theorem t_48 : (tyq C.P 48 = some (true, 3)) ∧ (fq C.P 48 0 = some (0, false, 1)) ∧ (fq C.P 48 1 = some (1, false, 1)) ∧ (fq C.P 48 2 = some (2, false, 1)) ∧ (bq C.P 48 = some ([.bool false, .nils, .nils], [(0, 1), (1, 1), (2, 1)])) ∧ (feq C.P 48 = some [2, 0, 0]) ∧ (tz C.P 48 = some (.agg [.bool false, .nils, .nils])) := ⟨by kernel_rfl, by kernel_rfl, by kernel_rfl, by kernel_rfl, by kernel_rfl, by kernel_rfl, by kernel_rfl⟩
theorem t_49 : (tyq C.P 49 = some (false, 1)) ∧ (slq C.P 49 = some (51, 7, 112)) ∧ (tz C.P 49 = some (.nils)) := ⟨by kernel_rfl, by kernel_rfl, by kernel_rfl⟩
theorem t_50 : (tyq C.P 50 = some (true, 7)) ∧ (fq C.P 50 0 = some (0, false, 1)) ∧ (fq C.P 50 1 = some (1, false, 1)) ∧ (fq C.P 50 2 = some (2, true, 3)) ∧ (fq C.P 50 3 = some (5, false, 1)) ∧ (fq C.P 50 4 = some (6, false, 1)) ∧ (bq C.P 50 = some ([.int .i64 (0), .int .i64 (0), .bool false, .nils, .nils, .str [], .nils], [(0, 1), (1, 1), (2, 3), (5, 1), (6, 1)])) ∧ (tz C.P 50 = some (.agg [.int .i64 (0), .int .i64 (0), .bool false, .nils, .nils, .str [], .nils])) := ⟨by kernel_rfl, by kernel_rfl, by kernel_rfl, by kernel_rfl, by kernel_rfl, by kernel_rfl, by kernel_rfl, by kernel_rfl⟩
theorem t_51 : (tyq C.P 51 = some (true, 7)) ∧ (fq C.P 51 0 = some (0, false, 1)) ∧ (fq C.P 51 1 = some (1, false, 1)) ∧ (fq C.P 51 2 = some (2, true, 3)) ∧ (fq C.P 51 3 = some (5, false, 1)) ∧ (fq C.P 51 4 = some (6, false, 1)) ∧ (bq C.P 51 = some ([.int .i64 (0), .int .i64 (0), .bool false, .nils, .nils, .str [], .nils], [(0, 1), (1, 1), (2, 3), (5, 1), (6, 1)])) ∧ (tz C.P 51 = some (.agg [.int .i64 (0), .int .i64 (0), .bool false, .nils, .nils, .str [], .nils])) := ⟨by kernel_rfl, by kernel_rfl, by kernel_rfl, by kernel_rfl, by kernel_rfl, by kernel_rfl, by kernel_rfl, by kernel_rfl⟩
theorem t_52 : (tyq C.P 52 = some (true, 11)) ∧ (fq C.P 52 0 = some (0, false, 1)) ∧ (fq C.P 52 1 = some (1, false, 1)) ∧ (fq C.P 52 2 = some (2, false, 1)) ∧ (fq C.P 52 3 = some (3, true, 3)) ∧ (fq C.P 52 4 = some (6, true, 3)) ∧ (fq C.P 52 5 = some (9, false, 1)) ∧ (fq C.P 52 6 = some (10, false, 1)) ∧ (bq C.P 52 = some ([.int .i64 (0), .int .i64 (0), .int .i64 (0), .bool false, .nils, .nils, .bool false, .nils, .nils, .nils, .str []], [(0, 1), (1, 1), (2, 1), (3, 3), (6, 3), (9, 1), (10, 1)])) ∧ (tz C.P 52 = some (.agg [.int .i64 (0), .int .i64 (0), .int .i64 (0), .bool false, .nils, .nils, .bool false, .nils, .nils, .nils, .str []])) := ⟨by kernel_rfl, by kernel_rfl, by kernel_rfl, by kernel_rfl, by kernel_rfl, by kernel_rfl, by kernel_rfl, by kernel_rfl, by kernel_rfl, by kernel_rfl⟩
theorem t_53 : (tyq C.P 53 = some (true, 11)) ∧ (fq C.P 53 0 = some (0, false, 1)) ∧ (fq C.P 53 1 = some (1, false, 1)) ∧ (fq C.P 53 2 = some (2, false, 1)) ∧ (fq C.P 53 3 = some (3, true, 3)) ∧ (fq C.P 53 4 = some (6, true, 3)) ∧ (fq C.P 53 5 = some (9, false, 1)) ∧ (fq C.P 53 6 = some (10, false, 1)) ∧ (bq C.P 53 = some ([.int .i64 (0), .int .i64 (0), .int .i64 (0), .bool false, .nils, .nils, .bool false, .nils, .nils, .nils, .str []], [(0, 1), (1, 1), (2, 1), (3, 3), (6, 3), (9, 1), (10, 1)])) ∧ (tz C.P 53 = some (.agg [.int .i64 (0), .int .i64 (0), .int .i64 (0), .bool false, .nils, .nils, .bool false, .nils, .nils, .nils, .str []])) := ⟨by kernel_rfl, by kernel_rfl, by kernel_rfl, by kernel_rfl, by kernel_rfl, by kernel_rfl, by kernel_rfl, by kernel_rfl, by kernel_rfl, by kernel_rfl⟩
theorem t_54 : (tyq C.P 54 = some (true, 25)) ∧ (fq C.P 54 0 = some (0, false, 1)) ∧ (fq C.P 54 1 = some (1, false, 1)) ∧ (fq C.P 54 2 = some (2, false, 1)) ∧ (fq C.P 54 3 = some (3, false, 1)) ∧ (fq C.P 54 4 = some (4, true, 7)) ∧ (fq C.P 54 5 = some (11, false, 1)) ∧ (fq C.P 54 6 = some (12, true, 11)) ∧ (fq C.P 54 7 = some (23, false, 1)) ∧ (fq C.P 54 8 = some (24, false, 1)) ∧ (bq C.P 54 = some ([.int .i64 (0), .str [], .str [], .int .i64 (0), .int .i64 (0), .int .i64 (0), .bool false, .nils, .nils, .str [], .nils, .nils, .int .i64 (0), .int .i64 (0), .int .i64 (0), .bool false, .nils, .nils, .bool false, .nils, .nils, .nils, .str [], .nils, .nils], [(0, 1), (1, 1), (2, 1), (3, 1), (4, 7), (11, 1), (12, 11), (23, 1), (24, 1)])) ∧ (tz C.P 54 = some (.agg [.int .i64 (0), .str [], .str [], .int .i64 (0), .int .i64 (0), .int .i64 (0), .bool false, .nils, .nils, .str [], .nils, .nils, .int .i64 (0), .int .i64 (0), .int .i64 (0), .bool false, .nils, .nils, .bool false, .nils, .nils, .nils, .str [], .nils, .nils])) := ⟨by kernel_rfl, by kernel_rfl, by kernel_rfl, by kernel_rfl, by kernel_rfl, by kernel_rfl, by kernel_rfl, by kernel_rfl, by kernel_rfl, by kernel_rfl, by kernel_rfl, by kernel_rfl⟩
theorem t_55 : (tyq C.P 55 = some (true, 25)) ∧ (fq C.P 55 0 = some (0, false, 1)) ∧ (fq C.P 55 1 = some (1, false, 1)) ∧ (fq C.P 55 2 = some (2, false, 1)) ∧ (fq C.P 55 3 = some (3, false, 1)) ∧ (fq C.P 55 4 = some (4, true, 7)) ∧ (fq C.P 55 5 = some (11, false, 1)) ∧ (fq C.P 55 6 = some (12, true, 11)) ∧ (fq C.P 55 7 = some (23, false, 1)) ∧ (fq C.P 55 8 = some (24, false, 1)) ∧ (bq C.P 55 = some ([.int .i64 (0), .str [], .str [], .int .i64 (0), .int .i64 (0), .int .i64 (0), .bool false, .nils, .nils, .str [], .nils, .nils, .int .i64 (0), .int .i64 (0), .int .i64 (0), .bool false, .nils, .nils, .bool false, .nils, .nils, .nils, .str [], .nils, .nils], [(0, 1), (1, 1), (2, 1), (3, 1), (4, 7), (11, 1), (12, 11), (23, 1), (24, 1)])) ∧ (tz C.P 55 = some (.agg [.int .i64 (0), .str [], .str [], .int .i64 (0), .int .i64 (0), .int .i64 (0), .bool false, .nils, .nils, .str [], .nils, .nils, .int .i64 (0), .int .i64 (0), .int .i64 (0), .bool false, .nils, .nils, .bool false, .nils, .nils, .nils, .str [], .nils, .nils])) := ⟨by kernel_rfl, by kernel_rfl, by kernel_rfl, by kernel_rfl, by kernel_rfl, by kernel_rfl, by kernel_rfl, by kernel_rfl, by kernel_rfl, by kernel_rfl, by kernel_rfl, by kernel_rfl⟩
theorem t_56 : (tyq C.P 56 = some (false, 1)) ∧ (ptq C.P 56 = true) ∧ (tz C.P 56 = some (.nilp)) := ⟨by kernel_rfl, by kernel_rfl, by kernel_rfl⟩
theorem t_57 : (tyq C.P 57 = some (true, 4)) ∧ (fq C.P 57 0 = some (0, false, 1)) ∧ (fq C.P 57 1 = some (1, false, 1)) ∧ (fq C.P 57 2 = some (2, false, 1)) ∧ (fq C.P 57 3 = some (3, false, 1)) ∧ (bq C.P 57 = some ([.str [], .int .i64 (0), .int .i64 (0), .int .i64 (0)], [(0, 1), (1, 1), (2, 1), (3, 1)])) ∧ (feq C.P 57 = some [3, 1, 1, 1]) ∧ (tz C.P 57 = some (.agg [.str [], .int .i64 (0), .int .i64 (0), .int .i64 (0)])) := ⟨by kernel_rfl, by kernel_rfl, by kernel_rfl, by kernel_rfl, by kernel_rfl, by kernel_rfl, by kernel_rfl, by kernel_rfl⟩
theorem t_58 : (tyq C.P 58 = some (true, 4)) ∧ (fq C.P 58 0 = some (0, false, 1)) ∧ (fq C.P 58 1 = some (1, false, 1)) ∧ (fq C.P 58 2 = some (2, false, 1)) ∧ (fq C.P 58 3 = some (3, false, 1)) ∧ (bq C.P 58 = some ([.str [], .int .i64 (0), .int .i64 (0), .int .i64 (0)], [(0, 1), (1, 1), (2, 1), (3, 1)])) ∧ (feq C.P 58 = some [3, 1, 1, 1]) ∧ (tz C.P 58 = some (.agg [.str [], .int .i64 (0), .int .i64 (0), .int .i64 (0)])) := ⟨by kernel_rfl, by kernel_rfl, by kernel_rfl, by kernel_rfl, by kernel_rfl, by kernel_rfl, by kernel_rfl, by kernel_rfl⟩
theorem t_59 : (tyq C.P 59 = some (false, 1)) ∧ (tz C.P 59 = some (.nilfn)) := ⟨by kernel_rfl, by kernel_rfl⟩
theorem t_60 : (tyq C.P 60 = some (false, 1)) ∧ (tz C.P 60 = some (.nilfn)) := ⟨by kernel_rfl, by kernel_rfl⟩
theorem t_61 : (tyq C.P 61 = some (false, 1)) ∧ (tz C.P 61 = some (.nilfn)) := ⟨by kernel_rfl, by kernel_rfl⟩
theorem t_62 : (tyq C.P 62 = some (false, 1)) ∧ (tz C.P 62 = some (.nilfn)) := ⟨by kernel_rfl, by kernel_rfl⟩
theorem t_63 : (tyq C.P 63 = some (false, 1)) ∧ (tz C.P 63 = some (.any)) := ⟨by kernel_rfl, by kernel_rfl⟩
theorem t_64 : (tyq C.P 64 = some (false, 1)) ∧ (tz C.P 64 = some (.nilfn)) := ⟨by kernel_rfl, by kernel_rfl⟩
theorem t_65 : (tyq C.P 65 = some (true, 4)) ∧ (fq C.P 65 0 = some (0, false, 1)) ∧ (fq C.P 65 1 = some (1, false, 1)) ∧ (fq C.P 65 2 = some (2, false, 1)) ∧ (fq C.P 65 3 = some (3, false, 1)) ∧ (bq C.P 65 = some ([.int .i64 (0), .str [], .int .i64 (0), .int .i64 (0)], [(0, 1), (1, 1), (2, 1), (3, 1)])) ∧ (feq C.P 65 = some [1, 3, 1, 1]) ∧ (tz C.P 65 = some (.agg [.int .i64 (0), .str [], .int .i64 (0), .int .i64 (0)])) := ⟨by kernel_rfl, by kernel_rfl, by kernel_rfl, by kernel_rfl, by kernel_rfl, by kernel_rfl, by kernel_rfl, by kernel_rfl⟩
theorem t_66 : (tyq C.P 66 = some (true, 4)) ∧ (fq C.P 66 0 = some (0, false, 1)) ∧ (fq C.P 66 1 = some (1, false, 1)) ∧ (fq C.P 66 2 = some (2, false, 1)) ∧ (fq C.P 66 3 = some (3, false, 1)) ∧ (bq C.P 66 = some ([.int .i64 (0), .str [], .int .i64 (0), .int .i64 (0)], [(0, 1), (1, 1), (2, 1), (3, 1)])) ∧ (feq C.P 66 = some [1, 3, 1, 1]) ∧ (tz C.P 66 = some (.agg [.int .i64 (0), .str [], .int .i64 (0), .int .i64 (0)])) := ⟨by kernel_rfl, by kernel_rfl, by kernel_rfl, by kernel_rfl, by kernel_rfl, by kernel_rfl, by kernel_rfl, by kernel_rfl⟩
theorem t_67 : (tyq C.P 67 = some (false, 1)) ∧ (tz C.P 67 = some (.nilfn)) := ⟨by kernel_rfl, by kernel_rfl⟩
theorem t_68 : (tyq C.P 68 = some (false, 1)) ∧ (tz C.P 68 = some (.nilfn)) := ⟨by kernel_rfl, by kernel_rfl⟩
theorem t_69 : (tyq C.P 69 = some (false, 1)) ∧ (tz C.P 69 = some (.nilfn)) := ⟨by kernel_rfl, by kernel_rfl⟩
theorem t_70 : (tyq C.P 70 = some (true, 5)) ∧ (fq C.P 70 0 = some (0, false, 1)) ∧ (fq C.P 70 1 = some (1, false, 1)) ∧ (fq C.P 70 2 = some (2, false, 1)) ∧ (fq C.P 70 3 = some (3, false, 1)) ∧ (fq C.P 70 4 = some (4, false, 1)) ∧ (bq C.P 70 = some ([.str [], .nils, .nils, .nils, .str []], [(0, 1), (1, 1), (2, 1), (3, 1), (4, 1)])) ∧ (feq C.P 70 = some [3, 0, 0, 0, 3]) ∧ (tz C.P 70 = some (.agg [.str [], .nils, .nils, .nils, .str []])) := ⟨by kernel_rfl, by kernel_rfl, by kernel_rfl, by kernel_rfl, by kernel_rfl, by kernel_rfl, by kernel_rfl, by kernel_rfl, by kernel_rfl⟩
theorem t_71 : (tyq C.P 71 = some (true, 5)) ∧ (fq C.P 71 0 = some (0, false, 1)) ∧ (fq C.P 71 1 = some (1, false, 1)) ∧ (fq C.P 71 2 = some (2, false, 1)) ∧ (fq C.P 71 3 = some (3, false, 1)) ∧ (fq C.P 71 4 = some (4, false, 1)) ∧ (bq C.P 71 = some ([.str [], .nils, .nils, .nils, .str []], [(0, 1), (1, 1), (2, 1), (3, 1), (4, 1)])) ∧ (feq C.P 71 = some [3, 0, 0, 0, 3]) ∧ (tz C.P 71 = some (.agg [.str [], .nils, .nils, .nils, .str []])) := ⟨by kernel_rfl, by kernel_rfl, by kernel_rfl, by kernel_rfl, by kernel_rfl, by kernel_rfl, by kernel_rfl, by kernel_rfl, by kernel_rfl⟩
theorem t_72 : (tyq C.P 72 = some (false, 1)) ∧ (slq C.P 72 = some (74, 5, 56)) ∧ (tz C.P 72 = some (.nils)) := ⟨by kernel_rfl, by kernel_rfl, by kernel_rfl⟩
theorem t_73 : (tyq C.P 73 = some (true, 5)) ∧ (fq C.P 73 0 = some (0, false, 1)) ∧ (fq C.P 73 1 = some (1, false, 1)) ∧ (fq C.P 73 2 = some (2, false, 1)) ∧ (fq C.P 73 3 = some (3, false, 1)) ∧ (fq C.P 73 4 = some (4, false, 1)) ∧ (bq C.P 73 = some ([.int .i64 (0), .int .i64 (0), .int .i64 (0), .int .i64 (0), .nils], [(0, 1), (1, 1), (2, 1), (3, 1), (4, 1)])) ∧ (feq C.P 73 = some [1, 1, 1, 1, 0]) ∧ (tz C.P 73 = some (.agg [.int .i64 (0), .int .i64 (0), .int .i64 (0), .int .i64 (0), .nils])) := ⟨by kernel_rfl, by kernel_rfl, by kernel_rfl, by kernel_rfl, by kernel_rfl, by kernel_rfl, by kernel_rfl, by kernel_rfl, by kernel_rfl⟩
theorem t_74 : (tyq C.P 74 = some (true, 5)) ∧ (fq C.P 74 0 = some (0, false, 1)) ∧ (fq C.P 74 1 = some (1, false, 1)) ∧ (fq C.P 74 2 = some (2, false, 1)) ∧ (fq C.P 74 3 = some (3, false, 1)) ∧ (fq C.P 74 4 = some (4, false, 1)) ∧ (bq C.P 74 = some ([.int .i64 (0), .int .i64 (0), .int .i64 (0), .int .i64 (0), .nils], [(0, 1), (1, 1), (2, 1), (3, 1), (4, 1)])) ∧ (feq C.P 74 = some [1, 1, 1, 1, 0]) ∧ (tz C.P 74 = some (.agg [.int .i64 (0), .int .i64 (0), .int .i64 (0), .int .i64 (0), .nils])) := ⟨by kernel_rfl, by kernel_rfl, by kernel_rfl, by kernel_rfl, by kernel_rfl, by kernel_rfl, by kernel_rfl, by kernel_rfl, by kernel_rfl⟩
theorem t_75 : (tyq C.P 75 = some (true, 6)) ∧ (fq C.P 75 0 = some (0, false, 1)) ∧ (fq C.P 75 1 = some (1, true, 5)) ∧ (bq C.P 75 = some ([.str [], .int .i64 (0), .int .i64 (0), .int .i64 (0), .int .i64 (0), .nils], [(0, 1), (1, 5)])) ∧ (feq C.P 75 = some [3, 0]) ∧ (tz C.P 75 = some (.agg [.str [], .int .i64 (0), .int .i64 (0), .int .i64 (0), .int .i64 (0), .nils])) := ⟨by kernel_rfl, by kernel_rfl, by kernel_rfl, by kernel_rfl, by kernel_rfl, by kernel_rfl⟩
theorem t_76 : (tyq C.P 76 = some (true, 6)) ∧ (fq C.P 76 0 = some (0, false, 1)) ∧ (fq C.P 76 1 = some (1, true, 5)) ∧ (bq C.P 76 = some ([.str [], .int .i64 (0), .int .i64 (0), .int .i64 (0), .int .i64 (0), .nils], [(0, 1), (1, 5)])) ∧ (feq C.P 76 = some [3, 0]) ∧ (tz C.P 76 = some (.agg [.str [], .int .i64 (0), .int .i64 (0), .int .i64 (0), .int .i64 (0), .nils])) := ⟨by kernel_rfl, by kernel_rfl, by kernel_rfl, by kernel_rfl, by kernel_rfl, by kernel_rfl⟩
theorem t_77 : (tyq C.P 77 = some (false, 1)) ∧ (tz C.P 77 = some (.nilfn)) := ⟨by kernel_rfl, by kernel_rfl⟩
theorem t_78 : (tyq C.P 78 = some (false, 1)) ∧ (tz C.P 78 = some (.any)) := ⟨by kernel_rfl, by kernel_rfl⟩
theorem t_79 : (tyq C.P 79 = some (false, 1)) ∧ (tz C.P 79 = some (.nilfn)) := ⟨by kernel_rfl, by kernel_rfl⟩
theorem t_80 : (tyq C.P 80 = some (false, 1)) ∧ (tz C.P 80 = some (.nilfn)) := ⟨by kernel_rfl, by kernel_rfl⟩
theorem t_81 : (tyq C.P 81 = some (false, 1)) ∧ (tz C.P 81 = some (.nilfn)) := ⟨by kernel_rfl, by kernel_rfl⟩
theorem t_82 : (tyq C.P 82 = some (false, 1)) ∧ (tz C.P 82 = some (.nilfn)) := ⟨by kernel_rfl, by kernel_rfl⟩
theorem t_83 : (tyq C.P 83 = some (false, 1)) ∧ (tz C.P 83 = some (.nilfn)) := ⟨by kernel_rfl, by kernel_rfl⟩
theorem t_84 : (tyq C.P 84 = some (false, 1)) ∧ (tz C.P 84 = some (.nilfn)) := ⟨by kernel_rfl, by kernel_rfl⟩
theorem t_85 : (tyq C.P 85 = some (false, 1)) ∧ (tz C.P 85 = some (.nilfn)) := ⟨by kernel_rfl, by kernel_rfl⟩
theorem t_86 : (tyq C.P 86 = some (true, 1)) ∧ (fq C.P 86 0 = some (0, false, 1)) ∧ (bq C.P 86 = some ([.bool false], [(0, 1)])) ∧ (feq C.P 86 = some [2]) ∧ (tz C.P 86 = some (.agg [.bool false])) := ⟨by kernel_rfl, by kernel_rfl, by kernel_rfl, by kernel_rfl, by kernel_rfl⟩
theorem t_87 : (tyq C.P 87 = some (true, 1)) ∧ (fq C.P 87 0 = some (0, false, 1)) ∧ (bq C.P 87 = some ([.bool false], [(0, 1)])) ∧ (feq C.P 87 = some [2]) ∧ (tz C.P 87 = some (.agg [.bool false])) := ⟨by kernel_rfl, by kernel_rfl, by kernel_rfl, by kernel_rfl, by kernel_rfl⟩
theorem t_88 : (tyq C.P 88 = some (false, 1)) ∧ (tz C.P 88 = some (.nilfn)) := ⟨by kernel_rfl, by kernel_rfl⟩
theorem t_89 : (tyq C.P 89 = some (false, 1)) ∧ (tz C.P 89 = some (.nilfn)) := ⟨by kernel_rfl, by kernel_rfl⟩
theorem t_90 : (tyq C.P 90 = some (false, 1)) ∧ (tz C.P 90 = some (.nilfn)) := ⟨by kernel_rfl, by kernel_rfl⟩
theorem t_91 : (tyq C.P 91 = some (false, 1)) ∧ (tz C.P 91 = some (.nilfn)) := ⟨by kernel_rfl, by kernel_rfl⟩
theorem t_92 : (tyq C.P 92 = some (false, 1)) ∧ (tz C.P 92 = some (.nilfn)) := ⟨by kernel_rfl, by kernel_rfl⟩
theorem t_93 : (tyq C.P 93 = some (false, 1)) ∧ (tz C.P 93 = some (.nilfn)) := ⟨by kernel_rfl, by kernel_rfl⟩
theorem t_94 : (tyq C.P 94 = some (false, 1)) ∧ (tz C.P 94 = some (.nilfn)) := ⟨by kernel_rfl, by kernel_rfl⟩
theorem t_95 : (tyq C.P 95 = some (false, 1)) ∧ (tz C.P 95 = some (.nilfn)) := ⟨by kernel_rfl, by kernel_rfl⟩
theorem t_96 : (tyq C.P 96 = some (false, 1)) ∧ (tz C.P 96 = some (.nilfn)) := ⟨by kernel_rfl, by kernel_rfl⟩
theorem t_97 : (tyq C.P 97 = some (false, 1)) ∧ (tz C.P 97 = some (.nilfn)) := ⟨by kernel_rfl, by kernel_rfl⟩
theorem t_98 : (tyq C.P 98 = some (false, 1)) ∧ (tz C.P 98 = some (.nilfn)) := ⟨by kernel_rfl, by kernel_rfl⟩
theorem t_99 : (tyq C.P 99 = some (false, 1)) ∧ (tz C.P 99 = some (.nilfn)) := ⟨by kernel_rfl, by kernel_rfl⟩
theorem t_100 : (tyq C.P 100 = some (false, 1)) ∧ (tz C.P 100 = some (.nilfn)) := ⟨by kernel_rfl, by kernel_rfl⟩
theorem t_101 : (tyq C.P 101 = some (false, 1)) ∧ (tz C.P 101 = some (.nilfn)) := ⟨by kernel_rfl, by kernel_rfl⟩
theorem t_102 : (tyq C.P 102 = some (false, 1)) ∧ (tz C.P 102 = some (.nilfn)) := ⟨by kernel_rfl, by kernel_rfl⟩
theorem t_103 : (tyq C.P 103 = some (false, 1)) ∧ (tz C.P 103 = some (.nilfn)) := ⟨by kernel_rfl, by kernel_rfl⟩
theorem t_104 : (tyq C.P 104 = some (false, 1)) ∧ (tz C.P 104 = some (.nilfn)) := ⟨by kernel_rfl, by kernel_rfl⟩
theorem t_105 : aq C.P 105 = some (256, 5) := by kernel_rfl
theorem t_106 : (tyq C.P 106 = some (false, 1)) ∧ (tz C.P 106 = some (.nilfn)) := ⟨by kernel_rfl, by kernel_rfl⟩
theorem t_107 : (tyq C.P 107 = some (false, 1)) ∧ (tz C.P 107 = some (.nilfn)) := ⟨by kernel_rfl, by kernel_rfl⟩
theorem t_108 : (tyq C.P 108 = some (false, 1)) ∧ (tz C.P 108 = some (.any)) := ⟨by kernel_rfl, by kernel_rfl⟩
theorem t_109 : (tyq C.P 109 = some (false, 1)) ∧ (tz C.P 109 = some (.nilfn)) := ⟨by kernel_rfl, by kernel_rfl⟩
theorem t_110 : (tyq C.P 110 = some (false, 1)) ∧ (tz C.P 110 = some (.nilfn)) := ⟨by kernel_rfl, by kernel_rfl⟩
theorem t_111 : (tyq C.P 111 = some (false, 1)) ∧ (tz C.P 111 = some (.nilfn)) := ⟨by kernel_rfl, by kernel_rfl⟩
theorem t_112 : (tyq C.P 112 = some (false, 1)) ∧ (tz C.P 112 = some (.nilfn)) := ⟨by kernel_rfl, by kernel_rfl⟩
theorem t_113 : (tyq C.P 113 = some (false, 1)) ∧ (tz C.P 113 = some (.nilfn)) := ⟨by kernel_rfl, by kernel_rfl⟩
theorem t_114 : (tyq C.P 114 = some (false, 1)) ∧ (slq C.P 114 = some (116, 2, 16)) ∧ (tz C.P 114 = some (.nils)) := ⟨by kernel_rfl, by kernel_rfl, by kernel_rfl⟩
theorem t_115 : (tyq C.P 115 = some (true, 2)) ∧ (fq C.P 115 0 = some (0, false, 1)) ∧ (fq C.P 115 1 = some (1, false, 1)) ∧ (bq C.P 115 = some ([.int .i64 (0), .int .i64 (0)], [(0, 1), (1, 1)])) ∧ (feq C.P 115 = some [1, 1]) ∧ (tz C.P 115 = some (.agg [.int .i64 (0), .int .i64 (0)])) := ⟨by kernel_rfl, by kernel_rfl, by kernel_rfl, by kernel_rfl, by kernel_rfl, by kernel_rfl⟩
theorem t_116 : (tyq C.P 116 = some (true, 2)) ∧ (fq C.P 116 0 = some (0, false, 1)) ∧ (fq C.P 116 1 = some (1, false, 1)) ∧ (bq C.P 116 = some ([.int .i64 (0), .int .i64 (0)], [(0, 1), (1, 1)])) ∧ (feq C.P 116 = some [1, 1]) ∧ (tz C.P 116 = some (.agg [.int .i64 (0), .int .i64 (0)])) := ⟨by kernel_rfl, by kernel_rfl, by kernel_rfl, by kernel_rfl, by kernel_rfl, by kernel_rfl⟩
theorem t_117 : (tyq C.P 117 = some (false, 1)) ∧ (inq C.P 117 = some .u32) ∧ (tz C.P 117 = some (.int .u32 (0))) := ⟨by kernel_rfl, by kernel_rfl, by kernel_rfl⟩
theorem t_118 : (tyq C.P 118 = some (false, 1)) ∧ (tz C.P 118 = some (.nilfn)) := ⟨by kernel_rfl, by kernel_rfl⟩
theorem t_119 : (tyq C.P 119 = some (false, 1)) ∧ (ptq C.P 119 = true) ∧ (tz C.P 119 = some (.nilp)) := ⟨by kernel_rfl, by kernel_rfl, by kernel_rfl⟩
theorem t_120 : (tyq C.P 120 = some (false, 1)) ∧ (tz C.P 120 = some (.nilfn)) := ⟨by kernel_rfl, by kernel_rfl⟩
theorem t_121 : (tyq C.P 121 = some (false, 1)) ∧ (inq C.P 121 = some .u64) ∧ (tz C.P 121 = some (.int .u64 (0))) := ⟨by kernel_rfl, by kernel_rfl, by kernel_rfl⟩
theorem t_122 : (tyq C.P 122 = some (false, 1)) ∧ (inq C.P 122 = some .u64) ∧ (tz C.P 122 = some (.int .u64 (0))) := ⟨by kernel_rfl, by kernel_rfl, by kernel_rfl⟩
theorem t_123 : (tyq C.P 123 = some (false, 1)) ∧ (tz C.P 123 = some (.nilfn)) := ⟨by kernel_rfl, by kernel_rfl⟩
theorem t_124 : (tyq C.P 124 = some (false, 1)) ∧ (tz C.P 124 = some (.any)) := ⟨by kernel_rfl, by kernel_rfl⟩
theorem t_125 : (tyq C.P 125 = some (false, 1)) ∧ (tz C.P 125 = some (.nilfn)) := ⟨by kernel_rfl, by kernel_rfl⟩
theorem t_126 : (tyq C.P 126 = some (false, 1)) ∧ (tz C.P 126 = some (.any)) := ⟨by kernel_rfl, by kernel_rfl⟩
theorem t_127 : (tyq C.P 127 = some (false, 1)) ∧ (tz C.P 127 = some (.nilmap)) := ⟨by kernel_rfl, by kernel_rfl⟩
theorem t_128 : (tyq C.P 128 = some (false, 1)) ∧ (slq C.P 128 = some (127, 1, 8)) ∧ (tz C.P 128 = some (.nils)) := ⟨by kernel_rfl, by kernel_rfl, by kernel_rfl⟩
theorem t_129 : (tyq C.P 129 = some (false, 1)) ∧ (tz C.P 129 = some (.nilfn)) := ⟨by kernel_rfl, by kernel_rfl⟩
theorem t_130 : (tyq C.P 130 = some (false, 1)) ∧ (tz C.P 130 = some (.any)) := ⟨by kernel_rfl, by kernel_rfl⟩
theorem t_131 : (tyq C.P 131 = some (false, 1)) ∧ (tz C.P 131 = some (.nilfn)) := ⟨by kernel_rfl, by kernel_rfl⟩
theorem t_132 : (tyq C.P 132 = some (false, 1)) ∧ (slq C.P 132 = some (138, 3, 6)) ∧ (tz C.P 132 = some (.nils)) := ⟨by kernel_rfl, by kernel_rfl, by kernel_rfl⟩
theorem t_133 : (tyq C.P 133 = some (false, 1)) ∧ (slq C.P 133 = some (141, 3, 12)) ∧ (tz C.P 133 = some (.nils)) := ⟨by kernel_rfl, by kernel_rfl, by kernel_rfl⟩
theorem t_134 : (tyq C.P 134 = some (true, 3)) ∧ (fq C.P 134 0 = some (0, false, 1)) ∧ (fq C.P 134 1 = some (1, false, 1)) ∧ (fq C.P 134 2 = some (2, false, 1)) ∧ (bq C.P 134 = some ([.nils, .nils, .int .i64 (0)], [(0, 1), (1, 1), (2, 1)])) ∧ (feq C.P 134 = some [0, 0, 1]) ∧ (tz C.P 134 = some (.agg [.nils, .nils, .int .i64 (0)])) := ⟨by kernel_rfl, by kernel_rfl, by kernel_rfl, by kernel_rfl, by kernel_rfl, by kernel_rfl, by kernel_rfl⟩
theorem t_135 : (tyq C.P 135 = some (true, 3)) ∧ (fq C.P 135 0 = some (0, false, 1)) ∧ (fq C.P 135 1 = some (1, false, 1)) ∧ (fq C.P 135 2 = some (2, false, 1)) ∧ (bq C.P 135 = some ([.nils, .nils, .int .i64 (0)], [(0, 1), (1, 1), (2, 1)])) ∧ (feq C.P 135 = some [0, 0, 1]) ∧ (tz C.P 135 = some (.agg [.nils, .nils, .int .i64 (0)])) := ⟨by kernel_rfl, by kernel_rfl, by kernel_rfl, by kernel_rfl, by kernel_rfl, by kernel_rfl, by kernel_rfl⟩
theorem t_136 : (tyq C.P 136 = some (false, 1)) ∧ (inq C.P 136 = some .u16) ∧ (tz C.P 136 = some (.int .u16 (0))) := ⟨by kernel_rfl, by kernel_rfl, by kernel_rfl⟩
theorem t_137 : (tyq C.P 137 = some (true, 3)) ∧ (fq C.P 137 0 = some (0, false, 1)) ∧ (fq C.P 137 1 = some (1, false, 1)) ∧ (fq C.P 137 2 = some (2, false, 1)) ∧ (bq C.P 137 = some ([.int .u16 (0), .int .u16 (0), .int .u16 (0)], [(0, 1), (1, 1), (2, 1)])) ∧ (feq C.P 137 = some [1, 1, 1]) ∧ (tz C.P 137 = some (.agg [.int .u16 (0), .int .u16 (0), .int .u16 (0)])) := ⟨by kernel_rfl, by kernel_rfl, by kernel_rfl, by kernel_rfl, by kernel_rfl, by kernel_rfl, by kernel_rfl⟩
theorem t_138 : (tyq C.P 138 = some (true, 3)) ∧ (fq C.P 138 0 = some (0, false, 1)) ∧ (fq C.P 138 1 = some (1, false, 1)) ∧ (fq C.P 138 2 = some (2, false, 1)) ∧ (bq C.P 138 = some ([.int .u16 (0), .int .u16 (0), .int .u16 (0)], [(0, 1), (1, 1), (2, 1)])) ∧ (feq C.P 138 = some [1, 1, 1]) ∧ (tz C.P 138 = some (.agg [.int .u16 (0), .int .u16 (0), .int .u16 (0)])) := ⟨by kernel_rfl, by kernel_rfl, by kernel_rfl, by kernel_rfl, by kernel_rfl, by kernel_rfl, by kernel_rfl⟩
theorem t_139 : (tyq C.P 139 = some (false, 1)) ∧ (tz C.P 139 = some (.nilfn)) := ⟨by kernel_rfl, by kernel_rfl⟩
theorem t_140 : (tyq C.P 140 = some (true, 3)) ∧ (fq C.P 140 0 = some (0, false, 1)) ∧ (fq C.P 140 1 = some (1, false, 1)) ∧ (fq C.P 140 2 = some (2, false, 1)) ∧ (bq C.P 140 = some ([.int .u32 (0), .int .u32 (0), .int .u32 (0)], [(0, 1), (1, 1), (2, 1)])) ∧ (feq C.P 140 = some [1, 1, 1]) ∧ (tz C.P 140 = some (.agg [.int .u32 (0), .int .u32 (0), .int .u32 (0)])) := ⟨by kernel_rfl, by kernel_rfl, by kernel_rfl, by kernel_rfl, by kernel_rfl, by kernel_rfl, by kernel_rfl⟩
theorem t_141 : (tyq C.P 141 = some (true, 3)) ∧ (fq C.P 141 0 = some (0, false, 1)) ∧ (fq C.P 141 1 = some (1, false, 1)) ∧ (fq C.P 141 2 = some (2, false, 1)) ∧ (bq C.P 141 = some ([.int .u32 (0), .int .u32 (0), .int .u32 (0)], [(0, 1), (1, 1), (2, 1)])) ∧ (feq C.P 141 = some [1, 1, 1]) ∧ (tz C.P 141 = some (.agg [.int .u32 (0), .int .u32 (0), .int .u32 (0)])) := ⟨by kernel_rfl, by kernel_rfl, by kernel_rfl, by kernel_rfl, by kernel_rfl, by kernel_rfl, by kernel_rfl⟩
theorem t_142 : (tyq C.P 142 = some (false, 1)) ∧ (tz C.P 142 = some (.nilfn)) := ⟨by kernel_rfl, by kernel_rfl⟩
theorem t_143 : (tyq C.P 143 = some (false, 1)) ∧ (tz C.P 143 = some (.nilfn)) := ⟨by kernel_rfl, by kernel_rfl⟩
theorem t_144 : (tyq C.P 144 = some (false, 1)) ∧ (tz C.P 144 = some (.nilfn)) := ⟨by kernel_rfl, by kernel_rfl⟩
theorem t_145 : (tyq C.P 145 = some (true, 1)) ∧ (fq C.P 145 0 = some (0, false, 1)) ∧ (bq C.P 145 = some ([.bool false], [(0, 1)])) ∧ (feq C.P 145 = some [2]) ∧ (tz C.P 145 = some (.agg [.bool false])) := ⟨by kernel_rfl, by kernel_rfl, by kernel_rfl, by kernel_rfl, by kernel_rfl⟩
theorem t_146 : (tyq C.P 146 = some (true, 1)) ∧ (fq C.P 146 0 = some (0, false, 1)) ∧ (bq C.P 146 = some ([.bool false], [(0, 1)])) ∧ (feq C.P 146 = some [2]) ∧ (tz C.P 146 = some (.agg [.bool false])) := ⟨by kernel_rfl, by kernel_rfl, by kernel_rfl, by kernel_rfl, by kernel_rfl⟩
theorem t_147 : (tyq C.P 147 = some (true, 2)) ∧ (fq C.P 147 0 = some (0, false, 1)) ∧ (fq C.P 147 1 = some (1, false, 1)) ∧ (bq C.P 147 = some ([.nils, .nils], [(0, 1), (1, 1)])) ∧ (feq C.P 147 = some [0, 0]) ∧ (tz C.P 147 = some (.agg [.nils, .nils])) := ⟨by kernel_rfl, by kernel_rfl, by kernel_rfl, by kernel_rfl, by kernel_rfl, by kernel_rfl⟩
theorem t_148 : (tyq C.P 148 = some (true, 2)) ∧ (fq C.P 148 0 = some (0, false, 1)) ∧ (fq C.P 148 1 = some (1, false, 1)) ∧ (bq C.P 148 = some ([.nils, .nils], [(0, 1), (1, 1)])) ∧ (feq C.P 148 = some [0, 0]) ∧ (tz C.P 148 = some (.agg [.nils, .nils])) := ⟨by kernel_rfl, by kernel_rfl, by kernel_rfl, by kernel_rfl, by kernel_rfl, by kernel_rfl⟩
theorem t_149 : (tyq C.P 149 = some (true, 3)) ∧ (fq C.P 149 0 = some (0, true, 1)) ∧ (fq C.P 149 1 = some (1, true, 2)) ∧ (bq C.P 149 = some ([.bool false, .nils, .nils], [(0, 1), (1, 2)])) ∧ (feq C.P 149 = some [0, 0]) ∧ (tz C.P 149 = some (.agg [.bool false, .nils, .nils])) := ⟨by kernel_rfl, by kernel_rfl, by kernel_rfl, by kernel_rfl, by kernel_rfl, by kernel_rfl⟩
theorem t_150 : (tyq C.P 150 = some (true, 3)) ∧ (fq C.P 150 0 = some (0, true, 1)) ∧ (fq C.P 150 1 = some (1, true, 2)) ∧ (bq C.P 150 = some ([.bool false, .nils, .nils], [(0, 1), (1, 2)])) ∧ (feq C.P 150 = some [0, 0]) ∧ (tz C.P 150 = some (.agg [.bool false, .nils, .nils])) := ⟨by kernel_rfl, by kernel_rfl, by kernel_rfl, by kernel_rfl, by kernel_rfl, by kernel_rfl⟩
theorem t_151 : (tyq C.P 151 = some (false, 1)) ∧ (tz C.P 151 = some (.nilfn)) := ⟨by kernel_rfl, by kernel_rfl⟩
theorem t_152 : (tyq C.P 152 = some (false, 1)) ∧ (ptq C.P 152 = true) ∧ (tz C.P 152 = some (.nilp)) := ⟨by kernel_rfl, by kernel_rfl, by kernel_rfl⟩
theorem t_153 : (tyq C.P 153 = some (false, 1)) ∧ (ptq C.P 153 = true) ∧ (tz C.P 153 = some (.nilp)) := ⟨by kernel_rfl, by kernel_rfl, by kernel_rfl⟩
theorem t_154 : (tyq C.P 154 = some (false, 1)) ∧ (tz C.P 154 = some (.any)) := ⟨by kernel_rfl, by kernel_rfl⟩
theorem t_155 : (tyq C.P 155 = some (false, 1)) ∧ (tz C.P 155 = some (.nilfn)) := ⟨by kernel_rfl, by kernel_rfl⟩
theorem t_156 : (tyq C.P 156 = some (false, 1)) ∧ (tz C.P 156 = some (.nilfn)) := ⟨by kernel_rfl, by kernel_rfl⟩
theorem t_157 : (tyq C.P 157 = some (false, 1)) ∧ (tz C.P 157 = some (.nilfn)) := ⟨by kernel_rfl, by kernel_rfl⟩
theorem t_158 : (tyq C.P 158 = some (false, 1)) ∧ (tz C.P 158 = some (.any)) := ⟨by kernel_rfl, by kernel_rfl⟩
theorem t_159 : (tyq C.P 159 = some (false, 1)) ∧ (tz C.P 159 = some (.nilfn)) := ⟨by kernel_rfl, by kernel_rfl⟩
theorem t_160 : (tyq C.P 160 = some (false, 1)) ∧ (tz C.P 160 = some (.nilfn)) := ⟨by kernel_rfl, by kernel_rfl⟩
theorem t_161 : (tyq C.P 161 = some (false, 1)) ∧ (tz C.P 161 = some (.any)) := ⟨by kernel_rfl, by kernel_rfl⟩
theorem t_162 : (tyq C.P 162 = some (false, 1)) ∧ (tz C.P 162 = some (.nilfn)) := ⟨by kernel_rfl, by kernel_rfl⟩
theorem t_163 : (tyq C.P 163 = some (false, 1)) ∧ (tz C.P 163 = some (.any)) := ⟨by kernel_rfl, by kernel_rfl⟩
theorem t_164 : (tyq C.P 164 = some (false, 1)) ∧ (tz C.P 164 = some (.nilfn)) := ⟨by kernel_rfl, by kernel_rfl⟩
theorem t_165 : (tyq C.P 165 = some (false, 1)) ∧ (tz C.P 165 = some (.nilfn)) := ⟨by kernel_rfl, by kernel_rfl⟩
theorem t_166 : (tyq C.P 166 = some (false, 1)) ∧ (tz C.P 166 = some (.nilfn)) := ⟨by kernel_rfl, by kernel_rfl⟩
theorem t_167 : (tyq C.P 167 = some (false, 1)) ∧ (ifq C.P 167 = true) ∧ (tz C.P 167 = some (.niliface)) := ⟨by kernel_rfl, by kernel_rfl, by kernel_rfl⟩
theorem t_168 : (tyq C.P 168 = some (false, 1)) ∧ (ifq C.P 168 = true) ∧ (tz C.P 168 = some (.niliface)) := ⟨by kernel_rfl, by kernel_rfl, by kernel_rfl⟩
theorem t_169 : (tyq C.P 169 = some (false, 1)) ∧ (ptq C.P 169 = true) ∧ (tz C.P 169 = some (.nilp)) := ⟨by kernel_rfl, by kernel_rfl, by kernel_rfl⟩
theorem t_170 : (tyq C.P 170 = some (true, 4)) ∧ (fq C.P 170 0 = some (0, false, 1)) ∧ (fq C.P 170 1 = some (1, false, 1)) ∧ (fq C.P 170 2 = some (2, false, 1)) ∧ (fq C.P 170 3 = some (3, false, 1)) ∧ (bq C.P 170 = some ([.nilp, .nilp, .nilp, .str []], [(0, 1), (1, 1), (2, 1), (3, 1)])) ∧ (tz C.P 170 = some (.agg [.nilp, .nilp, .nilp, .str []])) := ⟨by kernel_rfl, by kernel_rfl, by kernel_rfl, by kernel_rfl, by kernel_rfl, by kernel_rfl, by kernel_rfl⟩
theorem t_171 : (tyq C.P 171 = some (true, 4)) ∧ (fq C.P 171 0 = some (0, false, 1)) ∧ (fq C.P 171 1 = some (1, false, 1)) ∧ (fq C.P 171 2 = some (2, false, 1)) ∧ (fq C.P 171 3 = some (3, false, 1)) ∧ (bq C.P 171 = some ([.nilp, .nilp, .nilp, .str []], [(0, 1), (1, 1), (2, 1), (3, 1)])) ∧ (tz C.P 171 = some (.agg [.nilp, .nilp, .nilp, .str []])) := ⟨by kernel_rfl, by kernel_rfl, by kernel_rfl, by kernel_rfl, by kernel_rfl, by kernel_rfl, by kernel_rfl⟩
theorem t_172 : (tyq C.P 172 = some (true, 0)) ∧ (aq C.P 172 = some (0, 16)) ∧ (tz C.P 172 = some (.agg [])) := ⟨by kernel_rfl, by kernel_rfl, by kernel_rfl⟩
theorem t_173 : (tyq C.P 173 = some (true, 0)) ∧ (fq C.P 173 0 = some (0, true, 0)) ∧ (bq C.P 173 = some ([], [(0, 0)])) ∧ (tz C.P 173 = some (.agg [])) := ⟨by kernel_rfl, by kernel_rfl, by kernel_rfl, by kernel_rfl⟩
theorem t_174 : (tyq C.P 174 = some (true, 0)) ∧ (fq C.P 174 0 = some (0, true, 0)) ∧ (bq C.P 174 = some ([], [(0, 0)])) ∧ (tz C.P 174 = some (.agg [])) := ⟨by kernel_rfl, by kernel_rfl, by kernel_rfl, by kernel_rfl⟩
theorem t_175 : (tyq C.P 175 = some (false, 1)) ∧ (inq C.P 175 = some .u8) ∧ (tz C.P 175 = some (.int .u8 (0))) := ⟨by kernel_rfl, by kernel_rfl, by kernel_rfl⟩
theorem t_176 : (tyq C.P 176 = some (false, 1)) ∧ (inq C.P 176 = some .u8) ∧ (tz C.P 176 = some (.int .u8 (0))) := ⟨by kernel_rfl, by kernel_rfl, by kernel_rfl⟩
theorem t_177 : (tyq C.P 177 = some (false, 1)) ∧ (tz C.P 177 = some (.nilfn)) := ⟨by kernel_rfl, by kernel_rfl⟩
theorem t_178 : (tyq C.P 178 = some (false, 1)) ∧ (ptq C.P 178 = true) ∧ (tz C.P 178 = some (.nilp)) := ⟨by kernel_rfl, by kernel_rfl, by kernel_rfl⟩
theorem t_179 : (tyq C.P 179 = some (false, 1)) ∧ (inq C.P 179 = some .i32) ∧ (tz C.P 179 = some (.int .i32 (0))) := ⟨by kernel_rfl, by kernel_rfl, by kernel_rfl⟩
theorem t_180 : (tyq C.P 180 = some (false, 1)) ∧ (inq C.P 180 = some .i32) ∧ (tz C.P 180 = some (.int .i32 (0))) := ⟨by kernel_rfl, by kernel_rfl, by kernel_rfl⟩
theorem t_181 : (tyq C.P 181 = some (true, 11)) ∧ (fq C.P 181 0 = some (0, false, 1)) ∧ (fq C.P 181 1 = some (1, false, 1)) ∧ (fq C.P 181 2 = some (2, false, 1)) ∧ (fq C.P 181 3 = some (3, false, 1)) ∧ (fq C.P 181 4 = some (4, false, 1)) ∧ (fq C.P 181 5 = some (5, false, 1)) ∧ (fq C.P 181 6 = some (6, false, 1)) ∧ (fq C.P 181 7 = some (7, false, 1)) ∧ (fq C.P 181 8 = some (8, false, 1)) ∧ (fq C.P 181 9 = some (9, false, 1)) ∧ (fq C.P 181 10 = some (10, false, 1)) ∧ (bq C.P 181 = some ([.int .u64 (0), .int .u64 (0), .int .u32 (0), .int .u8 (0), .int .u8 (0), .int .u8 (0), .int .u8 (0), .nilfn, .nilp, .int .i32 (0), .int .i32 (0)], [(0, 1), (1, 1), (2, 1), (3, 1), (4, 1), (5, 1), (6, 1), (7, 1), (8, 1), (9, 1), (10, 1)])) ∧ (tz C.P 181 = some (.agg [.int .u64 (0), .int .u64 (0), .int .u32 (0), .int .u8 (0), .int .u8 (0), .int .u8 (0), .int .u8 (0), .nilfn, .nilp, .int .i32 (0), .int .i32 (0)])) := ⟨by kernel_rfl, by kernel_rfl, by kernel_rfl, by kernel_rfl, by kernel_rfl, by kernel_rfl, by kernel_rfl, by kernel_rfl, by kernel_rfl, by kernel_rfl, by kernel_rfl, by kernel_rfl, by kernel_rfl, by kernel_rfl⟩
theorem t_182 : (tyq C.P 182 = some (true, 11)) ∧ (fq C.P 182 0 = some (0, false, 1)) ∧ (fq C.P 182 1 = some (1, false, 1)) ∧ (fq C.P 182 2 = some (2, false, 1)) ∧ (fq C.P 182 3 = some (3, false, 1)) ∧ (fq C.P 182 4 = some (4, false, 1)) ∧ (fq C.P 182 5 = some (5, false, 1)) ∧ (fq C.P 182 6 = some (6, false, 1)) ∧ (fq C.P 182 7 = some (7, false, 1)) ∧ (fq C.P 182 8 = some (8, false, 1)) ∧ (fq C.P 182 9 = some (9, false, 1)) ∧ (fq C.P 182 10 = some (10, false, 1)) ∧ (bq C.P 182 = some ([.int .u64 (0), .int .u64 (0), .int .u32 (0), .int .u8 (0), .int .u8 (0), .int .u8 (0), .int .u8 (0), .nilfn, .nilp, .int .i32 (0), .int .i32 (0)], [(0, 1), (1, 1), (2, 1), (3, 1), (4, 1), (5, 1), (6, 1), (7, 1), (8, 1), (9, 1), (10, 1)])) ∧ (tz C.P 182 = some (.agg [.int .u64 (0), .int .u64 (0), .int .u32 (0), .int .u8 (0), .int .u8 (0), .int .u8 (0), .int .u8 (0), .nilfn, .nilp, .int .i32 (0), .int .i32 (0)])) := ⟨by kernel_rfl, by kernel_rfl, by kernel_rfl, by kernel_rfl, by kernel_rfl, by kernel_rfl, by kernel_rfl, by kernel_rfl, by kernel_rfl, by kernel_rfl, by kernel_rfl, by kernel_rfl, by kernel_rfl, by kernel_rfl⟩
theorem t_183 : (tyq C.P 183 = some (true, 1)) ∧ (fq C.P 183 0 = some (0, false, 1)) ∧ (bq C.P 183 = some ([.str []], [(0, 1)])) ∧ (feq C.P 183 = some [3]) ∧ (tz C.P 183 = some (.agg [.str []])) := ⟨by kernel_rfl, by kernel_rfl, by kernel_rfl, by kernel_rfl, by kernel_rfl⟩
theorem t_184 : (tyq C.P 184 = some (true, 1)) ∧ (fq C.P 184 0 = some (0, false, 1)) ∧ (bq C.P 184 = some ([.str []], [(0, 1)])) ∧ (feq C.P 184 = some [3]) ∧ (tz C.P 184 = some (.agg [.str []])) := ⟨by kernel_rfl, by kernel_rfl, by kernel_rfl, by kernel_rfl, by kernel_rfl⟩
theorem t_185 : (tyq C.P 185 = some (false, 1)) ∧ (tz C.P 185 = some (.nilp)) := ⟨by kernel_rfl, by kernel_rfl⟩
theorem ok_2 : okF C.P 2 = true := by kernel_rfl
theorem ok_3 : okF C.P 3 = true := by kernel_rfl
theorem ok_4 : okF C.P 4 = true := by kernel_rfl
theorem ok_5 : okF C.P 5 = true := by kernel_rfl
theorem ok_6 : okF C.P 6 = true := by kernel_rfl
theorem ok_7 : okF C.P 7 = true := by kernel_rfl
theorem ok_8 : okF C.P 8 = true := by kernel_rfl
theorem ok_9 : okF C.P 9 = true := by kernel_rfl
theorem ok_10 : okF C.P 10 = true := by kernel_rfl
theorem ok_11 : okF C.P 11 = true := by kernel_rfl
theorem ok_12 : okF C.P 12 = true := by kernel_rfl
theorem ok_13 : okF C.P 13 = true := by kernel_rfl
theorem ok_14 : okF C.P 14 = true := by kernel_rfl
theorem ok_15 : okF C.P 15 = true := by kernel_rfl
theorem ok_16 : okF C.P 16 = true := by kernel_rfl
theorem ok_17 : okF C.P 17 = true := by kernel_rfl
theorem ok_18 : okF C.P 18 = true := by kernel_rfl
theorem ok_19 : okF C.P 19 = true := by kernel_rfl
theorem ok_20 : okF C.P 20 = true := by kernel_rfl
theorem ok_21 : okF C.P 21 = true := by kernel_rfl
theorem ok_22 : okF C.P 22 = true := by kernel_rfl
theorem ok_23 : okF C.P 23 = true := by kernel_rfl
theorem ok_24 : okF C.P 24 = true := by kernel_rfl
theorem ok_25 : okF C.P 25 = true := by kernel_rfl
theorem ok_26 : okF C.P 26 = true := by kernel_rfl
theorem ok_27 : okF C.P 27 = true := by kernel_rfl
theorem ok_28 : okF C.P 28 = true := by kernel_rfl
theorem ok_29 : okF C.P 29 = true := by kernel_rfl
theorem ok_30 : okF C.P 30 = true := by kernel_rfl
theorem ok_31 : okF C.P 31 = true := by kernel_rfl
theorem ok_32 : okF C.P 32 = true := by kernel_rfl
theorem ok_33 : okF C.P 33 = true := by kernel_rfl
theorem ok_34 : okF C.P 34 = true := by kernel_rfl
theorem ok_35 : okF C.P 35 = true := by kernel_rfl
theorem ok_36 : okF C.P 36 = true := by kernel_rfl
theorem ok_37 : okF C.P 37 = true := by kernel_rfl
theorem ok_38 : okF C.P 38 = true := by kernel_rfl
theorem ok_39 : okF C.P 39 = true := by kernel_rfl
theorem ok_40 : okF C.P 40 = true := by kernel_rfl
theorem ok_41 : okF C.P 41 = true := by kernel_rfl
theorem ok_42 : okF C.P 42 = true := by kernel_rfl
theorem ok_43 : okF C.P 43 = true := by kernel_rfl
theorem ok_44 : okF C.P 44 = true := by kernel_rfl
theorem ok_45 : okF C.P 45 = true := by kernel_rfl
theorem ok_46 : okF C.P 46 = true := by kernel_rfl
theorem ok_47 : okF C.P 47 = true := by kernel_rfl
theorem ok_48 : okF C.P 48 = true := by kernel_rfl
theorem ok_49 : okF C.P 49 = true := by kernel_rfl
theorem ok_50 : okF C.P 50 = true := by kernel_rfl
theorem ok_51 : okF C.P 51 = true := by kernel_rfl
theorem ok_52 : okF C.P 52 = true := by kernel_rfl
theorem ok_53 : okF C.P 53 = true := by kernel_rfl
theorem ok_54 : okF C.P 54 = true := by kernel_rfl
theorem ok_55 : okF C.P 55 = true := by kernel_rfl
theorem ok_56 : okF C.P 56 = true := by kernel_rfl
theorem ok_57 : okF C.P 57 = true := by kernel_rfl
theorem ok_58 : okF C.P 58 = true := by kernel_rfl
theorem ok_59 : okF C.P 59 = true := by kernel_rfl
theorem ok_60 : okF C.P 60 = true := by kernel_rfl
theorem ok_61 : okF C.P 61 = true := by kernel_rfl
theorem ok_62 : okF C.P 62 = true := by kernel_rfl
theorem ok_63 : okF C.P 63 = true := by kernel_rfl
theorem ok_64 : okF C.P 64 = true := by kernel_rfl
theorem ok_65 : okF C.P 65 = true := by kernel_rfl
theorem ok_66 : okF C.P 66 = true := by kernel_rfl
theorem ok_67 : okF C.P 67 = true := by kernel_rfl
theorem ok_68 : okF C.P 68 = true := by kernel_rfl
theorem ok_69 : okF C.P 69 = true := by kernel_rfl
theorem ok_70 : okF C.P 70 = true := by kernel_rfl
theorem ok_71 : okF C.P 71 = true := by kernel_rfl
theorem ok_72 : okF C.P 72 = true := by kernel_rfl
theorem ok_73 : okF C.P 73 = true := by kernel_rfl
theorem ok_74 : okF C.P 74 = true := by kernel_rfl
theorem ok_75 : okF C.P 75 = true := by kernel_rfl
theorem ok_76 : okF C.P 76 = true := by kernel_rfl
theorem ok_77 : okF C.P 77 = true := by kernel_rfl
theorem ok_78 : okF C.P 78 = true := by kernel_rfl
theorem ok_79 : okF C.P 79 = true := by kernel_rfl
theorem ok_80 : okF C.P 80 = true := by kernel_rfl
theorem ok_81 : okF C.P 81 = true := by kernel_rfl
theorem ok_82 : okF C.P 82 = true := by kernel_rfl
theorem ok_83 : okF C.P 83 = true := by kernel_rfl
theorem ok_84 : okF C.P 84 = true := by kernel_rfl
theorem ok_85 : okF C.P 85 = true := by kernel_rfl
theorem ok_86 : okF C.P 86 = true := by kernel_rfl
theorem ok_87 : okF C.P 87 = true := by kernel_rfl
theorem ok_88 : okF C.P 88 = true := by kernel_rfl
theorem ok_89 : okF C.P 89 = true := by kernel_rfl
theorem ok_90 : okF C.P 90 = true := by kernel_rfl
theorem ok_116 : okF C.P 116 = true := by kernel_rfl
/-- All of them. -/
theorem FA : type_of% (And.intro (And.intro (And.intro (And.intro (And.intro (And.intro (And.intro t_0 t_1) (And.intro t_2 (And.intro t_3 t_4))) (And.intro (And.intro t_5 (And.intro t_6 t_7)) (And.intro t_8 (And.intro t_9 t_10)))) (And.intro (And.intro (And.intro t_11 (And.intro t_12 t_13)) (And.intro t_14 (And.intro t_15 t_16))) (And.intro (And.intro t_17 (And.intro t_18 t_19)) (And.intro t_20 (And.intro t_21 t_22))))) (And.intro (And.intro (And.intro (And.intro t_23 t_24) (And.intro t_25 (And.intro t_26 t_27))) (And.intro (And.intro t_28 (And.intro t_29 t_30)) (And.intro t_31 (And.intro t_32 t_33)))) (And.intro (And.intro (And.intro t_34 (And.intro t_35 t_36)) (And.intro t_37 (And.intro t_38 t_39))) (And.intro (And.intro t_40 (And.intro t_41 t_42)) (And.intro t_43 (And.intro t_44 t_45)))))) (And.intro (And.intro (And.intro (And.intro (And.intro t_46 t_47) (And.intro t_48 (And.intro t_49 t_50))) (And.intro (And.intro t_51 (And.intro t_52 t_53)) (And.intro t_54 (And.intro t_55 t_56)))) (And.intro (And.intro (And.intro t_57 (And.intro t_58 t_59)) (And.intro t_60 (And.intro t_61 t_62))) (And.intro (And.intro t_63 (And.intro t_64 t_65)) (And.intro t_66 (And.intro t_67 t_68))))) (And.intro (And.intro (And.intro (And.intro t_69 (And.intro t_70 t_71)) (And.intro t_72 (And.intro t_73 t_74))) (And.intro (And.intro t_75 (And.intro t_76 t_77)) (And.intro t_78 (And.intro t_79 t_80)))) (And.intro (And.intro (And.intro t_81 (And.intro t_82 t_83)) (And.intro t_84 (And.intro t_85 t_86))) (And.intro (And.intro t_87 (And.intro t_88 t_89)) (And.intro t_90 (And.intro t_91 t_92))))))) (And.intro (And.intro (And.intro (And.intro (And.intro (And.intro t_93 t_94) (And.intro t_95 (And.intro t_96 t_97))) (And.intro (And.intro t_98 (And.intro t_99 t_100)) (And.intro t_101 (And.intro t_102 t_103)))) (And.intro (And.intro (And.intro t_104 (And.intro t_105 t_106)) (And.intro t_107 (And.intro t_108 t_109))) (And.intro (And.intro t_110 (And.intro t_111 t_112)) (And.intro t_113 (And.intro t_114 t_115))))) (And.intro (And.intro (And.intro (And.intro t_116 t_117) (And.intro t_118 (And.intro t_119 t_120))) (And.intro (And.intro t_121 (And.intro t_122 t_123)) (And.intro t_124 (And.intro t_125 t_126)))) (And.intro (And.intro (And.intro t_127 (And.intro t_128 t_129)) (And.intro t_130 (And.intro t_131 t_132))) (And.intro (And.intro t_133 (And.intro t_134 t_135)) (And.intro t_136 (And.intro t_137 t_138)))))) (And.intro (And.intro (And.intro (And.intro (And.intro t_139 t_140) (And.intro t_141 (And.intro t_142 t_143))) (And.intro (And.intro t_144 (And.intro t_145 t_146)) (And.intro t_147 (And.intro t_148 t_149)))) (And.intro (And.intro (And.intro t_150 (And.intro t_151 t_152)) (And.intro t_153 (And.intro t_154 t_155))) (And.intro (And.intro t_156 (And.intro t_157 t_158)) (And.intro t_159 (And.intro t_160 t_161))))) (And.intro (And.intro (And.intro (And.intro t_162 (And.intro t_163 t_164)) (And.intro t_165 (And.intro t_166 t_167))) (And.intro (And.intro t_168 (And.intro t_169 t_170)) (And.intro t_171 (And.intro t_172 t_173)))) (And.intro (And.intro (And.intro t_174 (And.intro t_175 t_176)) (And.intro t_177 (And.intro t_178 t_179))) (And.intro (And.intro t_180 (And.intro t_181 t_182)) (And.intro t_183 (And.intro t_184 t_185)))))))) := And.intro (And.intro (And.intro (And.intro (And.intro (And.intro (And.intro t_0 t_1) (And.intro t_2 (And.intro t_3 t_4))) (And.intro (And.intro t_5 (And.intro t_6 t_7)) (And.intro t_8 (And.intro t_9 t_10)))) (And.intro (And.intro (And.intro t_11 (And.intro t_12 t_13)) (And.intro t_14 (And.intro t_15 t_16))) (And.intro (And.intro t_17 (And.intro t_18 t_19)) (And.intro t_20 (And.intro t_21 t_22))))) (And.intro (And.intro (And.intro (And.intro t_23 t_24) (And.intro t_25 (And.intro t_26 t_27))) (And.intro (And.intro t_28 (And.intro t_29 t_30)) (And.intro t_31 (And.intro t_32 t_33)))) (And.intro (And.intro (And.intro t_34 (And.intro t_35 t_36)) (And.intro t_37 (And.intro t_38 t_39))) (And.intro (And.intro t_40 (And.intro t_41 t_42)) (And.intro t_43 (And.intro t_44 t_45)))))) (And.intro (And.intro (And.intro (And.intro (And.intro t_46 t_47) (And.intro t_48 (And.intro t_49 t_50))) (And.intro (And.intro t_51 (And.intro t_52 t_53)) (And.intro t_54 (And.intro t_55 t_56)))) (And.intro (And.intro (And.intro t_57 (And.intro t_58 t_59)) (And.intro t_60 (And.intro t_61 t_62))) (And.intro (And.intro t_63 (And.intro t_64 t_65)) (And.intro t_66 (And.intro t_67 t_68))))) (And.intro (And.intro (And.intro (And.intro t_69 (And.intro t_70 t_71)) (And.intro t_72 (And.intro t_73 t_74))) (And.intro (And.intro t_75 (And.intro t_76 t_77)) (And.intro t_78 (And.intro t_79 t_80)))) (And.intro (And.intro (And.intro t_81 (And.intro t_82 t_83)) (And.intro t_84 (And.intro t_85 t_86))) (And.intro (And.intro t_87 (And.intro t_88 t_89)) (And.intro t_90 (And.intro t_91 t_92))))))) (And.intro (And.intro (And.intro (And.intro (And.intro (And.intro t_93 t_94) (And.intro t_95 (And.intro t_96 t_97))) (And.intro (And.intro t_98 (And.intro t_99 t_100)) (And.intro t_101 (And.intro t_102 t_103)))) (And.intro (And.intro (And.intro t_104 (And.intro t_105 t_106)) (And.intro t_107 (And.intro t_108 t_109))) (And.intro (And.intro t_110 (And.intro t_111 t_112)) (And.intro t_113 (And.intro t_114 t_115))))) (And.intro (And.intro (And.intro (And.intro t_116 t_117) (And.intro t_118 (And.intro t_119 t_120))) (And.intro (And.intro t_121 (And.intro t_122 t_123)) (And.intro t_124 (And.intro t_125 t_126)))) (And.intro (And.intro (And.intro t_127 (And.intro t_128 t_129)) (And.intro t_130 (And.intro t_131 t_132))) (And.intro (And.intro t_133 (And.intro t_134 t_135)) (And.intro t_136 (And.intro t_137 t_138)))))) (And.intro (And.intro (And.intro (And.intro (And.intro t_139 t_140) (And.intro t_141 (And.intro t_142 t_143))) (And.intro (And.intro t_144 (And.intro t_145 t_146)) (And.intro t_147 (And.intro t_148 t_149)))) (And.intro (And.intro (And.intro t_150 (And.intro t_151 t_152)) (And.intro t_153 (And.intro t_154 t_155))) (And.intro (And.intro t_156 (And.intro t_157 t_158)) (And.intro t_159 (And.intro t_160 t_161))))) (And.intro (And.intro (And.intro (And.intro t_162 (And.intro t_163 t_164)) (And.intro t_165 (And.intro t_166 t_167))) (And.intro (And.intro t_168 (And.intro t_169 t_170)) (And.intro t_171 (And.intro t_172 t_173)))) (And.intro (And.intro (And.intro t_174 (And.intro t_175 t_176)) (And.intro t_177 (And.intro t_178 t_179))) (And.intro (And.intro t_180 (And.intro t_181 t_182)) (And.intro t_183 (And.intro t_184 t_185)))))))
end Go.LexSem
namespace Go.LexSem
open Go Go.V Go.Proofs Go.Shelf
def lays133_ren : Go.Shelf.Ren := ⟨fun | 133 => 88 | 128 => 90 | n => n, fun | 51 => 117 | 3 => 3 | 4 => 4 | 46 => 121 | 5 => 5 | 9 => 9 | n => n, fun | n => n⟩
theorem lays133 : Go.Proofs.Lays.n133 Tryd.prog lays133_ren := {
 mixed := by kernel_rfl
 f128 := Tryd.func90.trans (congrArg some (by kernel_rfl))
 f133 := Tryd.func88.trans (congrArg some (by kernel_rfl))
 t3 := Tryd.underlying3
 a3 := Tryd.isAgg3
 z3 := Tryd.sizeOf3
 v3 := Tryd.zeroValue3
 t4 := Tryd.underlying4
 a4 := Tryd.isAgg4
 z4 := Tryd.sizeOf4
 v4 := Tryd.zeroValue4
 t5 := Tryd.underlying5
 a5 := Tryd.isAgg5
 z5 := Tryd.sizeOf5
 v5 := Tryd.zeroValue5
 t9 := Tryd.underlying9
 a9 := Tryd.isAgg9
 z9 := Tryd.sizeOf9
 v9 := Tryd.zeroValue9
 t46 := Tryd.underlying121
 a46 := Tryd.isAgg121
 z46 := Tryd.sizeOf121
 v46 := Tryd.zeroValue121
 t51 := Tryd.underlying117
 a51 := Tryd.isAgg117
 z51 := Tryd.sizeOf117
 v51 := Tryd.zeroValue117 }
/-- bits.LeadingZeros32: "LeadingZeros32 returns the number of leading zero bits in x; the result is 32 for x == 0.": IT RETURNS '32 - Lib.bitLen x'; the world is as it was. ITS CALLEE bits.Len32 IS MET BY ITS OWN CONTRACT OFF THE SHELF (lay that first): entered in place it sends the kernel out of memory. (LAID: no walk: one application.) -/
def lays157_ren : Go.Shelf.Ren := ⟨fun | 157 => 42 | 229 => 52 | 199 => 53 | 261 => 59 | 311 => 67 | 312 => 68 | n => n, fun | 9 => 9 | 31 => 22 | 3 => 3 | 5 => 5 | 4 => 4 | 119 => 105 | 0 => 0 | 40 => 107 | 152 => 114 | 21 => 21 | 154 => 116 | 51 => 117 | 141 => 119 | 196 => 135 | 193 => 132 | 198 => 138 | 49 => 136 | 194 => 133 | 201 => 141 | 226 => 152 | 46 => 121 | 227 => 153 | n => n, fun | 0 => 0 | 6 => 1 | n => n⟩
theorem lays157 : Go.Proofs.Lays.n157 Tryd.prog lays157_ren := {
 mixed := by kernel_rfl
 f157 := Tryd.func42.trans (congrArg some (by kernel_rfl))
 f199 := Tryd.func53.trans (congrArg some (by kernel_rfl))
 f229 := Tryd.func52.trans (congrArg some (by kernel_rfl))
 f261 := Tryd.func59.trans (congrArg some (by kernel_rfl))
 f311 := Tryd.func67.trans (congrArg some (by kernel_rfl))
 f312 := Tryd.func68.trans (congrArg some (by kernel_rfl))
 t0 := Tryd.underlying0
 a0 := Tryd.isAgg0
 z0 := Tryd.sizeOf0
 v0 := Tryd.zeroValue0
 t3 := Tryd.underlying3
 a3 := Tryd.isAgg3
 z3 := Tryd.sizeOf3
 v3 := Tryd.zeroValue3
 t4 := Tryd.underlying4
 a4 := Tryd.isAgg4
 z4 := Tryd.sizeOf4
 v4 := Tryd.zeroValue4
 t5 := Tryd.underlying5
 a5 := Tryd.isAgg5
 z5 := Tryd.sizeOf5
 v5 := Tryd.zeroValue5
 t9 := Tryd.underlying9
 a9 := Tryd.isAgg9
 z9 := Tryd.sizeOf9
 v9 := Tryd.zeroValue9
 t21 := Tryd.underlying21
 a21 := Tryd.isAgg21
 z21 := Tryd.sizeOf21
 v21 := Tryd.zeroValue21
 t31 := Tryd.underlying22
 a31 := Tryd.isAgg22
 z31 := Tryd.sizeOf22
 v31 := Tryd.zeroValue22
 t40 := Tryd.underlying107
 a40 := Tryd.isAgg107
 z40 := Tryd.sizeOf107
 v40 := Tryd.zeroValue107
 t46 := Tryd.underlying121
 a46 := Tryd.isAgg121
 z46 := Tryd.sizeOf121
 v46 := Tryd.zeroValue121
 t49 := Tryd.underlying136
 a49 := Tryd.isAgg136
 z49 := Tryd.sizeOf136
 v49 := Tryd.zeroValue136
 t51 := Tryd.underlying117
 a51 := Tryd.isAgg117
 z51 := Tryd.sizeOf117
 v51 := Tryd.zeroValue117
 t119 := Tryd.underlying105
 a119 := Tryd.isAgg105
 z119 := Tryd.sizeOf105
 t141 := Tryd.underlying119
 a141 := Tryd.isAgg119
 z141 := Tryd.sizeOf119
 v141 := Tryd.zeroValue119
 t152 := Tryd.underlying114
 a152 := Tryd.isAgg114
 z152 := Tryd.sizeOf114
 v152 := Tryd.zeroValue114
 t154 := Tryd.underlying116
 a154 := Tryd.isAgg116
 z154 := Tryd.sizeOf116
 v154 := Tryd.zeroValue116
 t193 := Tryd.underlying132
 a193 := Tryd.isAgg132
 z193 := Tryd.sizeOf132
 v193 := Tryd.zeroValue132
 t194 := Tryd.underlying133
 a194 := Tryd.isAgg133
 z194 := Tryd.sizeOf133
 v194 := Tryd.zeroValue133
 t196 := Tryd.underlying135
 a196 := Tryd.isAgg135
 z196 := Tryd.sizeOf135
 v196 := Tryd.zeroValue135
 t198 := Tryd.underlying138
 a198 := Tryd.isAgg138
 z198 := Tryd.sizeOf138
 v198 := Tryd.zeroValue138
 t201 := Tryd.underlying141
 a201 := Tryd.isAgg141
 z201 := Tryd.sizeOf141
 v201 := Tryd.zeroValue141
 t226 := Tryd.underlying152
 a226 := Tryd.isAgg152
 z226 := Tryd.sizeOf152
 v226 := Tryd.zeroValue152
 t227 := Tryd.underlying153
 a227 := Tryd.isAgg153
 z227 := Tryd.sizeOf153
 v227 := Tryd.zeroValue153
 g0 := by kernel_rfl
 g6 := by kernel_rfl }
end Go.LexSem
