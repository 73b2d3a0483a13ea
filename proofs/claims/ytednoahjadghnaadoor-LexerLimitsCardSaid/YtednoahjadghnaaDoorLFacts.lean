/-
  What the walk asks of the program's types (printed by wip/tools/Facts.lean).
-/
import Derived.Test.YtednoahjadghnaaDoorVLib
import Derived.Test.YtednoahjadghnaaDoorProg
namespace Go.LexSem
open Go Go.V Go.Proofs
noncomputable def C : Ctx := ⟨Tryd.prog, fun g => if g = 0 then some asciiTab else none⟩
theorem mo : C.P.follows .mixedOrders = true := by kernel_rfl
theorem tyq_0 : tyq C.P 0 = some (false, 1) := by kernel_rfl
theorem tz_0 : tz C.P 0 = some (.any) := by kernel_rfl
theorem tyq_1 : tyq C.P 1 = some (false, 1) := by kernel_rfl
theorem tz_1 : tz C.P 1 = some (.nilfn) := by kernel_rfl
theorem tyq_2 : tyq C.P 2 = some (false, 1) := by kernel_rfl
theorem inq_2 : inq C.P 2 = some .i64 := by kernel_rfl
theorem tz_2 : tz C.P 2 = some (.int .i64 (0)) := by kernel_rfl
theorem tyq_3 : tyq C.P 3 = some (false, 1) := by kernel_rfl
theorem inq_3 : inq C.P 3 = some .i64 := by kernel_rfl
theorem tz_3 : tz C.P 3 = some (.int .i64 (0)) := by kernel_rfl
theorem tyq_4 : tyq C.P 4 = some (false, 1) := by kernel_rfl
theorem bool_4 : C.P.underlying 4 = some .bool := by kernel_rfl
theorem tz_4 : tz C.P 4 = some (.bool false) := by kernel_rfl
theorem tyq_5 : tyq C.P 5 = some (false, 1) := by kernel_rfl
theorem inq_5 : inq C.P 5 = some .u8 := by kernel_rfl
theorem tz_5 : tz C.P 5 = some (.int .u8 (0)) := by kernel_rfl
theorem tyq_6 : tyq C.P 6 = some (false, 1) := by kernel_rfl
theorem inq_6 : inq C.P 6 = some .u8 := by kernel_rfl
theorem tz_6 : tz C.P 6 = some (.int .u8 (0)) := by kernel_rfl
theorem tyq_7 : tyq C.P 7 = some (true, 4) := by kernel_rfl
theorem fq_7_0 : fq C.P 7 0 = some (0, false, 1) := by kernel_rfl
theorem fq_7_1 : fq C.P 7 1 = some (1, false, 1) := by kernel_rfl
theorem fq_7_2 : fq C.P 7 2 = some (2, false, 1) := by kernel_rfl
theorem fq_7_3 : fq C.P 7 3 = some (3, false, 1) := by kernel_rfl
theorem bq_7 : bq C.P 7 = some ([.int .i64 (0), .int .i64 (0), .bool false, .int .u8 (0)], [(0, 1), (1, 1), (2, 1), (3, 1)]) := by kernel_rfl
theorem feq_7 : feq C.P 7 = some [1, 1, 2, 1] := by kernel_rfl
theorem tz_7 : tz C.P 7 = some (.agg [.int .i64 (0), .int .i64 (0), .bool false, .int .u8 (0)]) := by kernel_rfl
theorem tyq_8 : tyq C.P 8 = some (true, 4) := by kernel_rfl
theorem fq_8_0 : fq C.P 8 0 = some (0, false, 1) := by kernel_rfl
theorem fq_8_1 : fq C.P 8 1 = some (1, false, 1) := by kernel_rfl
theorem fq_8_2 : fq C.P 8 2 = some (2, false, 1) := by kernel_rfl
theorem fq_8_3 : fq C.P 8 3 = some (3, false, 1) := by kernel_rfl
theorem bq_8 : bq C.P 8 = some ([.int .i64 (0), .int .i64 (0), .bool false, .int .u8 (0)], [(0, 1), (1, 1), (2, 1), (3, 1)]) := by kernel_rfl
theorem feq_8 : feq C.P 8 = some [1, 1, 2, 1] := by kernel_rfl
theorem tz_8 : tz C.P 8 = some (.agg [.int .i64 (0), .int .i64 (0), .bool false, .int .u8 (0)]) := by kernel_rfl
theorem tyq_9 : tyq C.P 9 = some (false, 1) := by kernel_rfl
theorem str_9 : C.P.underlying 9 = some .string := by kernel_rfl
theorem tz_9 : tz C.P 9 = some (.str []) := by kernel_rfl
theorem tyq_10 : tyq C.P 10 = some (false, 1) := by kernel_rfl
theorem str_10 : C.P.underlying 10 = some .string := by kernel_rfl
theorem tz_10 : tz C.P 10 = some (.str []) := by kernel_rfl
theorem tyq_11 : tyq C.P 11 = some (false, 1) := by kernel_rfl
theorem str_11 : C.P.underlying 11 = some .string := by kernel_rfl
theorem tz_11 : tz C.P 11 = some (.str []) := by kernel_rfl
theorem tyq_12 : tyq C.P 12 = some (false, 1) := by kernel_rfl
theorem inq_12 : inq C.P 12 = some .u64 := by kernel_rfl
theorem tz_12 : tz C.P 12 = some (.int .u64 (0)) := by kernel_rfl
theorem tyq_13 : tyq C.P 13 = some (true, 2) := by kernel_rfl
theorem fq_13_0 : fq C.P 13 0 = some (0, false, 1) := by kernel_rfl
theorem fq_13_1 : fq C.P 13 1 = some (1, false, 1) := by kernel_rfl
theorem bq_13 : bq C.P 13 = some ([.str [], .int .u64 (0)], [(0, 1), (1, 1)]) := by kernel_rfl
theorem tz_13 : tz C.P 13 = some (.agg [.str [], .int .u64 (0)]) := by kernel_rfl
theorem tyq_14 : tyq C.P 14 = some (true, 2) := by kernel_rfl
theorem fq_14_0 : fq C.P 14 0 = some (0, false, 1) := by kernel_rfl
theorem fq_14_1 : fq C.P 14 1 = some (1, false, 1) := by kernel_rfl
theorem bq_14 : bq C.P 14 = some ([.str [], .int .u64 (0)], [(0, 1), (1, 1)]) := by kernel_rfl
theorem tz_14 : tz C.P 14 = some (.agg [.str [], .int .u64 (0)]) := by kernel_rfl
theorem tyq_15 : tyq C.P 15 = some (false, 1) := by kernel_rfl
theorem ptq_15 : ptq C.P 15 = true := by kernel_rfl
theorem tz_15 : tz C.P 15 = some (.nilp) := by kernel_rfl
theorem tyq_16 : tyq C.P 16 = some (false, 1) := by kernel_rfl
theorem ptq_16 : ptq C.P 16 = true := by kernel_rfl
theorem tz_16 : tz C.P 16 = some (.nilp) := by kernel_rfl
theorem tyq_17 : tyq C.P 17 = some (false, 1) := by kernel_rfl
theorem ptq_17 : ptq C.P 17 = true := by kernel_rfl
theorem tz_17 : tz C.P 17 = some (.nilp) := by kernel_rfl
theorem tyq_18 : tyq C.P 18 = some (true, 1) := by kernel_rfl
theorem fq_18_0 : fq C.P 18 0 = some (0, false, 1) := by kernel_rfl
theorem bq_18 : bq C.P 18 = some ([.nilp], [(0, 1)]) := by kernel_rfl
theorem tz_18 : tz C.P 18 = some (.agg [.nilp]) := by kernel_rfl
theorem tyq_19 : tyq C.P 19 = some (true, 1) := by kernel_rfl
theorem fq_19_0 : fq C.P 19 0 = some (0, false, 1) := by kernel_rfl
theorem bq_19 : bq C.P 19 = some ([.nilp], [(0, 1)]) := by kernel_rfl
theorem tz_19 : tz C.P 19 = some (.agg [.nilp]) := by kernel_rfl
theorem tyq_20 : tyq C.P 20 = some (false, 1) := by kernel_rfl
theorem ifq_20 : ifq C.P 20 = true := by kernel_rfl
theorem tz_20 : tz C.P 20 = some (.niliface) := by kernel_rfl
theorem tyq_21 : tyq C.P 21 = some (false, 1) := by kernel_rfl
theorem inq_21 : inq C.P 21 = some .i32 := by kernel_rfl
theorem tz_21 : tz C.P 21 = some (.int .i32 (0)) := by kernel_rfl
theorem tyq_22 : tyq C.P 22 = some (false, 1) := by kernel_rfl
theorem tz_22 : tz C.P 22 = some (.nilfn) := by kernel_rfl
theorem tyq_23 : tyq C.P 23 = some (false, 1) := by kernel_rfl
theorem tz_23 : tz C.P 23 = some (.nilfn) := by kernel_rfl
theorem tyq_24 : tyq C.P 24 = some (false, 1) := by kernel_rfl
theorem slq_24 : slq C.P 24 = some (3, 1, 8) := by kernel_rfl
theorem tz_24 : tz C.P 24 = some (.nils) := by kernel_rfl
theorem tyq_25 : tyq C.P 25 = some (false, 1) := by kernel_rfl
theorem ptq_25 : ptq C.P 25 = true := by kernel_rfl
theorem tz_25 : tz C.P 25 = some (.nilp) := by kernel_rfl
theorem tyq_26 : tyq C.P 26 = some (false, 1) := by kernel_rfl
theorem tz_26 : tz C.P 26 = some (.nilfn) := by kernel_rfl
theorem tyq_27 : tyq C.P 27 = some (false, 1) := by kernel_rfl
theorem tz_27 : tz C.P 27 = some (.nilfn) := by kernel_rfl
theorem tyq_28 : tyq C.P 28 = some (false, 1) := by kernel_rfl
theorem tz_28 : tz C.P 28 = some (.nilfn) := by kernel_rfl
theorem tyq_29 : tyq C.P 29 = some (false, 1) := by kernel_rfl
theorem tz_29 : tz C.P 29 = some (.nilfn) := by kernel_rfl
theorem tyq_30 : tyq C.P 30 = some (false, 1) := by kernel_rfl
theorem slq_30 : slq C.P 30 = some (37, 4, 40) := by kernel_rfl
theorem tz_30 : tz C.P 30 = some (.nils) := by kernel_rfl
theorem tyq_31 : tyq C.P 31 = some (true, 2) := by kernel_rfl
theorem fq_31_0 : fq C.P 31 0 = some (0, false, 1) := by kernel_rfl
theorem fq_31_1 : fq C.P 31 1 = some (1, false, 1) := by kernel_rfl
theorem bq_31 : bq C.P 31 = some ([.int .i64 (0), .int .i64 (0)], [(0, 1), (1, 1)]) := by kernel_rfl
theorem feq_31 : feq C.P 31 = some [1, 1] := by kernel_rfl
theorem tz_31 : tz C.P 31 = some (.agg [.int .i64 (0), .int .i64 (0)]) := by kernel_rfl
theorem tyq_32 : tyq C.P 32 = some (true, 2) := by kernel_rfl
theorem fq_32_0 : fq C.P 32 0 = some (0, false, 1) := by kernel_rfl
theorem fq_32_1 : fq C.P 32 1 = some (1, false, 1) := by kernel_rfl
theorem bq_32 : bq C.P 32 = some ([.int .i64 (0), .int .i64 (0)], [(0, 1), (1, 1)]) := by kernel_rfl
theorem feq_32 : feq C.P 32 = some [1, 1] := by kernel_rfl
theorem tz_32 : tz C.P 32 = some (.agg [.int .i64 (0), .int .i64 (0)]) := by kernel_rfl
theorem tyq_33 : tyq C.P 33 = some (false, 1) := by kernel_rfl
theorem inq_33 : inq C.P 33 = some .i64 := by kernel_rfl
theorem tz_33 : tz C.P 33 = some (.int .i64 (0)) := by kernel_rfl
theorem tyq_34 : tyq C.P 34 = some (false, 1) := by kernel_rfl
theorem tz_34 : tz C.P 34 = some (.any) := by kernel_rfl
theorem tyq_35 : tyq C.P 35 = some (false, 1) := by kernel_rfl
theorem tz_35 : tz C.P 35 = some (.nilfn) := by kernel_rfl
theorem tyq_36 : tyq C.P 36 = some (true, 4) := by kernel_rfl
theorem fq_36_0 : fq C.P 36 0 = some (0, false, 1) := by kernel_rfl
theorem fq_36_1 : fq C.P 36 1 = some (1, false, 1) := by kernel_rfl
theorem fq_36_2 : fq C.P 36 2 = some (2, false, 1) := by kernel_rfl
theorem fq_36_3 : fq C.P 36 3 = some (3, false, 1) := by kernel_rfl
theorem bq_36 : bq C.P 36 = some ([.int .i64 (0), .str [], .int .i64 (0), .int .i64 (0)], [(0, 1), (1, 1), (2, 1), (3, 1)]) := by kernel_rfl
theorem feq_36 : feq C.P 36 = some [1, 3, 1, 1] := by kernel_rfl
theorem tz_36 : tz C.P 36 = some (.agg [.int .i64 (0), .str [], .int .i64 (0), .int .i64 (0)]) := by kernel_rfl
theorem tyq_37 : tyq C.P 37 = some (true, 4) := by kernel_rfl
theorem fq_37_0 : fq C.P 37 0 = some (0, false, 1) := by kernel_rfl
theorem fq_37_1 : fq C.P 37 1 = some (1, false, 1) := by kernel_rfl
theorem fq_37_2 : fq C.P 37 2 = some (2, false, 1) := by kernel_rfl
theorem fq_37_3 : fq C.P 37 3 = some (3, false, 1) := by kernel_rfl
theorem bq_37 : bq C.P 37 = some ([.int .i64 (0), .str [], .int .i64 (0), .int .i64 (0)], [(0, 1), (1, 1), (2, 1), (3, 1)]) := by kernel_rfl
theorem feq_37 : feq C.P 37 = some [1, 3, 1, 1] := by kernel_rfl
theorem tz_37 : tz C.P 37 = some (.agg [.int .i64 (0), .str [], .int .i64 (0), .int .i64 (0)]) := by kernel_rfl
theorem tyq_38 : tyq C.P 38 = some (false, 1) := by kernel_rfl
theorem slq_38 : slq C.P 38 = some (9, 1, 16) := by kernel_rfl
theorem tz_38 : tz C.P 38 = some (.nils) := by kernel_rfl
theorem tyq_39 : tyq C.P 39 = some (false, 1) := by kernel_rfl
theorem tz_39 : tz C.P 39 = some (.nilfn) := by kernel_rfl
theorem tyq_40 : tyq C.P 40 = some (false, 1) := by kernel_rfl
theorem slq_40 : slq C.P 40 = some (5, 1, 1) := by kernel_rfl
theorem tz_40 : tz C.P 40 = some (.nils) := by kernel_rfl
theorem tyq_41 : tyq C.P 41 = some (false, 1) := by kernel_rfl
theorem tz_41 : tz C.P 41 = some (.nilfn) := by kernel_rfl
theorem tyq_42 : tyq C.P 42 = some (true, 3) := by kernel_rfl
theorem fq_42_0 : fq C.P 42 0 = some (0, false, 1) := by kernel_rfl
theorem fq_42_1 : fq C.P 42 1 = some (1, false, 1) := by kernel_rfl
theorem fq_42_2 : fq C.P 42 2 = some (2, false, 1) := by kernel_rfl
theorem bq_42 : bq C.P 42 = some ([.nils, .int .i64 (0), .int .i64 (0)], [(0, 1), (1, 1), (2, 1)]) := by kernel_rfl
theorem feq_42 : feq C.P 42 = some [0, 1, 1] := by kernel_rfl
theorem tz_42 : tz C.P 42 = some (.agg [.nils, .int .i64 (0), .int .i64 (0)]) := by kernel_rfl
theorem tyq_43 : tyq C.P 43 = some (true, 3) := by kernel_rfl
theorem fq_43_0 : fq C.P 43 0 = some (0, false, 1) := by kernel_rfl
theorem fq_43_1 : fq C.P 43 1 = some (1, false, 1) := by kernel_rfl
theorem fq_43_2 : fq C.P 43 2 = some (2, false, 1) := by kernel_rfl
theorem bq_43 : bq C.P 43 = some ([.nils, .int .i64 (0), .int .i64 (0)], [(0, 1), (1, 1), (2, 1)]) := by kernel_rfl
theorem feq_43 : feq C.P 43 = some [0, 1, 1] := by kernel_rfl
theorem tz_43 : tz C.P 43 = some (.agg [.nils, .int .i64 (0), .int .i64 (0)]) := by kernel_rfl
theorem tyq_44 : tyq C.P 44 = some (false, 1) := by kernel_rfl
theorem tz_44 : tz C.P 44 = some (.nilfn) := by kernel_rfl
theorem tyq_45 : tyq C.P 45 = some (false, 1) := by kernel_rfl
theorem ptq_45 : ptq C.P 45 = true := by kernel_rfl
theorem tz_45 : tz C.P 45 = some (.nilp) := by kernel_rfl
theorem tyq_46 : tyq C.P 46 = some (true, 4) := by kernel_rfl
theorem fq_46_0 : fq C.P 46 0 = some (0, false, 1) := by kernel_rfl
theorem fq_46_1 : fq C.P 46 1 = some (1, false, 1) := by kernel_rfl
theorem fq_46_2 : fq C.P 46 2 = some (2, false, 1) := by kernel_rfl
theorem fq_46_3 : fq C.P 46 3 = some (3, false, 1) := by kernel_rfl
theorem bq_46 : bq C.P 46 = some ([.str [], .int .i64 (0), .int .i64 (0), .int .i64 (0)], [(0, 1), (1, 1), (2, 1), (3, 1)]) := by kernel_rfl
theorem feq_46 : feq C.P 46 = some [3, 1, 1, 1] := by kernel_rfl
theorem tz_46 : tz C.P 46 = some (.agg [.str [], .int .i64 (0), .int .i64 (0), .int .i64 (0)]) := by kernel_rfl
theorem tyq_47 : tyq C.P 47 = some (true, 4) := by kernel_rfl
theorem fq_47_0 : fq C.P 47 0 = some (0, false, 1) := by kernel_rfl
theorem fq_47_1 : fq C.P 47 1 = some (1, false, 1) := by kernel_rfl
theorem fq_47_2 : fq C.P 47 2 = some (2, false, 1) := by kernel_rfl
theorem fq_47_3 : fq C.P 47 3 = some (3, false, 1) := by kernel_rfl
theorem bq_47 : bq C.P 47 = some ([.str [], .int .i64 (0), .int .i64 (0), .int .i64 (0)], [(0, 1), (1, 1), (2, 1), (3, 1)]) := by kernel_rfl
theorem feq_47 : feq C.P 47 = some [3, 1, 1, 1] := by kernel_rfl
theorem tz_47 : tz C.P 47 = some (.agg [.str [], .int .i64 (0), .int .i64 (0), .int .i64 (0)]) := by kernel_rfl
theorem tyq_48 : tyq C.P 48 = some (false, 1) := by kernel_rfl
theorem tz_48 : tz C.P 48 = some (.nilfn) := by kernel_rfl
theorem tyq_49 : tyq C.P 49 = some (false, 1) := by kernel_rfl
theorem tz_49 : tz C.P 49 = some (.nilfn) := by kernel_rfl
theorem tyq_50 : tyq C.P 50 = some (false, 1) := by kernel_rfl
theorem tz_50 : tz C.P 50 = some (.nilfn) := by kernel_rfl
theorem tyq_51 : tyq C.P 51 = some (false, 1) := by kernel_rfl
theorem tz_51 : tz C.P 51 = some (.nilfn) := by kernel_rfl
theorem tyq_52 : tyq C.P 52 = some (false, 1) := by kernel_rfl
theorem tz_52 : tz C.P 52 = some (.any) := by kernel_rfl
theorem tyq_53 : tyq C.P 53 = some (false, 1) := by kernel_rfl
theorem tz_53 : tz C.P 53 = some (.nilfn) := by kernel_rfl
theorem tyq_54 : tyq C.P 54 = some (false, 1) := by kernel_rfl
theorem tz_54 : tz C.P 54 = some (.nilfn) := by kernel_rfl
theorem tyq_55 : tyq C.P 55 = some (false, 1) := by kernel_rfl
theorem tz_55 : tz C.P 55 = some (.nilfn) := by kernel_rfl
theorem tyq_56 : tyq C.P 56 = some (false, 1) := by kernel_rfl
theorem tz_56 : tz C.P 56 = some (.any) := by kernel_rfl
theorem tyq_57 : tyq C.P 57 = some (false, 1) := by kernel_rfl
theorem tz_57 : tz C.P 57 = some (.nilfn) := by kernel_rfl
theorem tyq_58 : tyq C.P 58 = some (false, 1) := by kernel_rfl
theorem tz_58 : tz C.P 58 = some (.nilfn) := by kernel_rfl
theorem tyq_59 : tyq C.P 59 = some (true, 1) := by kernel_rfl
theorem fq_59_0 : fq C.P 59 0 = some (0, false, 1) := by kernel_rfl
theorem bq_59 : bq C.P 59 = some ([.bool false], [(0, 1)]) := by kernel_rfl
theorem feq_59 : feq C.P 59 = some [2] := by kernel_rfl
theorem tz_59 : tz C.P 59 = some (.agg [.bool false]) := by kernel_rfl
theorem tyq_60 : tyq C.P 60 = some (true, 1) := by kernel_rfl
theorem fq_60_0 : fq C.P 60 0 = some (0, false, 1) := by kernel_rfl
theorem bq_60 : bq C.P 60 = some ([.bool false], [(0, 1)]) := by kernel_rfl
theorem feq_60 : feq C.P 60 = some [2] := by kernel_rfl
theorem tz_60 : tz C.P 60 = some (.agg [.bool false]) := by kernel_rfl
theorem tyq_61 : tyq C.P 61 = some (false, 1) := by kernel_rfl
theorem tz_61 : tz C.P 61 = some (.nilfn) := by kernel_rfl
theorem tyq_62 : tyq C.P 62 = some (false, 1) := by kernel_rfl
theorem tz_62 : tz C.P 62 = some (.nilfn) := by kernel_rfl
theorem tyq_63 : tyq C.P 63 = some (false, 1) := by kernel_rfl
theorem tz_63 : tz C.P 63 = some (.nilfn) := by kernel_rfl
theorem tyq_64 : tyq C.P 64 = some (false, 1) := by kernel_rfl
theorem tz_64 : tz C.P 64 = some (.nilfn) := by kernel_rfl
theorem tyq_65 : tyq C.P 65 = some (false, 1) := by kernel_rfl
theorem tz_65 : tz C.P 65 = some (.nilfn) := by kernel_rfl
theorem aq_66 : aq C.P 66 = some (256, 5) := by kernel_rfl
theorem tyq_67 : tyq C.P 67 = some (false, 1) := by kernel_rfl
theorem tz_67 : tz C.P 67 = some (.nilfn) := by kernel_rfl
theorem tyq_68 : tyq C.P 68 = some (false, 1) := by kernel_rfl
theorem tz_68 : tz C.P 68 = some (.nilfn) := by kernel_rfl
theorem tyq_69 : tyq C.P 69 = some (false, 1) := by kernel_rfl
theorem slq_69 : slq C.P 69 = some (71, 2, 16) := by kernel_rfl
theorem tz_69 : tz C.P 69 = some (.nils) := by kernel_rfl
theorem tyq_70 : tyq C.P 70 = some (true, 2) := by kernel_rfl
theorem fq_70_0 : fq C.P 70 0 = some (0, false, 1) := by kernel_rfl
theorem fq_70_1 : fq C.P 70 1 = some (1, false, 1) := by kernel_rfl
theorem bq_70 : bq C.P 70 = some ([.int .i64 (0), .int .i64 (0)], [(0, 1), (1, 1)]) := by kernel_rfl
theorem feq_70 : feq C.P 70 = some [1, 1] := by kernel_rfl
theorem tz_70 : tz C.P 70 = some (.agg [.int .i64 (0), .int .i64 (0)]) := by kernel_rfl
theorem tyq_71 : tyq C.P 71 = some (true, 2) := by kernel_rfl
theorem fq_71_0 : fq C.P 71 0 = some (0, false, 1) := by kernel_rfl
theorem fq_71_1 : fq C.P 71 1 = some (1, false, 1) := by kernel_rfl
theorem bq_71 : bq C.P 71 = some ([.int .i64 (0), .int .i64 (0)], [(0, 1), (1, 1)]) := by kernel_rfl
theorem feq_71 : feq C.P 71 = some [1, 1] := by kernel_rfl
theorem tz_71 : tz C.P 71 = some (.agg [.int .i64 (0), .int .i64 (0)]) := by kernel_rfl
theorem tyq_72 : tyq C.P 72 = some (false, 1) := by kernel_rfl
theorem inq_72 : inq C.P 72 = some .u32 := by kernel_rfl
theorem tz_72 : tz C.P 72 = some (.int .u32 (0)) := by kernel_rfl
theorem tyq_73 : tyq C.P 73 = some (false, 1) := by kernel_rfl
theorem tz_73 : tz C.P 73 = some (.nilfn) := by kernel_rfl
theorem tyq_74 : tyq C.P 74 = some (false, 1) := by kernel_rfl
theorem ptq_74 : ptq C.P 74 = true := by kernel_rfl
theorem tz_74 : tz C.P 74 = some (.nilp) := by kernel_rfl
theorem tyq_75 : tyq C.P 75 = some (false, 1) := by kernel_rfl
theorem slq_75 : slq C.P 75 = some (81, 3, 6) := by kernel_rfl
theorem tz_75 : tz C.P 75 = some (.nils) := by kernel_rfl
theorem tyq_76 : tyq C.P 76 = some (false, 1) := by kernel_rfl
theorem slq_76 : slq C.P 76 = some (84, 3, 12) := by kernel_rfl
theorem tz_76 : tz C.P 76 = some (.nils) := by kernel_rfl
theorem tyq_77 : tyq C.P 77 = some (true, 3) := by kernel_rfl
theorem fq_77_0 : fq C.P 77 0 = some (0, false, 1) := by kernel_rfl
theorem fq_77_1 : fq C.P 77 1 = some (1, false, 1) := by kernel_rfl
theorem fq_77_2 : fq C.P 77 2 = some (2, false, 1) := by kernel_rfl
theorem bq_77 : bq C.P 77 = some ([.nils, .nils, .int .i64 (0)], [(0, 1), (1, 1), (2, 1)]) := by kernel_rfl
theorem feq_77 : feq C.P 77 = some [0, 0, 1] := by kernel_rfl
theorem tz_77 : tz C.P 77 = some (.agg [.nils, .nils, .int .i64 (0)]) := by kernel_rfl
theorem tyq_78 : tyq C.P 78 = some (true, 3) := by kernel_rfl
theorem fq_78_0 : fq C.P 78 0 = some (0, false, 1) := by kernel_rfl
theorem fq_78_1 : fq C.P 78 1 = some (1, false, 1) := by kernel_rfl
theorem fq_78_2 : fq C.P 78 2 = some (2, false, 1) := by kernel_rfl
theorem bq_78 : bq C.P 78 = some ([.nils, .nils, .int .i64 (0)], [(0, 1), (1, 1), (2, 1)]) := by kernel_rfl
theorem feq_78 : feq C.P 78 = some [0, 0, 1] := by kernel_rfl
theorem tz_78 : tz C.P 78 = some (.agg [.nils, .nils, .int .i64 (0)]) := by kernel_rfl
theorem tyq_79 : tyq C.P 79 = some (false, 1) := by kernel_rfl
theorem inq_79 : inq C.P 79 = some .u16 := by kernel_rfl
theorem tz_79 : tz C.P 79 = some (.int .u16 (0)) := by kernel_rfl
theorem tyq_80 : tyq C.P 80 = some (true, 3) := by kernel_rfl
theorem fq_80_0 : fq C.P 80 0 = some (0, false, 1) := by kernel_rfl
theorem fq_80_1 : fq C.P 80 1 = some (1, false, 1) := by kernel_rfl
theorem fq_80_2 : fq C.P 80 2 = some (2, false, 1) := by kernel_rfl
theorem bq_80 : bq C.P 80 = some ([.int .u16 (0), .int .u16 (0), .int .u16 (0)], [(0, 1), (1, 1), (2, 1)]) := by kernel_rfl
theorem feq_80 : feq C.P 80 = some [1, 1, 1] := by kernel_rfl
theorem tz_80 : tz C.P 80 = some (.agg [.int .u16 (0), .int .u16 (0), .int .u16 (0)]) := by kernel_rfl
theorem tyq_81 : tyq C.P 81 = some (true, 3) := by kernel_rfl
theorem fq_81_0 : fq C.P 81 0 = some (0, false, 1) := by kernel_rfl
theorem fq_81_1 : fq C.P 81 1 = some (1, false, 1) := by kernel_rfl
theorem fq_81_2 : fq C.P 81 2 = some (2, false, 1) := by kernel_rfl
theorem bq_81 : bq C.P 81 = some ([.int .u16 (0), .int .u16 (0), .int .u16 (0)], [(0, 1), (1, 1), (2, 1)]) := by kernel_rfl
theorem feq_81 : feq C.P 81 = some [1, 1, 1] := by kernel_rfl
theorem tz_81 : tz C.P 81 = some (.agg [.int .u16 (0), .int .u16 (0), .int .u16 (0)]) := by kernel_rfl
theorem tyq_82 : tyq C.P 82 = some (false, 1) := by kernel_rfl
theorem tz_82 : tz C.P 82 = some (.nilfn) := by kernel_rfl
theorem tyq_83 : tyq C.P 83 = some (true, 3) := by kernel_rfl
theorem fq_83_0 : fq C.P 83 0 = some (0, false, 1) := by kernel_rfl
theorem fq_83_1 : fq C.P 83 1 = some (1, false, 1) := by kernel_rfl
theorem fq_83_2 : fq C.P 83 2 = some (2, false, 1) := by kernel_rfl
theorem bq_83 : bq C.P 83 = some ([.int .u32 (0), .int .u32 (0), .int .u32 (0)], [(0, 1), (1, 1), (2, 1)]) := by kernel_rfl
theorem feq_83 : feq C.P 83 = some [1, 1, 1] := by kernel_rfl
theorem tz_83 : tz C.P 83 = some (.agg [.int .u32 (0), .int .u32 (0), .int .u32 (0)]) := by kernel_rfl
theorem tyq_84 : tyq C.P 84 = some (true, 3) := by kernel_rfl
theorem fq_84_0 : fq C.P 84 0 = some (0, false, 1) := by kernel_rfl
theorem fq_84_1 : fq C.P 84 1 = some (1, false, 1) := by kernel_rfl
theorem fq_84_2 : fq C.P 84 2 = some (2, false, 1) := by kernel_rfl
theorem bq_84 : bq C.P 84 = some ([.int .u32 (0), .int .u32 (0), .int .u32 (0)], [(0, 1), (1, 1), (2, 1)]) := by kernel_rfl
theorem feq_84 : feq C.P 84 = some [1, 1, 1] := by kernel_rfl
theorem tz_84 : tz C.P 84 = some (.agg [.int .u32 (0), .int .u32 (0), .int .u32 (0)]) := by kernel_rfl
theorem tyq_85 : tyq C.P 85 = some (false, 1) := by kernel_rfl
theorem tz_85 : tz C.P 85 = some (.nilfn) := by kernel_rfl
theorem tyq_86 : tyq C.P 86 = some (false, 1) := by kernel_rfl
theorem ptq_86 : ptq C.P 86 = true := by kernel_rfl
theorem tz_86 : tz C.P 86 = some (.nilp) := by kernel_rfl
theorem tyq_87 : tyq C.P 87 = some (false, 1) := by kernel_rfl
theorem inq_87 : inq C.P 87 = some .u64 := by kernel_rfl
theorem tz_87 : tz C.P 87 = some (.int .u64 (0)) := by kernel_rfl
theorem tyq_88 : tyq C.P 88 = some (false, 1) := by kernel_rfl
theorem ptq_88 : ptq C.P 88 = true := by kernel_rfl
theorem tz_88 : tz C.P 88 = some (.nilp) := by kernel_rfl
theorem tyq_89 : tyq C.P 89 = some (false, 1) := by kernel_rfl
theorem tz_89 : tz C.P 89 = some (.nilfn) := by kernel_rfl
theorem tyq_90 : tyq C.P 90 = some (true, 4) := by kernel_rfl
theorem fq_90_0 : fq C.P 90 0 = some (0, false, 1) := by kernel_rfl
theorem fq_90_1 : fq C.P 90 1 = some (1, false, 1) := by kernel_rfl
theorem fq_90_2 : fq C.P 90 2 = some (2, false, 1) := by kernel_rfl
theorem fq_90_3 : fq C.P 90 3 = some (3, false, 1) := by kernel_rfl
theorem bq_90 : bq C.P 90 = some ([.nilp, .nilp, .nilp, .str []], [(0, 1), (1, 1), (2, 1), (3, 1)]) := by kernel_rfl
theorem tz_90 : tz C.P 90 = some (.agg [.nilp, .nilp, .nilp, .str []]) := by kernel_rfl
theorem tyq_91 : tyq C.P 91 = some (true, 4) := by kernel_rfl
theorem fq_91_0 : fq C.P 91 0 = some (0, false, 1) := by kernel_rfl
theorem fq_91_1 : fq C.P 91 1 = some (1, false, 1) := by kernel_rfl
theorem fq_91_2 : fq C.P 91 2 = some (2, false, 1) := by kernel_rfl
theorem fq_91_3 : fq C.P 91 3 = some (3, false, 1) := by kernel_rfl
theorem bq_91 : bq C.P 91 = some ([.nilp, .nilp, .nilp, .str []], [(0, 1), (1, 1), (2, 1), (3, 1)]) := by kernel_rfl
theorem tz_91 : tz C.P 91 = some (.agg [.nilp, .nilp, .nilp, .str []]) := by kernel_rfl
theorem tyq_92 : tyq C.P 92 = some (true, 0) := by kernel_rfl
theorem aq_92 : aq C.P 92 = some (0, 16) := by kernel_rfl
theorem tz_92 : tz C.P 92 = some (.agg []) := by kernel_rfl
theorem tyq_93 : tyq C.P 93 = some (true, 0) := by kernel_rfl
theorem fq_93_0 : fq C.P 93 0 = some (0, true, 0) := by kernel_rfl
theorem bq_93 : bq C.P 93 = some ([], [(0, 0)]) := by kernel_rfl
theorem tz_93 : tz C.P 93 = some (.agg []) := by kernel_rfl
theorem tyq_94 : tyq C.P 94 = some (true, 0) := by kernel_rfl
theorem fq_94_0 : fq C.P 94 0 = some (0, true, 0) := by kernel_rfl
theorem bq_94 : bq C.P 94 = some ([], [(0, 0)]) := by kernel_rfl
theorem tz_94 : tz C.P 94 = some (.agg []) := by kernel_rfl
theorem tyq_95 : tyq C.P 95 = some (false, 1) := by kernel_rfl
theorem inq_95 : inq C.P 95 = some .u8 := by kernel_rfl
theorem tz_95 : tz C.P 95 = some (.int .u8 (0)) := by kernel_rfl
theorem tyq_96 : tyq C.P 96 = some (false, 1) := by kernel_rfl
theorem inq_96 : inq C.P 96 = some .u8 := by kernel_rfl
theorem tz_96 : tz C.P 96 = some (.int .u8 (0)) := by kernel_rfl
theorem tyq_97 : tyq C.P 97 = some (false, 1) := by kernel_rfl
theorem tz_97 : tz C.P 97 = some (.nilfn) := by kernel_rfl
theorem tyq_98 : tyq C.P 98 = some (false, 1) := by kernel_rfl
theorem ptq_98 : ptq C.P 98 = true := by kernel_rfl
theorem tz_98 : tz C.P 98 = some (.nilp) := by kernel_rfl
theorem tyq_99 : tyq C.P 99 = some (false, 1) := by kernel_rfl
theorem inq_99 : inq C.P 99 = some .i32 := by kernel_rfl
theorem tz_99 : tz C.P 99 = some (.int .i32 (0)) := by kernel_rfl
theorem tyq_100 : tyq C.P 100 = some (false, 1) := by kernel_rfl
theorem inq_100 : inq C.P 100 = some .i32 := by kernel_rfl
theorem tz_100 : tz C.P 100 = some (.int .i32 (0)) := by kernel_rfl
theorem tyq_101 : tyq C.P 101 = some (true, 11) := by kernel_rfl
theorem fq_101_0 : fq C.P 101 0 = some (0, false, 1) := by kernel_rfl
theorem fq_101_1 : fq C.P 101 1 = some (1, false, 1) := by kernel_rfl
theorem fq_101_2 : fq C.P 101 2 = some (2, false, 1) := by kernel_rfl
theorem fq_101_3 : fq C.P 101 3 = some (3, false, 1) := by kernel_rfl
theorem fq_101_4 : fq C.P 101 4 = some (4, false, 1) := by kernel_rfl
theorem fq_101_5 : fq C.P 101 5 = some (5, false, 1) := by kernel_rfl
theorem fq_101_6 : fq C.P 101 6 = some (6, false, 1) := by kernel_rfl
theorem fq_101_7 : fq C.P 101 7 = some (7, false, 1) := by kernel_rfl
theorem fq_101_8 : fq C.P 101 8 = some (8, false, 1) := by kernel_rfl
theorem fq_101_9 : fq C.P 101 9 = some (9, false, 1) := by kernel_rfl
theorem fq_101_10 : fq C.P 101 10 = some (10, false, 1) := by kernel_rfl
theorem bq_101 : bq C.P 101 = some ([.int .u64 (0), .int .u64 (0), .int .u32 (0), .int .u8 (0), .int .u8 (0), .int .u8 (0), .int .u8 (0), .nilfn, .nilp, .int .i32 (0), .int .i32 (0)], [(0, 1), (1, 1), (2, 1), (3, 1), (4, 1), (5, 1), (6, 1), (7, 1), (8, 1), (9, 1), (10, 1)]) := by kernel_rfl
theorem tz_101 : tz C.P 101 = some (.agg [.int .u64 (0), .int .u64 (0), .int .u32 (0), .int .u8 (0), .int .u8 (0), .int .u8 (0), .int .u8 (0), .nilfn, .nilp, .int .i32 (0), .int .i32 (0)]) := by kernel_rfl
theorem tyq_102 : tyq C.P 102 = some (true, 11) := by kernel_rfl
theorem fq_102_0 : fq C.P 102 0 = some (0, false, 1) := by kernel_rfl
theorem fq_102_1 : fq C.P 102 1 = some (1, false, 1) := by kernel_rfl
theorem fq_102_2 : fq C.P 102 2 = some (2, false, 1) := by kernel_rfl
theorem fq_102_3 : fq C.P 102 3 = some (3, false, 1) := by kernel_rfl
theorem fq_102_4 : fq C.P 102 4 = some (4, false, 1) := by kernel_rfl
theorem fq_102_5 : fq C.P 102 5 = some (5, false, 1) := by kernel_rfl
theorem fq_102_6 : fq C.P 102 6 = some (6, false, 1) := by kernel_rfl
theorem fq_102_7 : fq C.P 102 7 = some (7, false, 1) := by kernel_rfl
theorem fq_102_8 : fq C.P 102 8 = some (8, false, 1) := by kernel_rfl
theorem fq_102_9 : fq C.P 102 9 = some (9, false, 1) := by kernel_rfl
theorem fq_102_10 : fq C.P 102 10 = some (10, false, 1) := by kernel_rfl
theorem bq_102 : bq C.P 102 = some ([.int .u64 (0), .int .u64 (0), .int .u32 (0), .int .u8 (0), .int .u8 (0), .int .u8 (0), .int .u8 (0), .nilfn, .nilp, .int .i32 (0), .int .i32 (0)], [(0, 1), (1, 1), (2, 1), (3, 1), (4, 1), (5, 1), (6, 1), (7, 1), (8, 1), (9, 1), (10, 1)]) := by kernel_rfl
theorem tz_102 : tz C.P 102 = some (.agg [.int .u64 (0), .int .u64 (0), .int .u32 (0), .int .u8 (0), .int .u8 (0), .int .u8 (0), .int .u8 (0), .nilfn, .nilp, .int .i32 (0), .int .i32 (0)]) := by kernel_rfl
theorem tyq_103 : tyq C.P 103 = some (false, 1) := by kernel_rfl
theorem tz_103 : tz C.P 103 = some (.nilp) := by kernel_rfl
theorem ok_2 : okF C.P 2 = true := by kernel_rfl
theorem ok_3 : okF C.P 3 = true := by kernel_rfl
theorem ok_4 : okF C.P 4 = true := by kernel_rfl
theorem ok_5 : okF C.P 5 = true := by kernel_rfl
theorem ok_6 : okF C.P 6 = true := by kernel_rfl
theorem ok_7 : okF C.P 7 = true := by kernel_rfl
theorem ok_8 : okF C.P 8 = true := by kernel_rfl
theorem ok_9 : okF C.P 9 = true := by kernel_rfl
theorem ok_10 : okF C.P 10 = true := by kernel_rfl
theorem ok_11 : okF C.P 11 = true := by kernel_rfl
theorem ok_12 : okF C.P 12 = true := by kernel_rfl
theorem ok_13 : okF C.P 13 = true := by kernel_rfl
theorem ok_14 : okF C.P 14 = true := by kernel_rfl
theorem ok_15 : okF C.P 15 = true := by kernel_rfl
theorem ok_16 : okF C.P 16 = true := by kernel_rfl
theorem ok_17 : okF C.P 17 = true := by kernel_rfl
theorem ok_18 : okF C.P 18 = true := by kernel_rfl
theorem ok_19 : okF C.P 19 = true := by kernel_rfl
theorem ok_20 : okF C.P 20 = true := by kernel_rfl
theorem ok_21 : okF C.P 21 = true := by kernel_rfl
theorem ok_22 : okF C.P 22 = true := by kernel_rfl
theorem ok_23 : okF C.P 23 = true := by kernel_rfl
theorem ok_24 : okF C.P 24 = true := by kernel_rfl
theorem ok_25 : okF C.P 25 = true := by kernel_rfl
theorem ok_26 : okF C.P 26 = true := by kernel_rfl
theorem ok_27 : okF C.P 27 = true := by kernel_rfl
theorem ok_28 : okF C.P 28 = true := by kernel_rfl
theorem ok_29 : okF C.P 29 = true := by kernel_rfl
theorem ok_30 : okF C.P 30 = true := by kernel_rfl
theorem ok_31 : okF C.P 31 = true := by kernel_rfl
theorem ok_32 : okF C.P 32 = true := by kernel_rfl
theorem ok_33 : okF C.P 33 = true := by kernel_rfl
theorem ok_34 : okF C.P 34 = true := by kernel_rfl
theorem ok_35 : okF C.P 35 = true := by kernel_rfl
theorem ok_36 : okF C.P 36 = true := by kernel_rfl
theorem ok_37 : okF C.P 37 = true := by kernel_rfl
theorem ok_38 : okF C.P 38 = true := by kernel_rfl
theorem ok_39 : okF C.P 39 = true := by kernel_rfl
theorem ok_40 : okF C.P 40 = true := by kernel_rfl
theorem ok_41 : okF C.P 41 = true := by kernel_rfl
theorem ok_42 : okF C.P 42 = true := by kernel_rfl
theorem ok_43 : okF C.P 43 = true := by kernel_rfl
theorem ok_67 : okF C.P 67 = true := by kernel_rfl
theorem byq_40 : byq C.P 40 = true := by kernel_rfl
end Go.LexSem
