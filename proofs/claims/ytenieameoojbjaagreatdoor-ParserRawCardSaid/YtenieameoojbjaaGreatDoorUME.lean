/-
 Texts joined: LFacts LShelf.
-/
import Derived.Test.YtenieameoojbjaaGreatDoorUMW
import Derived.Test.YtenieameoojbjaaGreatDoorUMD
import Derived.Test.YtenieameoojbjaaGreatDoorProg
import Derived.Shelf.Small.Bits
set_option linter.unusedVariables false
set_option linter.unusedSimpArgs false
set_option linter.loopingSimpArgs false
set_option linter.defProp false
namespace Go.LexSem
open Go Go.V Go.Proofs
/-- What parser.levels holds. -/
def levelsV:PVal:=.slc [.fmap [.str [124,124]] [.int .i64 7],.fmap [.str [38,38]] [.int .i64 6],.fmap [.str [43],.str [45]] [.int .i64 12,.int .i64 13],.fmap [.str [42]] [.int .i64 14]]
noncomputable def C:Ctx:=⟨Tryz.prog,fun g=>if g=0 then some Lq else if g=2 then some [levelsV] else none⟩
theorem mo:C.P.follows .mixedOrders=true:=by kernel_rfl
abbrev tT (i:Nat) (a:Bool) (n:Nat):Prop:=tyq C.P i=some (a,n)
abbrev tI (i:Nat) (k:IntKind):Prop:=tT i false 1∧inq C.P i=some k∧tz C.P i=some (.int k 0)
abbrev tB (i:Nat):Prop:=tT i false 1∧C.P.underlying i=some .bool∧tz C.P i=some (.bool false)
abbrev tS (i:Nat):Prop:=tT i false 1∧C.P.underlying i=some .string∧tz C.P i=some (.str [])
abbrev tP (i:Nat):Prop:=tT i false 1∧ptq C.P i=true∧tz C.P i=some .nilp
abbrev tL (i e n b:Nat):Prop:=tT i false 1∧slq C.P i=some (e,n,b)∧tz C.P i=some .nils
abbrev tZ (i:Nat) (z:PVal):Prop:=tz C.P i=some z
abbrev tF (i j o:Nat) (a:Bool) (n:Nat):Prop:=fq C.P i j=some (o,a,n)
abbrev tR (i n:Nat) (zs:List PVal) (pl:List (Nat × Nat)):Prop:=tT i true n∧bq C.P i=some (zs,pl)∧tZ i (.agg zs)
/-- All of them. -/
theorem FA:((((((((tT 0 false 1∧tZ 0 (.any))∧(tT 1 false 1∧tZ 1 (.nilfn)))∧(tI 2 .i64∧tI 3 .i64))∧((tB 4∧tI 5 .u8)∧(tI 6 .u8∧(tR 7 4 [.int .i64 0,.int .i64 0,.bool false,.int .u8 0] [(0,1),(1,1),(2,1),(3,1)]∧tF 7 0 0 false 1∧tF 7 1 1 false 1∧tF 7 2 2 false 1∧tF 7 3 3 false 1∧feq C.P 7=some [1,1,2,1]))))∧((((tR 8 4 [.int .i64 0,.int .i64 0,.bool false,.int .u8 0] [(0,1),(1,1),(2,1),(3,1)]∧tF 8 0 0 false 1∧tF 8 1 1 false 1∧tF 8 2 2 false 1∧tF 8 3 3 false 1∧feq C.P 8=some [1,1,2,1])∧tS 9)∧(tS 10∧tS 11))∧((tI 12 .u64∧(tR 13 2 [.str [],.int .u64 0] [(0,1),(1,1)]∧tF 13 0 0 false 1∧tF 13 1 1 false 1))∧((tR 14 2 [.str [],.int .u64 0] [(0,1),(1,1)]∧tF 14 0 0 false 1∧tF 14 1 1 false 1)∧tP 15))))∧((((tP 16∧tP 17)∧((tR 18 1 [.nilp] [(0,1)]∧tF 18 0 0 false 1)∧(tR 19 1 [.nilp] [(0,1)]∧tF 19 0 0 false 1)))∧(((tT 20 false 1∧ifq C.P 20=true∧tZ 20 (.niliface))∧tI 21 .i32)∧((tT 22 false 1∧tZ 22 (.nilfn))∧(tT 23 false 1∧tZ 23 (.nilfn)))))∧(((tL 24 3 1 8∧tP 25)∧((tT 26 false 1∧tZ 26 (.nilfn))∧tL 27 9 1 16))∧((tL 28 70 5 104∧tL 29 75 6 72)∧(tL 30 61 25 408∧(tR 31 6 [.nils,.nils,.nils,.nils,.nils,.str []] [(0,1),(1,1),(2,1),(3,1),(4,1),(5,1)]∧tF 31 0 0 false 1∧tF 31 1 1 false 1∧tF 31 2 2 false 1∧tF 31 3 3 false 1∧tF 31 4 4 false 1∧tF 31 5 5 false 1∧feq C.P 31=some [0,0,0,0,0,3]))))))∧((((((tR 32 6 [.nils,.nils,.nils,.nils,.nils,.str []] [(0,1),(1,1),(2,1),(3,1),(4,1),(5,1)]∧tF 32 0 0 false 1∧tF 32 1 1 false 1∧tF 32 2 2 false 1∧tF 32 3 3 false 1∧tF 32 4 4 false 1∧tF 32 5 5 false 1∧feq C.P 32=some [0,0,0,0,0,3])∧(tT 33 false 1∧tZ 33 (.nilfn)))∧((tT 34 false 1∧tZ 34 (.nilfn))∧(tT 35 false 1∧tZ 35 (.nilfn))))∧((tL 36 44 4 40∧(tR 37 2 [.int .i64 0,.int .i64 0] [(0,1),(1,1)]∧tF 37 0 0 false 1∧tF 37 1 1 false 1∧feq C.P 37=some [1,1]))∧((tR 38 2 [.int .i64 0,.int .i64 0] [(0,1),(1,1)]∧tF 38 0 0 false 1∧tF 38 1 1 false 1∧feq C.P 38=some [1,1])∧tI 39 .i64)))∧((((tT 40 false 1∧tZ 40 (.any))∧(tT 41 false 1∧tZ 41 (.nilfn)))∧((tT 42 false 1∧tZ 42 (.nilfn))∧(tR 43 4 [.int .i64 0,.str [],.int .i64 0,.int .i64 0] [(0,1),(1,1),(2,1),(3,1)]∧tF 43 0 0 false 1∧tF 43 1 1 false 1∧tF 43 2 2 false 1∧tF 43 3 3 false 1∧feq C.P 43=some [1,3,1,1])))∧(((tR 44 4 [.int .i64 0,.str [],.int .i64 0,.int .i64 0] [(0,1),(1,1),(2,1),(3,1)]∧tF 44 0 0 false 1∧tF 44 1 1 false 1∧tF 44 2 2 false 1∧tF 44 3 3 false 1∧feq C.P 44=some [1,3,1,1])∧tP 45)∧((tR 46 9 [.nils,.nils,.nils,.nils,.nils,.str [],.nils,.int .i64 0,.int .i64 0] [(0,6),(6,1),(7,1),(8,1)]∧tF 46 0 0 true 6∧tF 46 1 6 false 1∧tF 46 2 7 false 1∧tF 46 3 8 false 1)∧(tR 47 9 [.nils,.nils,.nils,.nils,.nils,.str [],.nils,.int .i64 0,.int .i64 0] [(0,6),(6,1),(7,1),(8,1)]∧tF 47 0 0 true 6∧tF 47 1 6 false 1∧tF 47 2 7 false 1∧tF 47 3 8 false 1)))))∧((((tL 48 151 1 4∧(tR 49 3 [.bool false,.nils,.nils] [(0,1),(1,1),(2,1)]∧tF 49 0 0 false 1∧tF 49 1 1 false 1∧tF 49 2 2 false 1∧feq C.P 49=some [2,0,0]))∧((tR 50 3 [.bool false,.nils,.nils] [(0,1),(1,1),(2,1)]∧tF 50 0 0 false 1∧tF 50 1 1 false 1∧tF 50 2 2 false 1∧feq C.P 50=some [2,0,0])∧tL 51 53 7 112))∧(((tR 52 7 [.int .i64 0,.int .i64 0,.bool false,.nils,.nils,.str [],.nils] [(0,1),(1,1),(2,3),(5,1),(6,1)]∧tF 52 0 0 false 1∧tF 52 1 1 false 1∧tF 52 2 2 true 3∧tF 52 3 5 false 1∧tF 52 4 6 false 1)∧(tR 53 7 [.int .i64 0,.int .i64 0,.bool false,.nils,.nils,.str [],.nils] [(0,1),(1,1),(2,3),(5,1),(6,1)]∧tF 53 0 0 false 1∧tF 53 1 1 false 1∧tF 53 2 2 true 3∧tF 53 3 5 false 1∧tF 53 4 6 false 1))∧((tT 54 false 1∧tZ 54 (.nilfn))∧(tT 55 false 1∧tZ 55 (.any)))))∧((((tT 56 false 1∧tZ 56 (.nilfn))∧(tT 57 false 1∧tZ 57 (.nilfn)))∧((tR 58 11 [.int .i64 0,.int .i64 0,.int .i64 0,.bool false,.nils,.nils,.bool false,.nils,.nils,.nils,.str []] [(0,1),(1,1),(2,1),(3,3),(6,3),(9,1),(10,1)]∧tF 58 0 0 false 1∧tF 58 1 1 false 1∧tF 58 2 2 false 1∧tF 58 3 3 true 3∧tF 58 4 6 true 3∧tF 58 5 9 false 1∧tF 58 6 10 false 1)∧(tR 59 11 [.int .i64 0,.int .i64 0,.int .i64 0,.bool false,.nils,.nils,.bool false,.nils,.nils,.nils,.str []] [(0,1),(1,1),(2,1),(3,3),(6,3),(9,1),(10,1)]∧tF 59 0 0 false 1∧tF 59 1 1 false 1∧tF 59 2 2 false 1∧tF 59 3 3 true 3∧tF 59 4 6 true 3∧tF 59 5 9 false 1∧tF 59 6 10 false 1)))∧(((tR 60 25 [.int .i64 0,.str [],.str [],.int .i64 0,.int .i64 0,.int .i64 0,.bool false,.nils,.nils,.str [],.nils,.nils,.int .i64 0,.int .i64 0,.int .i64 0,.bool false,.nils,.nils,.bool false,.nils,.nils,.nils,.str [],.nils,.nils] [(0,1),(1,1),(2,1),(3,1),(4,7),(11,1),(12,11),(23,1),(24,1)]∧tF 60 0 0 false 1∧tF 60 1 1 false 1∧tF 60 2 2 false 1∧tF 60 3 3 false 1∧tF 60 4 4 true 7∧tF 60 5 11 false 1∧tF 60 6 12 true 11∧tF 60 7 23 false 1∧tF 60 8 24 false 1)∧(tR 61 25 [.int .i64 0,.str [],.str [],.int .i64 0,.int .i64 0,.int .i64 0,.bool false,.nils,.nils,.str [],.nils,.nils,.int .i64 0,.int .i64 0,.int .i64 0,.bool false,.nils,.nils,.bool false,.nils,.nils,.nils,.str [],.nils,.nils] [(0,1),(1,1),(2,1),(3,1),(4,7),(11,1),(12,11),(23,1),(24,1)]∧tF 61 0 0 false 1∧tF 61 1 1 false 1∧tF 61 2 2 false 1∧tF 61 3 3 false 1∧tF 61 4 4 true 7∧tF 61 5 11 false 1∧tF 61 6 12 true 11∧tF 61 7 23 false 1∧tF 61 8 24 false 1))∧((tT 62 false 1∧tZ 62 (.nilfn))∧((tT 63 false 1∧tZ 63 (.nilfn))∧(tT 64 false 1∧tZ 64 (.nilfn)))))))))∧(((((((tT 65 false 1∧tZ 65 (.nilfn))∧(tR 66 3 [.nils,.int .i64 0,.int .i64 0] [(0,1),(1,1),(2,1)]∧tF 66 0 0 false 1∧tF 66 1 1 false 1∧tF 66 2 2 false 1∧feq C.P 66=some [0,1,1]))∧((tR 67 3 [.nils,.int .i64 0,.int .i64 0] [(0,1),(1,1),(2,1)]∧tF 67 0 0 false 1∧tF 67 1 1 false 1∧tF 67 2 2 false 1∧feq C.P 67=some [0,1,1])∧(tT 68 false 1∧tZ 68 (.nilfn))))∧(((tR 69 5 [.str [],.nils,.nils,.nils,.str []] [(0,1),(1,1),(2,1),(3,1),(4,1)]∧tF 69 0 0 false 1∧tF 69 1 1 false 1∧tF 69 2 2 false 1∧tF 69 3 3 false 1∧tF 69 4 4 false 1∧feq C.P 69=some [3,0,0,0,3])∧(tR 70 5 [.str [],.nils,.nils,.nils,.str []] [(0,1),(1,1),(2,1),(3,1),(4,1)]∧tF 70 0 0 false 1∧tF 70 1 1 false 1∧tF 70 2 2 false 1∧tF 70 3 3 false 1∧tF 70 4 4 false 1∧feq C.P 70=some [3,0,0,0,3]))∧(tL 71 73 5 56∧(tR 72 5 [.int .i64 0,.int .i64 0,.int .i64 0,.int .i64 0,.nils] [(0,1),(1,1),(2,1),(3,1),(4,1)]∧tF 72 0 0 false 1∧tF 72 1 1 false 1∧tF 72 2 2 false 1∧tF 72 3 3 false 1∧tF 72 4 4 false 1∧feq C.P 72=some [1,1,1,1,0]))))∧((((tR 73 5 [.int .i64 0,.int .i64 0,.int .i64 0,.int .i64 0,.nils] [(0,1),(1,1),(2,1),(3,1),(4,1)]∧tF 73 0 0 false 1∧tF 73 1 1 false 1∧tF 73 2 2 false 1∧tF 73 3 3 false 1∧tF 73 4 4 false 1∧feq C.P 73=some [1,1,1,1,0])∧(tR 74 6 [.str [],.int .i64 0,.int .i64 0,.int .i64 0,.int .i64 0,.nils] [(0,1),(1,5)]∧tF 74 0 0 false 1∧tF 74 1 1 true 5∧feq C.P 74=some [3,0]))∧((tR 75 6 [.str [],.int .i64 0,.int .i64 0,.int .i64 0,.int .i64 0,.nils] [(0,1),(1,5)]∧tF 75 0 0 false 1∧tF 75 1 1 true 5∧feq C.P 75=some [3,0])∧(tT 76 false 1∧tZ 76 (.nilfn))))∧(((tT 77 false 1∧tZ 77 (.nilfn))∧(tT 78 false 1∧tZ 78 (.nilfn)))∧((tT 79 false 1∧tZ 79 (.any))∧(tT 80 false 1∧tZ 80 (.nilfn))))))∧(((((tT 81 false 1∧tZ 81 (.nilfn))∧(tT 82 false 1∧tZ 82 (.nilfn)))∧((tT 83 false 1∧tZ 83 (.any))∧(tT 84 false 1∧tZ 84 (.nilfn))))∧(((tT 85 false 1∧tZ 85 (.nilfn))∧(tT 86 false 1∧tZ 86 (.nilfn)))∧((tT 87 false 1∧tZ 87 (.nilfn))∧(tT 88 false 1∧tZ 88 (.nilfn)))))∧((((tR 89 3 [.int .i64 0,.int .i64 0,.int .i64 0] [(0,2),(2,1)]∧tF 89 0 0 true 2∧tF 89 1 2 false 1)∧(tR 90 3 [.int .i64 0,.int .i64 0,.int .i64 0] [(0,2),(2,1)]∧tF 90 0 0 true 2∧tF 90 1 2 false 1))∧(tP 91∧(tR 92 3 [.nils,.int .i64 0,.int .i64 0] [(0,1),(1,1),(2,1)]∧tF 92 0 0 false 1∧tF 92 1 1 false 1∧tF 92 2 2 false 1∧feq C.P 92=some [0,1,1])))∧(((tR 93 3 [.nils,.int .i64 0,.int .i64 0] [(0,1),(1,1),(2,1)]∧tF 93 0 0 false 1∧tF 93 1 1 false 1∧tF 93 2 2 false 1∧feq C.P 93=some [0,1,1])∧(tT 94 false 1∧tZ 94 (.nilfn)))∧((tT 95 false 1∧tZ 95 (.nilfn))∧tP 96)))))∧((((((tR 97 4 [.nils,.int .i64 0,.int .i64 0,.int .i64 0] [(0,1),(1,1),(2,1),(3,1)]∧tF 97 0 0 false 1∧tF 97 1 1 false 1∧tF 97 2 2 false 1∧tF 97 3 3 false 1∧feq C.P 97=some [0,1,1,1])∧(tR 98 4 [.nils,.int .i64 0,.int .i64 0,.int .i64 0] [(0,1),(1,1),(2,1),(3,1)]∧tF 98 0 0 false 1∧tF 98 1 1 false 1∧tF 98 2 2 false 1∧tF 98 3 3 false 1∧feq C.P 98=some [0,1,1,1]))∧((tT 99 false 1∧tZ 99 (.nilfn))∧(tT 100 false 1∧tZ 100 (.nilfn))))∧(((tT 101 false 1∧tZ 101 (.nilfn))∧(tT 102 false 1∧tZ 102 (.nilfn)))∧((tT 103 false 1∧tZ 103 (.nilfn))∧(tT 104 false 1∧tZ 104 (.nilfn)))))∧((((tT 105 false 1∧tZ 105 (.nilfn))∧(tT 106 false 1∧tZ 106 (.nilfn)))∧((tT 107 false 1∧tZ 107 (.nilfn))∧(tT 108 false 1∧tZ 108 (.nilfn))))∧((tP 109∧(tR 110 4 [.str [],.int .i64 0,.int .i64 0,.int .i64 0] [(0,1),(1,1),(2,1),(3,1)]∧tF 110 0 0 false 1∧tF 110 1 1 false 1∧tF 110 2 2 false 1∧tF 110 3 3 false 1∧feq C.P 110=some [3,1,1,1]))∧((tR 111 4 [.str [],.int .i64 0,.int .i64 0,.int .i64 0] [(0,1),(1,1),(2,1),(3,1)]∧tF 111 0 0 false 1∧tF 111 1 1 false 1∧tF 111 2 2 false 1∧tF 111 3 3 false 1∧feq C.P 111=some [3,1,1,1])∧(tT 112 false 1∧tZ 112 (.nilfn))))))∧(((((tT 113 false 1∧tZ 113 (.nilfn))∧(tT 114 false 1∧tZ 114 (.nilfn)))∧((tT 115 false 1∧tZ 115 (.any))∧(tT 116 false 1∧tZ 116 (.nilfn))))∧(((tT 117 false 1∧tZ 117 (.nilfn))∧(tT 118 false 1∧tZ 118 (.nilfn)))∧((tT 119 false 1∧tZ 119 (.any))∧(tT 120 false 1∧tZ 120 (.nilfn)))))∧((((tT 121 false 1∧tZ 121 (.nilfn))∧(tT 122 false 1∧tZ 122 (.nilfn)))∧((tT 123 false 1∧tZ 123 (.nilfn))∧(tT 124 false 1∧tZ 124 (.nilfn))))∧(((tT 125 false 1∧tZ 125 (.nilfn))∧(tT 126 false 1∧tZ 126 (.nilfn)))∧((tT 127 false 1∧tZ 127 (.nilfn))∧((tT 128 false 1∧tZ 128 (.nilfn))∧(tT 129 false 1∧tZ 129 (.nilfn))))))))))∧((((((((tT 130 false 1∧tZ 130 (.nilfn))∧(tT 131 false 1∧tZ 131 (.nilfn)))∧((tT 132 false 1∧tZ 132 (.nilfn))∧(tT 133 false 1∧tZ 133 (.nilfn))))∧(((tT 134 false 1∧tZ 134 (.nilfn))∧(tT 135 false 1∧tZ 135 (.any)))∧((tT 136 false 1∧tZ 136 (.nilfn))∧(tT 137 false 1∧tZ 137 (.nilfn)))))∧((((tT 138 false 1∧tZ 138 (.nilfn))∧(tT 139 false 1∧tZ 139 (.nilfn)))∧((tR 140 1 [.bool false] [(0,1)]∧tF 140 0 0 false 1∧feq C.P 140=some [2])∧(tR 141 1 [.bool false] [(0,1)]∧tF 141 0 0 false 1∧feq C.P 141=some [2])))∧(((tT 142 false 1∧tZ 142 (.nilfn))∧(tT 143 false 1∧tZ 143 (.nilfn)))∧((tT 144 false 1∧tZ 144 (.nilfn))∧(tT 145 false 1∧tZ 145 (.nilfn))))))∧(((((tT 146 false 1∧tZ 146 (.nilfn))∧(tT 147 false 1∧tZ 147 (.nilfn)))∧((tT 148 false 1∧tZ 148 (.nilfn))∧(tT 149 false 1∧tZ 149 (.any))))∧(((tT 150 false 1∧tZ 150 (.nilfn))∧tI 151 .u32)∧((tT 152 false 1∧tZ 152 (.nilfn))∧(tT 153 false 1∧tZ 153 (.nilfn)))))∧((((tT 154 false 1∧tZ 154 (.nilfn))∧(tT 155 false 1∧tZ 155 (.nilfn)))∧((tT 156 false 1∧tZ 156 (.nilfn))∧(tT 157 false 1∧tZ 157 (.nilfn))))∧(((tT 158 false 1∧tZ 158 (.nilfn))∧(tT 159 false 1∧tZ 159 (.nilfn)))∧((tT 160 false 1∧tZ 160 (.nilfn))∧(tT 161 false 1∧tZ 161 (.nilfn)))))))∧((((((tT 162 false 1∧tZ 162 (.nilfn))∧(tT 163 false 1∧tZ 163 (.nilfn)))∧((tT 164 false 1∧tZ 164 (.nilfn))∧(tT 165 false 1∧tZ 165 (.nilfn))))∧(((tT 166 false 1∧tZ 166 (.nilfn))∧(tT 167 false 1∧tZ 167 (.nilfn)))∧((tT 168 false 1∧tZ 168 (.nilfn))∧(tL 169 5 1 1∧byq C.P 169=true))))∧((((tT 170 false 1∧tZ 170 (.any))∧(tT 171 false 1∧tZ 171 (.nilfn)))∧(tI 172 .u64∧tI 173 .u64))∧(((tT 174 false 1∧tZ 174 (.any))∧(tT 175 false 1∧tZ 175 (.nilfn)))∧((tT 176 false 1∧tZ 176 (.nilfn))∧(tT 177 false 1∧tZ 177 (.nilfn))))))∧(((((tT 178 false 1∧tZ 178 (.nilfn))∧(tT 179 false 1∧tZ 179 (.nilfn)))∧((tT 180 false 1∧tZ 180 (.nilfn))∧aq C.P 181=some (256,5)))∧(((tT 182 false 1∧tZ 182 (.nilfn))∧(tT 183 false 1∧tZ 183 (.nilfn)))∧((tT 184 false 1∧tZ 184 (.any))∧(tT 185 false 1∧tZ 185 (.nilfn)))))∧((((tT 186 false 1∧tZ 186 (.nilfn))∧(tT 187 false 1∧tZ 187 (.nilfn)))∧((tT 188 false 1∧tZ 188 (.nilfn))∧(tT 189 false 1∧tZ 189 (.nilfn))))∧(((tT 190 false 1∧tZ 190 (.nilfn))∧(tT 191 false 1∧tZ 191 (.nilfn)))∧((tT 192 false 1∧tZ 192 (.nilfn))∧((tT 193 false 1∧tZ 193 (.nilfn))∧(tT 194 false 1∧tZ 194 (.nilfn)))))))))∧((((((tL 195 197 2 16∧(tR 196 2 [.int .i64 0,.int .i64 0] [(0,1),(1,1)]∧tF 196 0 0 false 1∧tF 196 1 1 false 1∧feq C.P 196=some [1,1]))∧((tR 197 2 [.int .i64 0,.int .i64 0] [(0,1),(1,1)]∧tF 197 0 0 false 1∧tF 197 1 1 false 1∧feq C.P 197=some [1,1])∧(tT 198 false 1∧tZ 198 (.nilfn))))∧((tP 199∧(tT 200 false 1∧tZ 200 (.nilfn)))∧((tT 201 false 1∧tZ 201 (.nilfn))∧(tT 202 false 1∧tZ 202 (.any)))))∧((((tT 203 false 1∧tZ 203 (.nilmap))∧tL 204 203 1 8)∧((tT 205 false 1∧tZ 205 (.nilfn))∧(tT 206 false 1∧tZ 206 (.nilfn))))∧(((tT 207 false 1∧tZ 207 (.nilfn))∧(tT 208 false 1∧tZ 208 (.nilfn)))∧((tT 209 false 1∧tZ 209 (.nilfn))∧tL 210 216 3 6))))∧((((tL 211 219 3 12∧(tR 212 3 [.nils,.nils,.int .i64 0] [(0,1),(1,1),(2,1)]∧tF 212 0 0 false 1∧tF 212 1 1 false 1∧tF 212 2 2 false 1∧feq C.P 212=some [0,0,1]))∧((tR 213 3 [.nils,.nils,.int .i64 0] [(0,1),(1,1),(2,1)]∧tF 213 0 0 false 1∧tF 213 1 1 false 1∧tF 213 2 2 false 1∧feq C.P 213=some [0,0,1])∧tI 214 .u16))∧(((tR 215 3 [.int .u16 0,.int .u16 0,.int .u16 0] [(0,1),(1,1),(2,1)]∧tF 215 0 0 false 1∧tF 215 1 1 false 1∧tF 215 2 2 false 1∧feq C.P 215=some [1,1,1])∧(tR 216 3 [.int .u16 0,.int .u16 0,.int .u16 0] [(0,1),(1,1),(2,1)]∧tF 216 0 0 false 1∧tF 216 1 1 false 1∧tF 216 2 2 false 1∧feq C.P 216=some [1,1,1]))∧((tT 217 false 1∧tZ 217 (.nilfn))∧(tR 218 3 [.int .u32 0,.int .u32 0,.int .u32 0] [(0,1),(1,1),(2,1)]∧tF 218 0 0 false 1∧tF 218 1 1 false 1∧tF 218 2 2 false 1∧feq C.P 218=some [1,1,1]))))∧((((tR 219 3 [.int .u32 0,.int .u32 0,.int .u32 0] [(0,1),(1,1),(2,1)]∧tF 219 0 0 false 1∧tF 219 1 1 false 1∧tF 219 2 2 false 1∧feq C.P 219=some [1,1,1])∧(tT 220 false 1∧tZ 220 (.nilfn)))∧((tT 221 false 1∧tZ 221 (.nilfn))∧(tR 222 1 [.bool false] [(0,1)]∧tF 222 0 0 false 1∧feq C.P 222=some [2])))∧(((tR 223 1 [.bool false] [(0,1)]∧tF 223 0 0 false 1∧feq C.P 223=some [2])∧(tR 224 2 [.nils,.nils] [(0,1),(1,1)]∧tF 224 0 0 false 1∧tF 224 1 1 false 1∧feq C.P 224=some [0,0]))∧((tR 225 2 [.nils,.nils] [(0,1),(1,1)]∧tF 225 0 0 false 1∧tF 225 1 1 false 1∧feq C.P 225=some [0,0])∧(tR 226 3 [.bool false,.nils,.nils] [(0,1),(1,2)]∧tF 226 0 0 true 1∧tF 226 1 1 true 2∧feq C.P 226=some [0,0]))))))∧((((((tR 227 3 [.bool false,.nils,.nils] [(0,1),(1,2)]∧tF 227 0 0 true 1∧tF 227 1 1 true 2∧feq C.P 227=some [0,0])∧(tT 228 false 1∧tZ 228 (.nilfn)))∧(tP 229∧tP 230))∧(((tT 231 false 1∧tZ 231 (.any))∧(tT 232 false 1∧tZ 232 (.nilfn)))∧((tT 233 false 1∧tZ 233 (.nilfn))∧(tT 234 false 1∧tZ 234 (.nilfn)))))∧((((tT 235 false 1∧tZ 235 (.nilfn))∧(tT 236 false 1∧tZ 236 (.any)))∧((tT 237 false 1∧tZ 237 (.nilfn))∧(tT 238 false 1∧tZ 238 (.nilfn))))∧(((tT 239 false 1∧tZ 239 (.nilfn))∧(tT 240 false 1∧tZ 240 (.nilfn)))∧((tT 241 false 1∧ifq C.P 241=true∧tZ 241 (.niliface))∧(tT 242 false 1∧ifq C.P 242=true∧tZ 242 (.niliface))))))∧((((tP 243∧(tR 244 4 [.nilp,.nilp,.nilp,.str []] [(0,1),(1,1),(2,1),(3,1)]∧tF 244 0 0 false 1∧tF 244 1 1 false 1∧tF 244 2 2 false 1∧tF 244 3 3 false 1))∧((tR 245 4 [.nilp,.nilp,.nilp,.str []] [(0,1),(1,1),(2,1),(3,1)]∧tF 245 0 0 false 1∧tF 245 1 1 false 1∧tF 245 2 2 false 1∧tF 245 3 3 false 1)∧(tT 246 true 0∧aq C.P 246=some (0,16)∧tZ 246 (.agg []))))∧(((tR 247 0 [] [(0,0)]∧tF 247 0 0 true 0)∧(tR 248 0 [] [(0,0)]∧tF 248 0 0 true 0))∧(tI 249 .u8∧tI 250 .u8)))∧((((tT 251 false 1∧tZ 251 (.nilfn))∧tP 252)∧(tI 253 .i32∧tI 254 .i32))∧(((tR 255 11 [.int .u64 0,.int .u64 0,.int .u32 0,.int .u8 0,.int .u8 0,.int .u8 0,.int .u8 0,.nilfn,.nilp,.int .i32 0,.int .i32 0] [(0,1),(1,1),(2,1),(3,1),(4,1),(5,1),(6,1),(7,1),(8,1),(9,1),(10,1)]∧tF 255 0 0 false 1∧tF 255 1 1 false 1∧tF 255 2 2 false 1∧tF 255 3 3 false 1∧tF 255 4 4 false 1∧tF 255 5 5 false 1∧tF 255 6 6 false 1∧tF 255 7 7 false 1∧tF 255 8 8 false 1∧tF 255 9 9 false 1∧tF 255 10 10 false 1)∧(tR 256 11 [.int .u64 0,.int .u64 0,.int .u32 0,.int .u8 0,.int .u8 0,.int .u8 0,.int .u8 0,.nilfn,.nilp,.int .i32 0,.int .i32 0] [(0,1),(1,1),(2,1),(3,1),(4,1),(5,1),(6,1),(7,1),(8,1),(9,1),(10,1)]∧tF 256 0 0 false 1∧tF 256 1 1 false 1∧tF 256 2 2 false 1∧tF 256 3 3 false 1∧tF 256 4 4 false 1∧tF 256 5 5 false 1∧tF 256 6 6 false 1∧tF 256 7 7 false 1∧tF 256 8 8 false 1∧tF 256 9 9 false 1∧tF 256 10 10 false 1))∧((tR 257 1 [.str []] [(0,1)]∧tF 257 0 0 false 1∧feq C.P 257=some [3])∧((tR 258 1 [.str []] [(0,1)]∧tF 258 0 0 false 1∧feq C.P 258=some [3])∧(tT 259 false 1∧tZ 259 (.nilp)))))))))):=by repeat' (first | refine And.intro ?_ ?_ | (show _=_;kernel_rfl))
theorem FY:type_of% (And.intro EY FA):=And.intro EY FA
/-- A quiet region, what follows it stays in the goal. -/
theorem WC.go {n id:Nat} {l:List Oper} {y:Code} {σ σ':St} {Q:AEx→St→Prop} (k:WC C n y σ' Q) (h:∀ (K:St→Prop) (KP:PVal→St→Prop),K σ'→H8 C n l l σ K KP .mk:=by intro K _ hK;simp only [↓EJ,FY,List.length_map,simprocAttr];exact hK):WC C n (.seq (.region id l.toArray false) y) σ Q :=
 WC.rs fun K hK=>h K _ (hK _ k)
theorem A2 {n id:Nat} {l:List Oper} {y:Code} {σ:St} {Q:AEx→St→Prop} (zs:List Nat) {cut:List (List Oper × Oper)} {last:List Oper}
  (h:∀ K:St→Prop,(∀ σ',WC C n y σ' Q→K σ')→Kp C n l K (fun p σ'=>Q (.pan p) σ') cut last σ .mk) (hs:Sq zs l=some (cut,last):=by simp only [Sq,List.drop_zero,List.drop_succ_cons,List.take_zero,List.take_succ_cons,Option.map_some];rfl):WC C n (.seq (.region id l.toArray false) y) σ Q:=WC.zs zs hs h
theorem F9 {n id:Nat} {l:List Oper} {σ:St} {Q:AEx→St→Prop} (zs:List Nat) {cut:List (List Oper × Oper)} {last:List Oper}
  (h:Kp C n l (Q .normal) (fun p σ'=>Q (.pan p) σ') cut last σ .mk) (hs:Sq zs l=some (cut,last):=by simp only [Sq,List.drop_zero,List.drop_succ_cons,List.take_zero,List.take_succ_cons,Option.map_some];rfl):WC C n (.region id l.toArray false) σ Q:=WC.z1 zs hs h
theorem WC.dg {n id:Nat} {l:List Oper} {y:Code} {σ:St} {Q:AEx→St→Prop} (plan:List Pl) (rows:List Nat) {r:List (Pl × Oper)}
  (h:∀ K:St→Prop,(∀ σ',WC C n y σ' Q→K σ')→Hk C n l K (fun p σ'=>Q (.pan p) σ') r [] σ .mk) (hB:Tq l.toArray plan rows=true:=by kernel_rfl) (hr:Gh l plan=r:=by simp only [EPl,List.getElem?_cons_zero,List.getElem?_cons_succ];rfl):WC C n (.seq (.region id l.toArray true) y) σ Q:=WC.ds plan rows mo hB hr h
theorem Dn {n id:Nat} {l:List Oper} {σ:St} {Q:AEx→St→Prop} (plan:List Pl) (rows:List Nat) {r:List (Pl × Oper)}
  (h:Hk C n l (Q .normal) (fun p σ'=>Q (.pan p) σ') r [] σ .mk) (hB:Tq l.toArray plan rows=true:=by kernel_rfl) (hr:Gh l plan=r:=by simp only [EPl,List.getElem?_cons_zero,List.getElem?_cons_succ];rfl):WC C n (.region id l.toArray true) σ Q:=WC.d1 plan rows mo hB hr h
theorem FSem.en {f:FuncId} {fn:Func} {c:Code} (n:Nat) {args:List PVal} {st:List Blk} {R:PRes→List Blk→Prop} (hf:C.P.funcs[f]? = some fn) (h:WC C n c ⟨Aj 0 args,st,[],[]⟩ (FnQ C fn R))
  (hb:fn.body=some c:=by rfl) (hn:fn.ntmps=n:=by rfl) (ok:okF C.P f=true:=by kernel_rfl) (ha:args.length≤n:=by simp):FSem C f args st R:=Xr hf hb hn ok ha h
theorem Bg {g:FuncId} {args:List PVal} {σ:St} {K KP:PVal→St→Prop} {u:TagK K KP} {v:PVal} (spec:FSem C g args [] fun r st=>r=.ret v∧st=[]) (h:K v σ)
  (ha:ClosedL args:=by simp only [CL,Al,As,Ab,and_self]) (hv:Closed v:=by simp only [CL,Al,As,Ab,and_self]):CallX C g args σ K KP u:=CallX.mk (CallW.pure spec ha hv h)
end Go.LexSem
namespace Go.LexSem
open Go Go.V Go.Proofs Go.Shelf
def W9:Go.Shelf.Ren:=⟨fun | 133=>217 | 128=>220 | n=>n,fun | 51=>151 | 3=>3 | 4=>4 | 46=>172 | 5=>5 | 9=>9 | n=>n,fun | n=>n⟩
theorem lays133:Go.Proofs.Lays.n133 Tryz.prog W9:={
 mixed:=by kernel_rfl
 f128:=Tryz.func220.trans (congrArg some (by kernel_rfl))
 f133:=Tryz.func217.trans (congrArg some (by kernel_rfl))
 t3:=Tryz.underlying3
 a3:=Tryz.isAgg3
 z3:=Tryz.sizeOf3
 v3:=Tryz.zeroValue3
 t4:=Tryz.underlying4
 a4:=Tryz.isAgg4
 z4:=Tryz.sizeOf4
 v4:=Tryz.zeroValue4
 t5:=Tryz.underlying5
 a5:=Tryz.isAgg5
 z5:=Tryz.sizeOf5
 v5:=Tryz.zeroValue5
 t9:=Tryz.underlying9
 a9:=Tryz.isAgg9
 z9:=Tryz.sizeOf9
 v9:=Tryz.zeroValue9
 t46:=Tryz.underlying172
 a46:=Tryz.isAgg172
 z46:=Tryz.sizeOf172
 v46:=Tryz.zeroValue172
 t51:=Tryz.underlying151
 a51:=Tryz.isAgg151
 z51:=Tryz.sizeOf151
 v51:=Tryz.zeroValue151 }
/-- bits.LeadingZeros32: "LeadingZeros32 returns the number of leading zero bits in x; the result is 32 for x == 0.": IT RETURNS '32 - Lib.bitLen x'; the world is as it was. ITS CALLEE bits.Len32 IS MET BY ITS OWN CONTRACT OFF THE SHELF (lay that first): entered in place it sends the kernel out of memory. (LAID: no walk: one application.) -/
def Pe:Go.Shelf.Ren:=⟨fun | 157=>121 | 229=>142 | 199=>143 | 261=>166 | 311=>183 | 312=>184 | n=>n,fun | 9=>9 | 31=>27 | 3=>3 | 5=>5 | 4=>4 | 119=>181 | 0=>0 | 40=>183 | 152=>195 | 21=>21 | 154=>197 | 51=>151 | 141=>199 | 196=>213 | 193=>210 | 198=>216 | 49=>214 | 194=>211 | 201=>219 | 226=>229 | 46=>172 | 227=>230 | n=>n,fun | 0=>0 | 6=>1 | n=>n⟩
theorem lays157:Go.Proofs.Lays.n157 Tryz.prog Pe:={
 mixed:=by kernel_rfl
 f157:=Tryz.func121.trans (congrArg some (by kernel_rfl))
 f199:=Tryz.func143.trans (congrArg some (by kernel_rfl))
 f229:=Tryz.func142.trans (congrArg some (by kernel_rfl))
 f261:=Tryz.func166.trans (congrArg some (by kernel_rfl))
 f311:=Tryz.func183.trans (congrArg some (by kernel_rfl))
 f312:=Tryz.func184.trans (congrArg some (by kernel_rfl))
 t0:=Tryz.underlying0
 a0:=Tryz.isAgg0
 z0:=Tryz.sizeOf0
 v0:=Tryz.zeroValue0
 t3:=Tryz.underlying3
 a3:=Tryz.isAgg3
 z3:=Tryz.sizeOf3
 v3:=Tryz.zeroValue3
 t4:=Tryz.underlying4
 a4:=Tryz.isAgg4
 z4:=Tryz.sizeOf4
 v4:=Tryz.zeroValue4
 t5:=Tryz.underlying5
 a5:=Tryz.isAgg5
 z5:=Tryz.sizeOf5
 v5:=Tryz.zeroValue5
 t9:=Tryz.underlying9
 a9:=Tryz.isAgg9
 z9:=Tryz.sizeOf9
 v9:=Tryz.zeroValue9
 t21:=Tryz.underlying21
 a21:=Tryz.isAgg21
 z21:=Tryz.sizeOf21
 v21:=Tryz.zeroValue21
 t31:=Tryz.underlying27
 a31:=Tryz.isAgg27
 z31:=Tryz.sizeOf27
 v31:=Tryz.zeroValue27
 t40:=Tryz.underlying183
 a40:=Tryz.isAgg183
 z40:=Tryz.sizeOf183
 v40:=Tryz.zeroValue183
 t46:=Tryz.underlying172
 a46:=Tryz.isAgg172
 z46:=Tryz.sizeOf172
 v46:=Tryz.zeroValue172
 t49:=Tryz.underlying214
 a49:=Tryz.isAgg214
 z49:=Tryz.sizeOf214
 v49:=Tryz.zeroValue214
 t51:=Tryz.underlying151
 a51:=Tryz.isAgg151
 z51:=Tryz.sizeOf151
 v51:=Tryz.zeroValue151
 t119:=Tryz.underlying181
 a119:=Tryz.isAgg181
 z119:=Tryz.sizeOf181
 t141:=Tryz.underlying199
 a141:=Tryz.isAgg199
 z141:=Tryz.sizeOf199
 v141:=Tryz.zeroValue199
 t152:=Tryz.underlying195
 a152:=Tryz.isAgg195
 z152:=Tryz.sizeOf195
 v152:=Tryz.zeroValue195
 t154:=Tryz.underlying197
 a154:=Tryz.isAgg197
 z154:=Tryz.sizeOf197
 v154:=Tryz.zeroValue197
 t193:=Tryz.underlying210
 a193:=Tryz.isAgg210
 z193:=Tryz.sizeOf210
 v193:=Tryz.zeroValue210
 t194:=Tryz.underlying211
 a194:=Tryz.isAgg211
 z194:=Tryz.sizeOf211
 v194:=Tryz.zeroValue211
 t196:=Tryz.underlying213
 a196:=Tryz.isAgg213
 z196:=Tryz.sizeOf213
 v196:=Tryz.zeroValue213
 t198:=Tryz.underlying216
 a198:=Tryz.isAgg216
 z198:=Tryz.sizeOf216
 v198:=Tryz.zeroValue216
 t201:=Tryz.underlying219
 a201:=Tryz.isAgg219
 z201:=Tryz.sizeOf219
 v201:=Tryz.zeroValue219
 t226:=Tryz.underlying229
 a226:=Tryz.isAgg229
 z226:=Tryz.sizeOf229
 v226:=Tryz.zeroValue229
 t227:=Tryz.underlying230
 a227:=Tryz.isAgg230
 z227:=Tryz.sizeOf230
 v227:=Tryz.zeroValue230
 g0:=by kernel_rfl
 g6:=by kernel_rfl }
end Go.LexSem
