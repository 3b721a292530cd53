import Derived.Test.YtjnlogbbcceaoaaGreatK4
import Derived.Test.YtjnlogbbcceaoaaGreatRows
import Derived.Shelf.Small.Bits
import Derived.Shelf.Strconv.Itoa0
import Derived.Shelf.Strings.Search1
import Derived.Shelf.Strings.Search2
import Derived.Shelf.Strings.Cut
import Derived.Shelf.LaysM
import Derived.Shelf.Strings.Shaped
import Derived.Shelf.Sort.Plain
import Derived.Shelf.Slices.CompactS
import Derived.Shelf.Slices.Cells
import Derived.Shelf.Slices.In.SortNone
import Derived.Test.YtjnlogbbcceaoaaGreatProg
set_option linter.all false
set_option maxRecDepth 100000
namespace Go.Sx
open Go Go.Proofs
instance : El Tryz.prog 22 3 1 := ⟨by kernel_rfl⟩
instance : El Tryz.prog 24 80 3 := ⟨by kernel_rfl⟩
instance : El Tryz.prog 25 84 2 := ⟨by kernel_rfl⟩
instance : El Tryz.prog 26 53 4 := ⟨by kernel_rfl⟩
instance : El Tryz.prog 43 42 3 := ⟨by kernel_rfl⟩
instance : El Tryz.prog 46 45 6 := ⟨by kernel_rfl⟩
instance : El Tryz.prog 47 72 3 := ⟨by kernel_rfl⟩
instance : El Tryz.prog 48 66 3 := ⟨by kernel_rfl⟩
instance : El Tryz.prog 51 50 10 := ⟨by kernel_rfl⟩
instance : El Tryz.prog 60 61 1 := ⟨by kernel_rfl⟩
instance : El Tryz.prog 61 9 1 := ⟨by kernel_rfl⟩
instance : El Tryz.prog 78 98 3 := ⟨by kernel_rfl⟩
instance : El Tryz.prog 82 101 3 := ⟨by kernel_rfl⟩
instance : El Tryz.prog 87 89 1 := ⟨by kernel_rfl⟩
instance : El Tryz.prog 92 88 1 := ⟨by kernel_rfl⟩
instance : El Tryz.prog 96 175 4 := ⟨by kernel_rfl⟩
instance : El Tryz.prog 133 4 1 := ⟨by kernel_rfl⟩
instance : El Tryz.prog 162 22 1 := ⟨by kernel_rfl⟩
instance : El Tryz.prog 225 5 1 := ⟨by kernel_rfl⟩
instance : Plc Tryz.prog 28 [(0, 1), (1, 1), (2, 1)] := ⟨by kernel_rfl⟩
instance : Plc Tryz.prog 35 [(0, 1), (1, 1), (2, 1)] := ⟨by kernel_rfl⟩
instance : Plc Tryz.prog 40 [(0, 1), (1, 1)] := ⟨by kernel_rfl⟩
instance : Plc Tryz.prog 42 [(0, 1), (1, 2)] := ⟨by kernel_rfl⟩
instance : Plc Tryz.prog 45 [(0, 1), (1, 1), (2, 1), (3, 1), (4, 1), (5, 1)] := ⟨by kernel_rfl⟩
instance : Plc Tryz.prog 50 [(0, 1), (1, 1), (2, 1), (3, 1), (4, 1), (5, 1), (6, 1), (7, 1), (8, 1), (9, 1)] := ⟨by kernel_rfl⟩
instance : Plc Tryz.prog 53 [(0, 1), (1, 1), (2, 1), (3, 1)] := ⟨by kernel_rfl⟩
instance : Plc Tryz.prog 66 [(0, 1), (1, 1), (2, 1)] := ⟨by kernel_rfl⟩
instance : Plc Tryz.prog 72 [(0, 1), (1, 1), (2, 1)] := ⟨by kernel_rfl⟩
instance : Plc Tryz.prog 80 [(0, 1), (1, 1), (2, 1)] := ⟨by kernel_rfl⟩
instance : Plc Tryz.prog 84 [(0, 1), (1, 1)] := ⟨by kernel_rfl⟩
instance : Plc Tryz.prog 98 [(0, 1), (1, 1), (2, 1)] := ⟨by kernel_rfl⟩
instance : Plc Tryz.prog 101 [(0, 1), (1, 1), (2, 1)] := ⟨by kernel_rfl⟩
instance : Plc Tryz.prog 115 [(0, 1), (1, 1)] := ⟨by kernel_rfl⟩
instance : Plc Tryz.prog 124 [(0, 1), (1, 1), (2, 4), (6, 1), (7, 1), (8, 1), (9, 1), (10, 1)] := ⟨by kernel_rfl⟩
instance : Plc Tryz.prog 164 [(0, 3), (3, 1), (4, 1)] := ⟨by kernel_rfl⟩
instance : Plc Tryz.prog 175 [(0, 1), (1, 2), (3, 1)] := ⟨by kernel_rfl⟩
instance : Elz Tryz.prog 22 3 1 8 [Value.int IntKind.i64 0] := ⟨by kernel_rfl, rfl⟩
instance : Elz Tryz.prog 24 80 3 64 [gs [], Value.slice none 0 0, Value.slice none 0 0] := ⟨by kernel_rfl, rfl⟩
instance : Elz Tryz.prog 25 84 2 40 [gs [], Value.slice none 0 0] := ⟨by kernel_rfl, rfl⟩
instance : Elz Tryz.prog 26 53 4 88 [gs [], Value.slice none 0 0, Value.slice none 0 0, Value.slice none 0 0] := ⟨by kernel_rfl, rfl⟩
instance : Elz Tryz.prog 43 42 3 40 [gs [], Value.int IntKind.i64 0, gs []] := ⟨by kernel_rfl, rfl⟩
instance : Elz Tryz.prog 46 45 6 64 [Value.int IntKind.i64 0, gs [], Value.int IntKind.i64 0, gs [], Value.int IntKind.i64 0, Value.int IntKind.i64 0] := ⟨by kernel_rfl, rfl⟩
instance : Elz Tryz.prog 47 72 3 56 [gs [], gs [], Value.slice none 0 0] := ⟨by kernel_rfl, rfl⟩
instance : Elz Tryz.prog 48 66 3 40 [gs [], gs [], Value.int IntKind.i64 0] := ⟨by kernel_rfl, rfl⟩
instance : Elz Tryz.prog 51 50 10 160 [Value.int IntKind.i64 0, gs [], gs [], gs [], gs [], Value.int IntKind.i64 0, Value.slice none 0 0, Value.slice none 0 0, Value.slice none 0 0, Value.int IntKind.i64 0] := ⟨by kernel_rfl, rfl⟩
instance : Elz Tryz.prog 60 61 1 24 [Value.slice none 0 0] := ⟨by kernel_rfl, rfl⟩
instance : Elz Tryz.prog 61 9 1 16 [gs []] := ⟨by kernel_rfl, rfl⟩
instance : Elz Tryz.prog 78 98 3 56 [gs [], gs [], Value.slice none 0 0] := ⟨by kernel_rfl, rfl⟩
instance : Elz Tryz.prog 82 101 3 48 [Value.int IntKind.i64 0, gs [], Value.slice none 0 0] := ⟨by kernel_rfl, rfl⟩
instance : Elz Tryz.prog 87 89 1 8 [Value.nilFunc] := ⟨by kernel_rfl, rfl⟩
instance : Elz Tryz.prog 92 88 1 8 [Value.nilFunc] := ⟨by kernel_rfl, rfl⟩
instance : Elz Tryz.prog 96 175 4 48 [gs [], Value.int IntKind.i64 0, gs [], Value.int IntKind.i64 0] := ⟨by kernel_rfl, rfl⟩
instance : Elz Tryz.prog 133 4 1 1 [Value.bool false] := ⟨by kernel_rfl, rfl⟩
instance : Elz Tryz.prog 162 22 1 24 [Value.slice none 0 0] := ⟨by kernel_rfl, rfl⟩
instance : Elz Tryz.prog 225 5 1 1 [Value.int IntKind.u8 0] := ⟨by kernel_rfl, rfl⟩
instance : Ty Tryz.prog 2 false 1 := ⟨by kernel_rfl⟩
instance : Ty Tryz.prog 3 false 1 := ⟨by kernel_rfl⟩
instance : Ty Tryz.prog 4 false 1 := ⟨by kernel_rfl⟩
instance : Ty Tryz.prog 9 false 1 := ⟨by kernel_rfl⟩
instance : Ty Tryz.prog 22 false 1 := ⟨by kernel_rfl⟩
instance : Ty Tryz.prog 24 false 1 := ⟨by kernel_rfl⟩
instance : Ty Tryz.prog 25 false 1 := ⟨by kernel_rfl⟩
instance : Ty Tryz.prog 26 false 1 := ⟨by kernel_rfl⟩
instance : Ty Tryz.prog 28 true 3 := ⟨by kernel_rfl⟩
instance : Ty Tryz.prog 33 false 1 := ⟨by kernel_rfl⟩
instance : Ty Tryz.prog 35 true 3 := ⟨by kernel_rfl⟩
instance : Ty Tryz.prog 40 true 2 := ⟨by kernel_rfl⟩
instance : Ty Tryz.prog 42 true 3 := ⟨by kernel_rfl⟩
instance : Ty Tryz.prog 43 false 1 := ⟨by kernel_rfl⟩
instance : Ty Tryz.prog 45 true 6 := ⟨by kernel_rfl⟩
instance : Ty Tryz.prog 46 false 1 := ⟨by kernel_rfl⟩
instance : Ty Tryz.prog 47 false 1 := ⟨by kernel_rfl⟩
instance : Ty Tryz.prog 48 false 1 := ⟨by kernel_rfl⟩
instance : Ty Tryz.prog 50 true 10 := ⟨by kernel_rfl⟩
instance : Ty Tryz.prog 51 false 1 := ⟨by kernel_rfl⟩
instance : Ty Tryz.prog 53 true 4 := ⟨by kernel_rfl⟩
instance : Ty Tryz.prog 61 false 1 := ⟨by kernel_rfl⟩
instance : Ty Tryz.prog 66 true 3 := ⟨by kernel_rfl⟩
instance : Ty Tryz.prog 72 true 3 := ⟨by kernel_rfl⟩
instance : Ty Tryz.prog 73 false 1 := ⟨by kernel_rfl⟩
instance : Ty Tryz.prog 78 false 1 := ⟨by kernel_rfl⟩
instance : Ty Tryz.prog 80 true 3 := ⟨by kernel_rfl⟩
instance : Ty Tryz.prog 82 false 1 := ⟨by kernel_rfl⟩
instance : Ty Tryz.prog 84 true 2 := ⟨by kernel_rfl⟩
instance : Ty Tryz.prog 87 false 1 := ⟨by kernel_rfl⟩
instance : Ty Tryz.prog 88 false 1 := ⟨by kernel_rfl⟩
instance : Ty Tryz.prog 89 false 1 := ⟨by kernel_rfl⟩
instance : Ty Tryz.prog 96 false 1 := ⟨by kernel_rfl⟩
instance : Ty Tryz.prog 98 true 3 := ⟨by kernel_rfl⟩
instance : Ty Tryz.prog 101 true 3 := ⟨by kernel_rfl⟩
instance : Ty Tryz.prog 110 false 1 := ⟨by kernel_rfl⟩
instance : Ty Tryz.prog 115 true 2 := ⟨by kernel_rfl⟩
instance : Ty Tryz.prog 117 false 1 := ⟨by kernel_rfl⟩
instance : Ty Tryz.prog 124 true 11 := ⟨by kernel_rfl⟩
instance : Ty Tryz.prog 133 false 1 := ⟨by kernel_rfl⟩
instance : Ty Tryz.prog 156 false 1 := ⟨by kernel_rfl⟩
instance : Ty Tryz.prog 162 false 1 := ⟨by kernel_rfl⟩
instance : Ty Tryz.prog 164 true 5 := ⟨by kernel_rfl⟩
instance : Ty Tryz.prog 175 true 4 := ⟨by kernel_rfl⟩
instance : Ty Tryz.prog 215 false 1 := ⟨by kernel_rfl⟩
instance : Zero Tryz.prog 3 [Value.int IntKind.i64 0] := ⟨by kernel_rfl⟩
instance : Zero Tryz.prog 22 [Value.slice none 0 0] := ⟨by kernel_rfl⟩
instance : Zero Tryz.prog 28 [Value.slice none 0 0, Value.slice none 0 0, Value.slice none 0 0] := ⟨by kernel_rfl⟩
instance : Zero Tryz.prog 35 [Value.int IntKind.i64 0, Value.int IntKind.i64 0, Value.int IntKind.i64 0] := ⟨by kernel_rfl⟩
instance : Zero Tryz.prog 40 [Value.int IntKind.i64 0, gs []] := ⟨by kernel_rfl⟩
instance : Zero Tryz.prog 42 [gs [], Value.int IntKind.i64 0, gs []] := ⟨by kernel_rfl⟩
instance : Zero Tryz.prog 45 [Value.int IntKind.i64 0, gs [], Value.int IntKind.i64 0, gs [], Value.int IntKind.i64 0, Value.int IntKind.i64 0] := ⟨by kernel_rfl⟩
instance : Zero Tryz.prog 50 [Value.int IntKind.i64 0, gs [], gs [], gs [], gs [], Value.int IntKind.i64 0, Value.slice none 0 0, Value.slice none 0 0, Value.slice none 0 0, Value.int IntKind.i64 0] := ⟨by kernel_rfl⟩
instance : Zero Tryz.prog 53 [gs [], Value.slice none 0 0, Value.slice none 0 0, Value.slice none 0 0] := ⟨by kernel_rfl⟩
instance : Zero Tryz.prog 61 [Value.slice none 0 0] := ⟨by kernel_rfl⟩
instance : Zero Tryz.prog 66 [gs [], gs [], Value.int IntKind.i64 0] := ⟨by kernel_rfl⟩
instance : Zero Tryz.prog 72 [gs [], gs [], Value.slice none 0 0] := ⟨by kernel_rfl⟩
instance : Zero Tryz.prog 80 [gs [], Value.slice none 0 0, Value.slice none 0 0] := ⟨by kernel_rfl⟩
instance : Zero Tryz.prog 84 [gs [], Value.slice none 0 0] := ⟨by kernel_rfl⟩
instance : Zero Tryz.prog 98 [gs [], gs [], Value.slice none 0 0] := ⟨by kernel_rfl⟩
instance : Zero Tryz.prog 101 [Value.int IntKind.i64 0, gs [], Value.slice none 0 0] := ⟨by kernel_rfl⟩
instance : Zero Tryz.prog 110 [Value.nilFunc] := ⟨by kernel_rfl⟩
instance : Zero Tryz.prog 115 [Value.slice none 0 0, Value.int IntKind.i64 0] := ⟨by kernel_rfl⟩
instance : Zero Tryz.prog 117 [Value.nilFunc] := ⟨by kernel_rfl⟩
instance : Zero Tryz.prog 124 [Value.pointer none, Value.slice none 0 0, gs [], Value.slice none 0 0, Value.slice none 0 0, Value.slice none 0 0, gs [], Value.slice none 0 0, Value.int IntKind.i64 0, Value.int IntKind.i64 0, Value.int IntKind.i64 0] := ⟨by kernel_rfl⟩
instance : Zero Tryz.prog 133 [Value.slice none 0 0] := ⟨by kernel_rfl⟩
instance : Zero Tryz.prog 156 [Value.nilFunc] := ⟨by kernel_rfl⟩
instance : Zero Tryz.prog 164 [gs [], Value.slice none 0 0, Value.slice none 0 0, gs [], Value.slice none 0 0] := ⟨by kernel_rfl⟩
instance : Zero Tryz.prog 175 [gs [], Value.int IntKind.i64 0, gs [], Value.int IntKind.i64 0] := ⟨by kernel_rfl⟩
instance : Zero Tryz.prog 215 [Value.int IntKind.u64 0] := ⟨by kernel_rfl⟩
instance : Fld Tryz.prog 28 0 0 := ⟨by kernel_rfl⟩
instance : Fld Tryz.prog 28 1 1 := ⟨by kernel_rfl⟩
instance : Fld Tryz.prog 28 2 2 := ⟨by kernel_rfl⟩
instance : Fld Tryz.prog 35 0 0 := ⟨by kernel_rfl⟩
instance : Fld Tryz.prog 35 1 1 := ⟨by kernel_rfl⟩
instance : Fld Tryz.prog 40 0 0 := ⟨by kernel_rfl⟩
instance : Fld Tryz.prog 40 1 1 := ⟨by kernel_rfl⟩
instance : Fld Tryz.prog 42 0 0 := ⟨by kernel_rfl⟩
instance : Fld Tryz.prog 42 1 1 := ⟨by kernel_rfl⟩
instance : Fld Tryz.prog 45 0 0 := ⟨by kernel_rfl⟩
instance : Fld Tryz.prog 45 1 1 := ⟨by kernel_rfl⟩
instance : Fld Tryz.prog 45 2 2 := ⟨by kernel_rfl⟩
instance : Fld Tryz.prog 45 3 3 := ⟨by kernel_rfl⟩
instance : Fld Tryz.prog 45 4 4 := ⟨by kernel_rfl⟩
instance : Fld Tryz.prog 45 5 5 := ⟨by kernel_rfl⟩
instance : Fld Tryz.prog 50 0 0 := ⟨by kernel_rfl⟩
instance : Fld Tryz.prog 50 1 1 := ⟨by kernel_rfl⟩
instance : Fld Tryz.prog 50 2 2 := ⟨by kernel_rfl⟩
instance : Fld Tryz.prog 50 3 3 := ⟨by kernel_rfl⟩
instance : Fld Tryz.prog 50 4 4 := ⟨by kernel_rfl⟩
instance : Fld Tryz.prog 50 5 5 := ⟨by kernel_rfl⟩
instance : Fld Tryz.prog 50 6 6 := ⟨by kernel_rfl⟩
instance : Fld Tryz.prog 50 7 7 := ⟨by kernel_rfl⟩
instance : Fld Tryz.prog 50 8 8 := ⟨by kernel_rfl⟩
instance : Fld Tryz.prog 50 9 9 := ⟨by kernel_rfl⟩
instance : Fld Tryz.prog 53 0 0 := ⟨by kernel_rfl⟩
instance : Fld Tryz.prog 53 1 1 := ⟨by kernel_rfl⟩
instance : Fld Tryz.prog 53 2 2 := ⟨by kernel_rfl⟩
instance : Fld Tryz.prog 53 3 3 := ⟨by kernel_rfl⟩
instance : Fld Tryz.prog 66 0 0 := ⟨by kernel_rfl⟩
instance : Fld Tryz.prog 66 1 1 := ⟨by kernel_rfl⟩
instance : Fld Tryz.prog 66 2 2 := ⟨by kernel_rfl⟩
instance : Fld Tryz.prog 72 0 0 := ⟨by kernel_rfl⟩
instance : Fld Tryz.prog 72 1 1 := ⟨by kernel_rfl⟩
instance : Fld Tryz.prog 72 2 2 := ⟨by kernel_rfl⟩
instance : Fld Tryz.prog 80 0 0 := ⟨by kernel_rfl⟩
instance : Fld Tryz.prog 80 1 1 := ⟨by kernel_rfl⟩
instance : Fld Tryz.prog 80 2 2 := ⟨by kernel_rfl⟩
instance : Fld Tryz.prog 84 0 0 := ⟨by kernel_rfl⟩
instance : Fld Tryz.prog 84 1 1 := ⟨by kernel_rfl⟩
instance : Fld Tryz.prog 98 0 0 := ⟨by kernel_rfl⟩
instance : Fld Tryz.prog 98 1 1 := ⟨by kernel_rfl⟩
instance : Fld Tryz.prog 98 2 2 := ⟨by kernel_rfl⟩
instance : Fld Tryz.prog 101 0 0 := ⟨by kernel_rfl⟩
instance : Fld Tryz.prog 101 1 1 := ⟨by kernel_rfl⟩
instance : Fld Tryz.prog 101 2 2 := ⟨by kernel_rfl⟩
instance : Fld Tryz.prog 115 0 0 := ⟨by kernel_rfl⟩
instance : Fld Tryz.prog 115 1 1 := ⟨by kernel_rfl⟩
instance : Fld Tryz.prog 124 0 0 := ⟨by kernel_rfl⟩
instance : Fld Tryz.prog 124 1 1 := ⟨by kernel_rfl⟩
instance : Fld Tryz.prog 124 2 2 := ⟨by kernel_rfl⟩
instance : Fld Tryz.prog 124 3 6 := ⟨by kernel_rfl⟩
instance : Fld Tryz.prog 124 4 7 := ⟨by kernel_rfl⟩
instance : Fld Tryz.prog 124 5 8 := ⟨by kernel_rfl⟩
instance : Fld Tryz.prog 124 6 9 := ⟨by kernel_rfl⟩
instance : Fld Tryz.prog 124 7 10 := ⟨by kernel_rfl⟩
instance : Fld Tryz.prog 164 0 0 := ⟨by kernel_rfl⟩
instance : Fld Tryz.prog 164 1 3 := ⟨by kernel_rfl⟩
instance : Fld Tryz.prog 164 2 4 := ⟨by kernel_rfl⟩
instance : Fld Tryz.prog 175 0 0 := ⟨by kernel_rfl⟩
instance : Fld Tryz.prog 175 1 1 := ⟨by kernel_rfl⟩
instance : Fld Tryz.prog 175 2 3 := ⟨by kernel_rfl⟩
instance : MapTB Tryz.prog 212 := ⟨by kernel_rfl⟩
instance : Und Tryz.prog 2 (TypeDesc.int IntKind.i64) := ⟨by kernel_rfl⟩
instance : Und Tryz.prog 3 (TypeDesc.int IntKind.i64) := ⟨by kernel_rfl⟩
instance : Und Tryz.prog 5 (TypeDesc.int IntKind.u8) := ⟨by kernel_rfl⟩
instance : Und Tryz.prog 9 TypeDesc.string := ⟨by kernel_rfl⟩
instance : Und Tryz.prog 30 (TypeDesc.int IntKind.u64) := ⟨by kernel_rfl⟩
instance : Und Tryz.prog 33 (TypeDesc.int IntKind.i64) := ⟨by kernel_rfl⟩
instance : Und Tryz.prog 186 (TypeDesc.int IntKind.i64) := ⟨by kernel_rfl⟩
instance : Und Tryz.prog 195 (TypeDesc.int IntKind.u32) := ⟨by kernel_rfl⟩
instance : Und Tryz.prog 197 (TypeDesc.int IntKind.u64) := ⟨by kernel_rfl⟩
instance : Und Tryz.prog 215 (TypeDesc.int IntKind.u64) := ⟨by kernel_rfl⟩
instance : Body Tryz.prog 3 := ⟨by kernel_rfl⟩
instance : Body Tryz.prog 4 := ⟨by kernel_rfl⟩
instance : Body Tryz.prog 5 := ⟨by kernel_rfl⟩
instance : Body Tryz.prog 6 := ⟨by kernel_rfl⟩
instance : Body Tryz.prog 7 := ⟨by kernel_rfl⟩
instance : Body Tryz.prog 8 := ⟨by kernel_rfl⟩
instance : Body Tryz.prog 9 := ⟨by kernel_rfl⟩
instance : Body Tryz.prog 10 := ⟨by kernel_rfl⟩
instance : Body Tryz.prog 11 := ⟨by kernel_rfl⟩
instance : Body Tryz.prog 12 := ⟨by kernel_rfl⟩
instance : Body Tryz.prog 13 := ⟨by kernel_rfl⟩
instance : Body Tryz.prog 14 := ⟨by kernel_rfl⟩
instance : Body Tryz.prog 15 := ⟨by kernel_rfl⟩
instance : Body Tryz.prog 16 := ⟨by kernel_rfl⟩
instance : Body Tryz.prog 17 := ⟨by kernel_rfl⟩
instance : Body Tryz.prog 18 := ⟨by kernel_rfl⟩
instance : Body Tryz.prog 19 := ⟨by kernel_rfl⟩
instance : Body Tryz.prog 20 := ⟨by kernel_rfl⟩
instance : Body Tryz.prog 21 := ⟨by kernel_rfl⟩
instance : Body Tryz.prog 22 := ⟨by kernel_rfl⟩
instance : Body Tryz.prog 23 := ⟨by kernel_rfl⟩
instance : Body Tryz.prog 24 := ⟨by kernel_rfl⟩
instance : Body Tryz.prog 25 := ⟨by kernel_rfl⟩
instance : Body Tryz.prog 26 := ⟨by kernel_rfl⟩
instance : Body Tryz.prog 27 := ⟨by kernel_rfl⟩
instance : Body Tryz.prog 28 := ⟨by kernel_rfl⟩
instance : Body Tryz.prog 29 := ⟨by kernel_rfl⟩
instance : Body Tryz.prog 30 := ⟨by kernel_rfl⟩
instance : Body Tryz.prog 31 := ⟨by kernel_rfl⟩
instance : Body Tryz.prog 32 := ⟨by kernel_rfl⟩
instance : Body Tryz.prog 33 := ⟨by kernel_rfl⟩
instance : Body Tryz.prog 34 := ⟨by kernel_rfl⟩
instance : Body Tryz.prog 35 := ⟨by kernel_rfl⟩
instance : Body Tryz.prog 36 := ⟨by kernel_rfl⟩
instance : Body Tryz.prog 37 := ⟨by kernel_rfl⟩
instance : Body Tryz.prog 38 := ⟨by kernel_rfl⟩
instance : Body Tryz.prog 39 := ⟨by kernel_rfl⟩
instance : Body Tryz.prog 40 := ⟨by kernel_rfl⟩
instance : Body Tryz.prog 41 := ⟨by kernel_rfl⟩
instance : Body Tryz.prog 42 := ⟨by kernel_rfl⟩
instance : Body Tryz.prog 43 := ⟨by kernel_rfl⟩
instance : Body Tryz.prog 44 := ⟨by kernel_rfl⟩
instance : Body Tryz.prog 45 := ⟨by kernel_rfl⟩
instance : Body Tryz.prog 46 := ⟨by kernel_rfl⟩
instance : Body Tryz.prog 47 := ⟨by kernel_rfl⟩
instance : Body Tryz.prog 48 := ⟨by kernel_rfl⟩
instance : Body Tryz.prog 49 := ⟨by kernel_rfl⟩
instance : Body Tryz.prog 50 := ⟨by kernel_rfl⟩
instance : Body Tryz.prog 51 := ⟨by kernel_rfl⟩
instance : Body Tryz.prog 52 := ⟨by kernel_rfl⟩
instance : Body Tryz.prog 53 := ⟨by kernel_rfl⟩
instance : Body Tryz.prog 54 := ⟨by kernel_rfl⟩
instance : Body Tryz.prog 55 := ⟨by kernel_rfl⟩
instance : Body Tryz.prog 56 := ⟨by kernel_rfl⟩
instance : Body Tryz.prog 57 := ⟨by kernel_rfl⟩
instance : Body Tryz.prog 58 := ⟨by kernel_rfl⟩
instance : Body Tryz.prog 59 := ⟨by kernel_rfl⟩
instance : Body Tryz.prog 60 := ⟨by kernel_rfl⟩
instance : Body Tryz.prog 61 := ⟨by kernel_rfl⟩
instance : Body Tryz.prog 62 := ⟨by kernel_rfl⟩
instance : Body Tryz.prog 63 := ⟨by kernel_rfl⟩
instance : Body Tryz.prog 64 := ⟨by kernel_rfl⟩
instance : Body Tryz.prog 65 := ⟨by kernel_rfl⟩
instance : Body Tryz.prog 66 := ⟨by kernel_rfl⟩
instance : Body Tryz.prog 67 := ⟨by kernel_rfl⟩
instance : Body Tryz.prog 68 := ⟨by kernel_rfl⟩
instance : Body Tryz.prog 69 := ⟨by kernel_rfl⟩
instance : Body Tryz.prog 70 := ⟨by kernel_rfl⟩
instance : Body Tryz.prog 71 := ⟨by kernel_rfl⟩
instance : Body Tryz.prog 72 := ⟨by kernel_rfl⟩
instance : Body Tryz.prog 73 := ⟨by kernel_rfl⟩
instance : Body Tryz.prog 74 := ⟨by kernel_rfl⟩
instance : Body Tryz.prog 75 := ⟨by kernel_rfl⟩
instance : Body Tryz.prog 76 := ⟨by kernel_rfl⟩
instance : Body Tryz.prog 77 := ⟨by kernel_rfl⟩
instance : Body Tryz.prog 78 := ⟨by kernel_rfl⟩
instance : Body Tryz.prog 79 := ⟨by kernel_rfl⟩
instance : Body Tryz.prog 80 := ⟨by kernel_rfl⟩
instance : Body Tryz.prog 81 := ⟨by kernel_rfl⟩
instance : Body Tryz.prog 82 := ⟨by kernel_rfl⟩
instance : Body Tryz.prog 83 := ⟨by kernel_rfl⟩
instance : Body Tryz.prog 84 := ⟨by kernel_rfl⟩
instance : Body Tryz.prog 85 := ⟨by kernel_rfl⟩
instance : Body Tryz.prog 86 := ⟨by kernel_rfl⟩
instance : Body Tryz.prog 87 := ⟨by kernel_rfl⟩
instance : Body Tryz.prog 88 := ⟨by kernel_rfl⟩
instance : Body Tryz.prog 89 := ⟨by kernel_rfl⟩
instance : Body Tryz.prog 90 := ⟨by kernel_rfl⟩
instance : Body Tryz.prog 91 := ⟨by kernel_rfl⟩
instance : Body Tryz.prog 92 := ⟨by kernel_rfl⟩
instance : Body Tryz.prog 93 := ⟨by kernel_rfl⟩
instance : Body Tryz.prog 94 := ⟨by kernel_rfl⟩
instance : Body Tryz.prog 95 := ⟨by kernel_rfl⟩
instance : Body Tryz.prog 96 := ⟨by kernel_rfl⟩
instance : Body Tryz.prog 97 := ⟨by kernel_rfl⟩
instance : Body Tryz.prog 98 := ⟨by kernel_rfl⟩
instance : Body Tryz.prog 99 := ⟨by kernel_rfl⟩
instance : Body Tryz.prog 100 := ⟨by kernel_rfl⟩
instance : Body Tryz.prog 101 := ⟨by kernel_rfl⟩
instance : Body Tryz.prog 102 := ⟨by kernel_rfl⟩
instance : Body Tryz.prog 103 := ⟨by kernel_rfl⟩
instance : Body Tryz.prog 104 := ⟨by kernel_rfl⟩
instance : Body Tryz.prog 105 := ⟨by kernel_rfl⟩
instance : Body Tryz.prog 106 := ⟨by kernel_rfl⟩
instance : Body Tryz.prog 107 := ⟨by kernel_rfl⟩
instance : Body Tryz.prog 108 := ⟨by kernel_rfl⟩
instance : Body Tryz.prog 109 := ⟨by kernel_rfl⟩
instance : Body Tryz.prog 110 := ⟨by kernel_rfl⟩
instance : Body Tryz.prog 111 := ⟨by kernel_rfl⟩
instance : Body Tryz.prog 112 := ⟨by kernel_rfl⟩
instance : Body Tryz.prog 113 := ⟨by kernel_rfl⟩
instance : Body Tryz.prog 114 := ⟨by kernel_rfl⟩
instance : Body Tryz.prog 115 := ⟨by kernel_rfl⟩
instance : Body Tryz.prog 116 := ⟨by kernel_rfl⟩
instance : Body Tryz.prog 117 := ⟨by kernel_rfl⟩
instance : Body Tryz.prog 118 := ⟨by kernel_rfl⟩
instance : Body Tryz.prog 119 := ⟨by kernel_rfl⟩
instance : Body Tryz.prog 120 := ⟨by kernel_rfl⟩
instance : Body Tryz.prog 121 := ⟨by kernel_rfl⟩
instance : Body Tryz.prog 122 := ⟨by kernel_rfl⟩
instance : Body Tryz.prog 123 := ⟨by kernel_rfl⟩
instance : Body Tryz.prog 124 := ⟨by kernel_rfl⟩
instance : Body Tryz.prog 125 := ⟨by kernel_rfl⟩
instance : Body Tryz.prog 126 := ⟨by kernel_rfl⟩
instance : Body Tryz.prog 127 := ⟨by kernel_rfl⟩
instance : Body Tryz.prog 128 := ⟨by kernel_rfl⟩
instance : Body Tryz.prog 129 := ⟨by kernel_rfl⟩
instance : Body Tryz.prog 130 := ⟨by kernel_rfl⟩
instance : Body Tryz.prog 131 := ⟨by kernel_rfl⟩
instance : Body Tryz.prog 132 := ⟨by kernel_rfl⟩
instance : Body Tryz.prog 133 := ⟨by kernel_rfl⟩
instance : Body Tryz.prog 134 := ⟨by kernel_rfl⟩
instance : Body Tryz.prog 135 := ⟨by kernel_rfl⟩
instance : Body Tryz.prog 136 := ⟨by kernel_rfl⟩
instance : Body Tryz.prog 137 := ⟨by kernel_rfl⟩
instance : Body Tryz.prog 138 := ⟨by kernel_rfl⟩
instance : Body Tryz.prog 139 := ⟨by kernel_rfl⟩
instance : Body Tryz.prog 140 := ⟨by kernel_rfl⟩
instance : Body Tryz.prog 141 := ⟨by kernel_rfl⟩
instance : Body Tryz.prog 142 := ⟨by kernel_rfl⟩
instance : Body Tryz.prog 143 := ⟨by kernel_rfl⟩
instance : Body Tryz.prog 144 := ⟨by kernel_rfl⟩
instance : Body Tryz.prog 145 := ⟨by kernel_rfl⟩
instance : Body Tryz.prog 146 := ⟨by kernel_rfl⟩
instance : Body Tryz.prog 147 := ⟨by kernel_rfl⟩
instance : Body Tryz.prog 148 := ⟨by kernel_rfl⟩
instance : Body Tryz.prog 149 := ⟨by kernel_rfl⟩
instance : Body Tryz.prog 150 := ⟨by kernel_rfl⟩
instance : Body Tryz.prog 151 := ⟨by kernel_rfl⟩
instance : Body Tryz.prog 152 := ⟨by kernel_rfl⟩
instance : Body Tryz.prog 153 := ⟨by kernel_rfl⟩
instance : Body Tryz.prog 154 := ⟨by kernel_rfl⟩
instance : Body Tryz.prog 155 := ⟨by kernel_rfl⟩
instance : Body Tryz.prog 156 := ⟨by kernel_rfl⟩
instance : Body Tryz.prog 157 := ⟨by kernel_rfl⟩
instance : Body Tryz.prog 158 := ⟨by kernel_rfl⟩
instance : Body Tryz.prog 159 := ⟨by kernel_rfl⟩
instance : Body Tryz.prog 160 := ⟨by kernel_rfl⟩
instance : Body Tryz.prog 161 := ⟨by kernel_rfl⟩
instance : Body Tryz.prog 162 := ⟨by kernel_rfl⟩
instance : Body Tryz.prog 163 := ⟨by kernel_rfl⟩
instance : Body Tryz.prog 164 := ⟨by kernel_rfl⟩
instance : Body Tryz.prog 165 := ⟨by kernel_rfl⟩
instance : Body Tryz.prog 166 := ⟨by kernel_rfl⟩
instance : Body Tryz.prog 167 := ⟨by kernel_rfl⟩
instance : Body Tryz.prog 168 := ⟨by kernel_rfl⟩
instance : Body Tryz.prog 169 := ⟨by kernel_rfl⟩
instance : Body Tryz.prog 170 := ⟨by kernel_rfl⟩
instance : Body Tryz.prog 171 := ⟨by kernel_rfl⟩
instance : Body Tryz.prog 172 := ⟨by kernel_rfl⟩
instance : Body Tryz.prog 173 := ⟨by kernel_rfl⟩
instance : Body Tryz.prog 174 := ⟨by kernel_rfl⟩
instance : Body Tryz.prog 175 := ⟨by kernel_rfl⟩
instance : Body Tryz.prog 176 := ⟨by kernel_rfl⟩
instance : Body Tryz.prog 177 := ⟨by kernel_rfl⟩
instance : Body Tryz.prog 178 := ⟨by kernel_rfl⟩
instance : Body Tryz.prog 179 := ⟨by kernel_rfl⟩
instance : Body Tryz.prog 180 := ⟨by kernel_rfl⟩
instance : Body Tryz.prog 181 := ⟨by kernel_rfl⟩
instance : Body Tryz.prog 182 := ⟨by kernel_rfl⟩
instance : Body Tryz.prog 183 := ⟨by kernel_rfl⟩
instance : Body Tryz.prog 184 := ⟨by kernel_rfl⟩
instance : Body Tryz.prog 185 := ⟨by kernel_rfl⟩
instance : Body Tryz.prog 186 := ⟨by kernel_rfl⟩
instance : Body Tryz.prog 187 := ⟨by kernel_rfl⟩
instance : Body Tryz.prog 188 := ⟨by kernel_rfl⟩
instance : Body Tryz.prog 189 := ⟨by kernel_rfl⟩
instance : Body Tryz.prog 190 := ⟨by kernel_rfl⟩
instance : Body Tryz.prog 191 := ⟨by kernel_rfl⟩
instance : Body Tryz.prog 192 := ⟨by kernel_rfl⟩
instance : Body Tryz.prog 193 := ⟨by kernel_rfl⟩
instance : Body Tryz.prog 194 := ⟨by kernel_rfl⟩
instance : Body Tryz.prog 195 := ⟨by kernel_rfl⟩
instance : Body Tryz.prog 196 := ⟨by kernel_rfl⟩
instance : Body Tryz.prog 197 := ⟨by kernel_rfl⟩
instance : Body Tryz.prog 198 := ⟨by kernel_rfl⟩
instance : Body Tryz.prog 199 := ⟨by kernel_rfl⟩
instance : Body Tryz.prog 200 := ⟨by kernel_rfl⟩
instance : Body Tryz.prog 201 := ⟨by kernel_rfl⟩
instance : Body Tryz.prog 202 := ⟨by kernel_rfl⟩
instance : Body Tryz.prog 204 := ⟨by kernel_rfl⟩
instance : Body Tryz.prog 205 := ⟨by kernel_rfl⟩
instance : Body Tryz.prog 207 := ⟨by kernel_rfl⟩
end Go.Sx
namespace Go.Sx
open Go Go.Proofs Go.Proofs.YtjnlogbbcceaoaaGreat
section
variable {P : Program}
def OpensB (P : Program) (t : TypeId) {α : Type} (en : α → List Value) (ok : Hp → α → Prop) : Prop :=
  ∀ (HH : Type) (enc : TypeId × Value → HH) (W : World) (fuel : Nat) (cs : List Value) (x : DataW HH × List MemPlace), DataW.trod enc P W 0 (fun _ => true) true fuel t cs = some x → Rows.uptoBulk x.1 ≤ 1048576 → ∃ a : α, cs = en a ∧ ok (hpOf W) a
theorem bulk_one {HH : Type} (d : DataW HH) : 1 ≤ Rows.uptoBulk d := by
  cases d with
  | lit l => cases l <;> simp [Rows.uptoBulk]
  | nil => simp [Rows.uptoBulk]
  | ptr d => simp [Rows.uptoBulk]
  | slice elems spare => simp [Rows.uptoBulk]
  | agg parts => simp [Rows.uptoBulk]
  | iface t d => simp [Rows.uptoBulk]
  | map entries => simp [Rows.uptoBulk]
  | held h => simp [Rows.uptoBulk]
theorem bulk_part {HH : Type} {d : DataW HH} : ∀ {l : List (DataW HH)}, d ∈ l → Rows.uptoBulk d ≤ Rows.uptoBulkAll l
  | x :: r, h => by
    simp only [Rows.uptoBulkAll]
    rcases List.mem_cons.1 h with e | e
    · subst e; omega
    · have := bulk_part e; omega
theorem bulk_len {HH : Type} : ∀ {l : List (DataW HH)}, l.length ≤ Rows.uptoBulkAll l
  | [] => by simp [Rows.uptoBulkAll]
  | x :: r => by
    simp only [Rows.uptoBulkAll, List.length_cons]
    have := bulk_one x; have := bulk_len (l := r); omega
theorem bulk_of {HH : Type} {l : List (DataW HH)} {d : DataW HH} {i : Nat} (hk : Rows.uptoSmall HH l = true) (hi : l[i]? = some d) : Rows.uptoBulk d ≤ 1048576 := by
  have h1 : Rows.uptoBulkAll l ≤ 1048576 := of_decide_eq_true hk
  have h2 := bulk_part (List.mem_of_getElem? hi)
  omega
theorem opensB_of {t : TypeId} {α : Type} {en : α → List Value} {ok : Hp → α → Prop} (h : Opens P t en ok) : OpensB P t en ok := fun HH enc W fuel cs x hx _ => h HH enc W fuel cs x hx
theorem opensB_slice {t e : TypeId} {k : Nat} {α : Type} {en : α → List Value} {ok : Hp → α → Prop} (ht : P.underlying t = some (.slice e)) (hk : P.cellsOf e = k) (hpos : 0 < k) (he : OpensB P e en ok) :
    OpensB P t (fun v : Sp × List α => [.slice v.1.1 v.2.length v.1.2]) (fun H v => RdSl H k en (.slice v.1.1 v.2.length v.1.2) v.2 ∧ v.2.length ≤ 1048576 ∧ ∀ x ∈ v.2, ok H x) := by
  subst hk
  intro HH enc W fuel cs x h hbk
  rcases Go.Deep.open_slice ht h with ⟨rfl, _⟩ | ⟨a, len, cap, m, n, D, Pl, rfl, _, hl, hm, hmm, hxe, hx⟩
  · exact ⟨((none, 0), []), rfl, RdSl.nil, Nat.zero_le _, by simp⟩
  · have hlm : m = cap := by simpa using hmm
    subst hlm
    have hd : x.1 = .slice ((List.range len).map D) ((List.range (m - len)).map fun j => D (len + j)) := by rw [hxe]
    rw [hd] at hbk
    simp only [Rows.uptoBulk] at hbk
    have hlen1 : len ≤ 1048576 := by
      have := bulk_len (l := (List.range len).map D)
      simp at this
      omega
    have hel : ∀ i, i < len → ∃ z : α, ∃ cs', W.cells? 0 (a.add (i * P.cellsOf e)) (P.cellsOf e) = some cs' ∧ cs' = en z ∧ ok (hpOf W) z := fun i hi => by
      obtain ⟨cs', h1, h2⟩ := hx i (by omega)
      have hbi : Rows.uptoBulk (D i) ≤ 1048576 := by
        have := bulk_part (d := D i) (l := (List.range len).map D) (List.mem_map.2 ⟨i, List.mem_range.2 hi, rfl⟩)
        omega
      obtain ⟨z, h3, h4⟩ := he HH enc W n cs' _ h2 hbi
      exact ⟨z, cs', h1, h3, h4⟩
    have hch := exists_list hel
    obtain ⟨l, hlen, hget⟩ := hch
    have hspot : l ≠ [] → a.spot = none := fun hne => by
      cases l with
      | nil => exact absurd rfl hne
      | cons z l =>
        obtain ⟨cs', h1, h2, _⟩ := hget 0 z rfl
        obtain ⟨_, h3, h4⟩ := World.cells?_some h1
        have h5 := h4 0 (by omega)
        have h6 : cs'[0]? = some (cs'[0]'(by omega)) := List.getElem?_eq_getElem (by omega)
        rw [h6] at h5
        have := spot_none h5
        simpa [Addr.add] using this
    refine ⟨((some a, m), l), (by simp only; rw [hlen]), ⟨⟨_, _, rfl⟩, (by show l.length ≤ _; unfold maxLen at hm; omega), fun hne => ⟨m, ?_⟩, fun i z hz j u hu => ?_, fun a' n' c' e => by injection e with _ _ e; have e2 : m = c' := e; show l.length ≤ c'; omega⟩, by dsimp only; omega, fun z hz => ?_⟩
    · have := hspot hne
      obtain ⟨b, o, sp⟩ := a
      simp only at this
      subst this
      simp [blk, off, hlen]
    · obtain ⟨cs', h1, rfl, _⟩ := hget i z hz
      obtain ⟨_, h3, h4⟩ := World.cells?_some h1
      have hj : j < P.cellsOf e := by rw [← h3]; exact (List.getElem?_eq_some_iff.1 hu).1
      have h5 := h4 j hj
      have hsp := hspot (fun e => by rw [e] at hz; simp at hz)
      obtain ⟨b, o, sp⟩ := a
      simp only at hsp
      subst hsp
      rw [add_lit', add_lit'] at h5
      simp only [hpOf, blk, off]
      exact h5.trans hu
    · obtain ⟨i, hi⟩ := List.mem_iff_getElem?.1 hz
      obtain ⟨cs', _, _, h4⟩ := hget i z hi
      exact h4
theorem OpensB.one {HH : Type} {enc : TypeId × Value → HH} {t : TypeId} {α : Type} {en : α → List Value} {ok : Hp → α → Prop} {W : World} {v : Value} {d : DataW HH} {p : List MemPlace} (h : OpensB P t en ok) (hT : DataW.Trod enc P W 0 (fun _ => true) true t v d p) (hb : Rows.uptoBulk d ≤ 1048576) :
    ∃ a : α, v.cells.toList = en a ∧ ok (hpOf W) a := by
  obtain ⟨fuel, hf⟩ := hT
  exact h HH enc W fuel _ _ hf hb
end
structure SCar where
  k : Int
  n : Str
def SCar.cells (c : SCar) : List Value := [.int .i64 c.k, gs c.n]
end Go.Sx
namespace Go.Sx
open Go
section
variable {P : Program} {n : Nat} {ops : Array Oper} {Q : Exit → Act → World → Prop} {E : Env} {M : List Nat} {w0 : World} {H0 H : Hp} {L : Blks}
variable {dst : Option Nat} {op : Op} {ty : TypeId} {pos : String} {aft : Array Edge} {rest : List Oper}
theorem TL.callSO {α : Type} {k : Nat} {enc : α → List Value} [hc : Cells k enc] {v0 v : Value} {xs : List α} {ob : Blks} {F : Blks → Blks} {f : FuncId} {args : List Value} (hO : OwnSl k enc v0 xs ob) (hU : Tl ob L F) (hM : ∀ p ∈ ob, p.1 ∉ M) (hE : Enters P E op f args)
    (hF : ∀ H2, H.le H2 → RdSl H2 k enc v0 xs → FnS P f args H2 v) (hd : fits dst n = true)
    (h : ∀ H', H.le H' → TL P n ops Q rest (putE dst v E) (St M w0 H0 H' L)) :
    TL P n ops Q ({ dst := dst, op := op, type := ty, pos := pos, after := aft, guard := none } :: rest) E (St M w0 H0 H L) := by
  obtain ⟨R, hp1, hp2⟩ := hU.perm
  rcases hO with ⟨rfl, rfl, rfl⟩ | ⟨b, cap, cs, rfl, rfl, hcl, htk, hle, hcm⟩
  · exact TL.callS hE (hF H (Hp.le.refl _) RdSl.nil) hd (h H (Hp.le.refl _))
  · intro a w he hw
    refine TL.callLend (b := b) (cs := cs) (R := R) (Φ := fun v' _ => v' = v) (hM (b, cs) (by simp)) hE (fun H2 hl rd => ?_) hd (fun v' H' hl hx => ?_) a w he (hw.perm hp1)
    · have hR : RdSl H2 k enc (.slice (some ⟨b, 0, none⟩) xs.length cap) xs := by
        refine ⟨⟨_, _, rfl⟩, by omega, fun _ => ⟨_, rfl⟩, fun i x hx j u hu => ?_, fun a n c e => by injection e with _ _ e; omega⟩
        have h2 := flat_get (k := k) (fun x _ => hc.len x) i x hx j u hu
        rw [← htk, List.getElem?_take] at h2
        simp only [blk, off, Nat.zero_add]
        split at h2
        · exact rd _ _ h2
        · cases h2
      have hS := hF H2 hl hR
      exact fun w hw => (hS w hw).mono (fun e w' ⟨v, H', L', a, b, c, d⟩ => ⟨v, H', L', a, b, c, d.1⟩)
    · obtain ⟨H1, _, rfl⟩ := hx
      exact fun a w he hw => h H' hl a w he (hw.perm hp1.symm)
end
section
variable {pg : SProg} {ts : List Term} {s : SStep} {bk : List Str} {k : Int} {b : List (List Str)}
theorem stE0 (h : stepE pg ts s bk = 0) : (askedS ts s).all (fun n => hasS bk n) = true ∧ (bindsS s).all (fun n => !(!decide (n = []) && hasS bk n)) = true := by
  unfold stepE at h
  split at h
  · cases h
  · rename_i h1
    split at h
    · cases h
    · rename_i h2
      exact ⟨by simpa using h1, by revert h2; cases (bindsS s).all (fun n => !(!decide (n = []) && hasS bk n)) <;> simp⟩
theorem st_asked (h : stepE pg ts s bk = 0) {j i : Nat} {r : Int} {v : Str} (hr : (termsS s)[j]? = some r) (hv : (varsS ts r)[i]? = some v) : hasS bk v = true := by
  refine List.all_eq_true.1 (stE0 h).1 v ?_
  unfold askedS
  exact List.mem_append_left _ (List.mem_flatMap.2 ⟨r, List.mem_of_getElem? hr, List.mem_of_getElem? hv⟩)
theorem st_name (h : stepE pg ts s bk = 0) (hm : mayS s = true) (hk : s.kind = 1 ∨ s.kind = 8) : s.name ≠ [] ∧ hasS bk s.name = false := by
  have h2 := (stE0 h).2
  have hn : s.name ≠ [] := by
    intro e
    unfold mayS at hm
    rcases hk with hk | hk <;> simp [hk, e] at hm <;> simp [nameMay] at hm
  unfold bindsS at h2
  rw [if_pos hk] at h2
  simp [hn] at h2
  exact ⟨hn, h2⟩
theorem goes_ways (hm : mayS s = true) (hg : goesB s.kind = true) : s.ways = [] := by
  unfold mayS at hm
  split at hm
  · cases hm
  · split at hm
    · cases hm
    · rename_i hb
      have : (bareS s).ways = [] := by
        have h3 : badX (bareS s) = false := by simpa using hb
        unfold badX at h3
        simp at h3
        exact List.eq_nil_of_length_eq_zero (by have := h3.2.2.2.2.2.2.2.1; simpa using this)
      unfold bareS at this
      simp only at this
      rw [if_neg (by unfold goesB at hg; simp at hg; omega)] at this
      exact this
theorem ngoes_next (hm : mayS s = true) (hg : goesB s.kind = false) : s.next = -1 := by
  unfold mayS at hm
  split at hm
  · cases hm
  · split at hm
    · cases hm
    · rename_i hb
      have h3 : badX (bareS s) = false := by simpa using hb
      unfold badX at h3
      simp at h3
      have := h3.2.2.2.2.2.2.2.2
      simpa [bareS, hg] using this
theorem ngoes_binds (hm : mayS s = true) (hg : goesB s.kind = false) : bindsS s = s.ways.map (·.name) := by
  have h18 : ¬ (s.kind = 1 ∨ s.kind = 8) := by unfold goesB at hg; simp at hg; omega
  unfold bindsS
  rw [if_neg h18]
  split
  · rfl
  · rename_i h5
    unfold nextsS
    rw [if_neg (by simp [hg])]
    by_cases h3 : s.kind = 3
    · have hw : waysS s = true := by
        unfold mayS at hm
        simp [h3] at hm
        exact hm.2
      unfold waysS at hw
      rw [if_pos h3] at hw
      simp [bare2] at hw
      obtain ⟨hl, h0, h1⟩ := hw
      match hS : s.ways, hl with
      | [x, y], _ => rw [hS] at h0 h1; simp at h0 h1; simp [h0.2, h1.2]
    · have hw : s.ways = [] := by
        unfold mayS at hm
        split at hm
        · cases hm
        · split at hm
          · cases hm
          · rename_i hb
            have h4 : badX (bareS s) = false := by simpa using hb
            unfold badX at h4
            simp at h4
            have := h4.2.2.2.2.2.2.2.1
            simp [bareS, h3, h5] at this
            exact this
      simp [hw]
theorem st_way (h : stepE pg ts s bk = 0) (hm : mayS s = true) (hg : goesB s.kind = false) {j : Nat} {w : SWay} (hw : s.ways[j]? = some w) (hn : ¬ w.name = []) : hasS bk w.name = false := by
  have h2 := (stE0 h).2
  rw [ngoes_binds hm hg] at h2
  have := List.all_eq_true.1 h2 w.name (List.mem_map.2 ⟨w, List.mem_of_getElem? hw, rfl⟩)
  simpa [hn] using this
theorem goes_bound (hm : mayS s = true) (hg : goesB s.kind = true) (hb : b[k.toNat]? = some bk) {N : List Str} (hN : N = if s.kind = 1 ∨ s.kind = 8 then bk ++ [s.name] else bk) (hne : (s.kind = 1 ∨ s.kind = 8) → s.name ≠ []) :
    boundGo k (nextsS s) (bindsS s) b = b.set s.next.toNat N := by
  unfold nextsS
  rw [if_pos hg]
  subst hN
  unfold bindsS
  split
  · rename_i h1
    simp [boundGo, putAt, hb, hne h1]
  · rename_i h1
    rw [if_neg (by unfold goesB at hg; simp at hg; omega)]
    unfold nextsS
    rw [if_pos hg]
    simp [boundGo, putAt, hb]
theorem ngoes_nexts (hg : goesB s.kind = false) : nextsS s = s.ways.map (·.next) := by unfold nextsS; rw [if_neg (by simp [hg])]
end
theorem rooted_of {q : SProc} (hT : TermsOk q) {k : Nat} {s : SStep} (hx : q.steps[k]? = some s) : rootedB s = true := by
  cases hr : rootedB s with
  | true => rfl
  | false =>
    have h : (s.kind = 1 ∨ s.kind = 2 ∨ s.kind = 3) ∧ s.term = -1 := by
      unfold rootedB at hr
      simp at hr
      exact ⟨by omega, hr.2⟩
    have hm : s.term ∈ termsS s := by
      unfold termsS
      rw [if_pos (by rcases h.1 with h | h | h <;> simp [h])]
      simp
    have := hT k s hx _ hm
    rw [h.2, mayB_neg] at this
    cases this
theorem each_sense {pg : SProg} : ∀ (r : List SProc) (i : Int), (eachF (senseF pg) r i).e = 0 → ∀ (j : Nat) q, r[j]? = some q → (senseF pg (i + j) q).e = 0
  | [], _, _, j, q, hq => by simp at hq
  | x :: r, i, h, j, q, hq => by
    rw [eachF] at h
    split at h
    · rename_i h1; exact absurd h h1
    · rename_i h1
      cases j with
      | zero => simp at hq; subst hq; simpa using h1
      | succ j =>
        have := each_sense r (i + 1) h j q (by simpa using hq)
        rw [show i + ((j + 1 : Nat) : Int) = i + 1 + j by omega]; exact this
theorem sense_at {pg : SProg} (h : (checkS pg).e = 0) {k : Int} {q : SProc} (k0 : 0 ≤ k) (hq : pg.procs[k.toNat]? = some q) : (senseF pg k q).e = 0 := by
  have := each_sense pg.procs 0 (check_good h).2.2.2 k.toNat q hq
  rwa [show (0 : Int) + (k.toNat : Int) = k by omega] at this
theorem sn_good {pg : SProg} {q : SProc} {i k : Int} {s : SStep} {x : List Str} {b : List (List Str)} (k0 : 0 ≤ k) (hx : q.steps[k.toNat]? = some s) (hb : b[k.toNat]? = some x) (h : senseF pg i q = senseGo pg q i (q.steps.drop k.toNat) k b) (h0 : (senseF pg i q).e = 0) : stepE pg q.terms s x = 0 := by
  rw [h, drop_of hx, senseGo, hb] at h0
  simp only [Option.getD_some] at h0
  by_cases he : stepE pg q.terms s x = 0
  · exact he
  · rw [if_pos (by simpa using he)] at h0; exact absurd h0 he
theorem get_map {α β : Type} {f : α → β} {l : List α} {i : Nat} {x : α} (h : l[i]? = some x) : (l.map f)[i]? = some (f x) := by rw [List.getElem?_map, h]; rfl
end Go.Sx
namespace Go.Sx
open Go Go.Proofs
set_option maxHeartbeats 1000000 in
theorem n_letter_ok {H : Hp} (c : UInt8) :
  FnS Tryz.prog 136 [.int .u8 (c.toNat : Int)] H (.bool (letterB c)) := by
 refine FnS.enter Tryz.func136 Tryz.ntmps136 rfl rfl (fun w0 => ?_)
 exact zq0
set_option maxHeartbeats 1000000 in
theorem n_digit_ok {H : Hp} (c : UInt8) :
  FnS Tryz.prog 138 [.int .u8 (c.toNat : Int)] H (.bool (digitB c)) := by
 refine FnS.enter Tryz.func138 Tryz.ntmps138 rfl rfl (fun w0 => ?_)
 exact zq22
set_option maxHeartbeats 1000000 in
theorem n_Keyword_ok {H : Hp} (s : Str) :
  FnS Tryz.prog 137 [gs s] H (.bool (keywordB s)) := by
 refine FnS.enter Tryz.func137 Tryz.ntmps137 rfl rfl (fun w0 => ?_)
 refine zm48 ?_
 refine TC.sw (kw1 s) 4 [(2, _), (3, _)] ⟨rfl, rfl, trivial⟩ ?_ ?_
 · exact zq44
 refine TC.cond rfl (fun c4 => ?_) (fun c4 => ?_)
 · exact zq56
 ·
  refine TC.sw (kw2 s) 18 [(2, _), (3, _)] ⟨rfl, rfl, trivial⟩ ?_ ?_
  · exact zq44
  refine TC.cond rfl (fun c18 => ?_) (fun c18 => ?_)
  · exact zq56
  ·
   refine TC.sw (kw3 s) 32 [(2, _)] ⟨rfl, trivial⟩ ?_ ?_
   · exact zq64
   refine TC.cond rfl (fun c32 => ?_) (fun c32 => ?_)
   · exact zq56
   ·
    refine zm81 ?_; refine zm57 ?_
    exact TX.fin0 (.inr rfl) (results1 rfl (RVal.tmp rfl)) ⟨congrArg Value.bool (by simp_all [keywordB]), rfl⟩
set_option maxHeartbeats 1000000 in
theorem n_May_ok {H : Hp} (s : Str) (hmax : s.length ≤ 9223372036854775807) :
  FnS Tryz.prog 79 [gs s] H (.bool (nameMay s)) := by
 refine FnS.enter Tryz.func79 Tryz.ntmps79 rfl rfl (fun w0 => ?_)
 refine zm112 ?_; refine zm166 ?_; refine zm9 ?_
 refine TL.split (s := 7) rfl (fun g7 => ?_) (fun g7 => ?_)
 · exact zq74
 ·
  have q7 := of_decide_eq_false g7
  refine zm8 ?_; refine TL.gdY rfl rfl (pr_lenStr rfl rfl) rfl ?_; refine zm17 ?_
  refine TL.split (s := 12) rfl (fun g12 => ?_) (fun g12 => ?_)
  · exact zq100
  ·
   have q12 := of_decide_eq_false g12
   refine zm8 ?_
   have hlen : (0 : Int) < s.length := by have := of_decide_eq_false g7; omega
   obtain ⟨c0, hc0⟩ := getSome (l := s) (i := 0) (by omega) hlen
   refine zm306 ?_; refine TL.callSY rfl rfl (enters rfl rfl rfl rfl) (n_letter_ok c0) rfl ?_; refine zm17 ?_
   refine TL.split (s := 18) rfl (fun g18 => ?_) (fun g18 => ?_)
   · exact zq86
   ·
    refine zm8 ?_; refine TL.callSY rfl rfl (enters rfl rfl rfl rfl) (n_Keyword_ok s) rfl ?_; refine zm2 ?_
    refine TC.cond rfl (fun c21 => ?_) (fun c21 => ?_)
    · exact zq92
    ·
     have hn := nameMay_T g7 g12 hc0 g18 c21
     exact zq101
set_option maxHeartbeats 1000000 in
theorem r_letter_ok {H : Hp} (c : UInt8) :
  FnS Tryz.prog 99 [.int .u8 (c.toNat : Int)] H (.bool (letterB c)) := by
 refine FnS.enter Tryz.func99 Tryz.ntmps99 rfl rfl (fun w0 => ?_)
 exact zq0
set_option maxHeartbeats 1000000 in
theorem r_digit_ok {H : Hp} (c : UInt8) :
  FnS Tryz.prog 101 [.int .u8 (c.toNat : Int)] H (.bool (digitB c)) := by
 refine FnS.enter Tryz.func101 Tryz.ntmps101 rfl rfl (fun w0 => ?_)
 exact zq22
set_option maxHeartbeats 1000000 in
theorem r_Keyword_ok {H : Hp} (s : Str) :
  FnS Tryz.prog 100 [gs s] H (.bool (keywordB s)) := by
 refine FnS.enter Tryz.func100 Tryz.ntmps100 rfl rfl (fun w0 => ?_)
 refine zm48 ?_
 refine TC.sw (rkw1 s) 4 [(2, _), (3, _)] ⟨rfl, rfl, trivial⟩ ?_ ?_
 ·
  refine zm307 ?_; refine zm307 ?_; refine zm307 ?_; refine zm68 ?_
  exact zq44
 refine TC.cond rfl (fun c4 => ?_) (fun c4 => ?_)
 · exact zq183
 ·
  refine TC.sw (rkw2 s) 25 [(2, _)] ⟨rfl, trivial⟩ ?_ ?_
  ·
   refine zm264 ?_; refine zm264 ?_; refine zm264 ?_
   exact zq64
  refine TC.cond rfl (fun c25 => ?_) (fun c25 => ?_)
  · exact zq183
  ·
   refine zm81 ?_; refine zm57 ?_
   exact TX.fin0 (.inr rfl) (results1 rfl (RVal.tmp rfl)) ⟨congrArg Value.bool (by simp_all [← rkw_eq]), rfl⟩
end Go.Sx
namespace Go.Proofs
open Go.Shelf
def Tryz.lays145_ren : Go.Shelf.Ren := ⟨fun | 145 => 196 | 220 => 200 | 219 => 201 | 217 => 202 | 225 => 203 | 224 => 204 | 267 => 205 | 266 => 206 | 314 => 207 | n => n, fun | 9 => 9 | 4 => 4 | 59 => 226 | 3 => 3 | 5 => 5 | 46 => 30 | 146 => 233 | 51 => 195 | n => n, fun | 1 => 0 | n => n⟩
theorem Tryz.lays145 : Go.Proofs.Lays.n145 Tryz.prog Tryz.lays145_ren := {
  mixed := by kernel_rfl
  f145 := Tryz.func196.trans (congrArg some (by kernel_rfl))
  f217 := Tryz.func202.trans (congrArg some (by kernel_rfl))
  f219 := Tryz.func201.trans (congrArg some (by kernel_rfl))
  f220 := Tryz.func200.trans (congrArg some (by kernel_rfl))
  f224 := Tryz.func204.trans (congrArg some (by kernel_rfl))
  f225 := Tryz.func203.trans (congrArg some (by kernel_rfl))
  f266 := Tryz.func206.trans (congrArg some (by kernel_rfl))
  f267 := Tryz.func205.trans (congrArg some (by kernel_rfl))
  f314 := Tryz.func207.trans (congrArg some (by kernel_rfl))
  t3 := Tryz.underlying3
  a3 := Tryz.isAgg3
  z3 := Tryz.sizeOf3
  v3 := Tryz.zeroValue3
  t4 := Tryz.underlying4
  a4 := Tryz.isAgg4
  z4 := Tryz.sizeOf4
  v4 := Tryz.zeroValue4
  t5 := Tryz.underlying5
  a5 := Tryz.isAgg5
  z5 := Tryz.sizeOf5
  v5 := Tryz.zeroValue5
  t9 := Tryz.underlying9
  a9 := Tryz.isAgg9
  z9 := Tryz.sizeOf9
  v9 := Tryz.zeroValue9
  t46 := Tryz.underlying30
  a46 := Tryz.isAgg30
  z46 := Tryz.sizeOf30
  v46 := Tryz.zeroValue30
  t51 := Tryz.underlying195
  a51 := Tryz.isAgg195
  z51 := Tryz.sizeOf195
  v51 := Tryz.zeroValue195
  t59 := Tryz.underlying226
  a59 := Tryz.isAgg226
  z59 := Tryz.sizeOf226
  v59 := Tryz.zeroValue226
  t146 := Tryz.underlying233
  a146 := Tryz.isAgg233
  z146 := Tryz.sizeOf233
  v146 := Tryz.zeroValue233
  g1 := by kernel_rfl }
open Go.RowKit Go.Lib in
theorem Tryz.strings_Cut (s sep : ByteArray) (m : Int) (w : World) (hs : s.size < 4294967281) (hm : w.cell? ⟨0, 0, none⟩ = some (.int .i64 m)) :
    Calls Tryz.prog 196 #[.string s, .string sep] w fun e w' => e = .returned (.tuple #[.string ⟨(Lib.cut s.data.toList sep.data.toList).1.toArray⟩, .string ⟨(Lib.cut s.data.toList sep.data.toList).2.1.toArray⟩, .bool (Lib.cut s.data.toList sep.data.toList).2.2]) ∧ ∃ n, w' = w.drewN n := Any.strings_Cut Tryz.lays145 s sep m w hs hm
def Tryz.lays190_ren : Go.Shelf.Ren := ⟨fun | 190 => 61 | 125 => 122 | 258 => 121 | 128 => 166 | 129 => 167 | 302 => 157 | 303 => 158 | 304 => 159 | 305 => 160 | 306 => 161 | 307 => 162 | 308 => 163 | 309 => 164 | 310 => 165 | 333 => 186 | 329 => 187 | 330 => 188 | 334 => 189 | 335 => 190 | 336 => 191 | 344 => 199 | n => n, fun | 31 => 61 | 9 => 9 | 3 => 3 | 46 => 30 | 0 => 0 | 51 => 195 | 53 => 197 | 4 => 4 | 183 => 187 | 182 => 186 | 131 => 192 | 5 => 5 | 218 => 215 | 222 => 219 | 228 => 228 | 229 => 229 | n => n, fun | n => n⟩
theorem Tryz.lays190 : Go.Proofs.Lays.n190 Tryz.prog Tryz.lays190_ren := {
  mixed := by kernel_rfl
  f125 := Tryz.func122.trans (congrArg some (by kernel_rfl))
  f128 := Tryz.func166.trans (congrArg some (by kernel_rfl))
  f129 := Tryz.func167.trans (congrArg some (by kernel_rfl))
  f190 := Tryz.func61.trans (congrArg some (by kernel_rfl))
  f258 := Tryz.func121.trans (congrArg some (by kernel_rfl))
  f302 := Tryz.func157.trans (congrArg some (by kernel_rfl))
  f303 := Tryz.func158.trans (congrArg some (by kernel_rfl))
  f304 := Tryz.func159.trans (congrArg some (by kernel_rfl))
  f305 := Tryz.func160.trans (congrArg some (by kernel_rfl))
  f306 := Tryz.func161.trans (congrArg some (by kernel_rfl))
  f307 := Tryz.func162.trans (congrArg some (by kernel_rfl))
  f308 := Tryz.func163.trans (congrArg some (by kernel_rfl))
  f309 := Tryz.func164.trans (congrArg some (by kernel_rfl))
  f310 := Tryz.func165.trans (congrArg some (by kernel_rfl))
  f329 := Tryz.func187.trans (congrArg some (by kernel_rfl))
  f330 := Tryz.func188.trans (congrArg some (by kernel_rfl))
  f333 := Tryz.func186.trans (congrArg some (by kernel_rfl))
  f334 := Tryz.func189.trans (congrArg some (by kernel_rfl))
  f335 := Tryz.func190.trans (congrArg some (by kernel_rfl))
  f336 := Tryz.func191.trans (congrArg some (by kernel_rfl))
  f344 := Tryz.func199.trans (congrArg some (by kernel_rfl))
  t0 := Tryz.underlying0
  a0 := Tryz.isAgg0
  z0 := Tryz.sizeOf0
  v0 := Tryz.zeroValue0
  t3 := Tryz.underlying3
  a3 := Tryz.isAgg3
  z3 := Tryz.sizeOf3
  v3 := Tryz.zeroValue3
  t4 := Tryz.underlying4
  a4 := Tryz.isAgg4
  z4 := Tryz.sizeOf4
  v4 := Tryz.zeroValue4
  t5 := Tryz.underlying5
  a5 := Tryz.isAgg5
  z5 := Tryz.sizeOf5
  v5 := Tryz.zeroValue5
  t9 := Tryz.underlying9
  a9 := Tryz.isAgg9
  z9 := Tryz.sizeOf9
  v9 := Tryz.zeroValue9
  t31 := Tryz.underlying61
  a31 := Tryz.isAgg61
  z31 := Tryz.sizeOf61
  v31 := Tryz.zeroValue61
  t46 := Tryz.underlying30
  a46 := Tryz.isAgg30
  z46 := Tryz.sizeOf30
  v46 := Tryz.zeroValue30
  t51 := Tryz.underlying195
  a51 := Tryz.isAgg195
  z51 := Tryz.sizeOf195
  v51 := Tryz.zeroValue195
  t53 := Tryz.underlying197
  a53 := Tryz.isAgg197
  z53 := Tryz.sizeOf197
  v53 := Tryz.zeroValue197
  t131 := Tryz.underlying192
  a131 := Tryz.isAgg192
  z131 := Tryz.sizeOf192
  v131 := Tryz.zeroValue192
  t182 := Tryz.underlying186
  a182 := Tryz.isAgg186
  z182 := Tryz.sizeOf186
  v182 := Tryz.zeroValue186
  t183 := Tryz.underlying187
  a183 := Tryz.isAgg187
  z183 := Tryz.sizeOf187
  v183 := Tryz.zeroValue187
  t218 := Tryz.underlying215
  a218 := Tryz.isAgg215
  z218 := Tryz.sizeOf215
  v218 := Tryz.zeroValue215
  t222 := Tryz.underlying219
  a222 := Tryz.isAgg219
  z222 := Tryz.sizeOf219
  v222 := Tryz.zeroValue219
  t228 := Tryz.underlying228
  a228 := Tryz.isAgg228
  z228 := Tryz.sizeOf228
  v228 := Tryz.zeroValue228
  t229 := Tryz.underlying229
  a229 := Tryz.isAgg229
  z229 := Tryz.sizeOf229
  v229 := Tryz.zeroValue229 }
open Go.Sort Go.RowKit in
theorem Tryz.slices_Sort_string (blk off cap : Nat) (ss : List (List UInt8)) (w : World) (hH : Holds encStr w blk off ss.toArray) (hblk : blk < w.heap.size) (hsz : ss.length < 4611686018427387904) :
    Calls Tryz.prog 61 #[.slice (some ⟨blk, off, none⟩) ss.length cap] w fun e w' =>
      e = .returned (.tuple #[]) ∧ ∃ n os, w' = grow (putRow encStr (Sort.ahead w n) blk off (ss.mergeSort fun x y => decide (x ≤ y)).toArray) os := Any.slices_Sort_string Tryz.lays190 blk off cap ss w hH hblk hsz
def Tryz.lays194_ren : Go.Shelf.Ren := ⟨fun | 194 => 62 | n => n, fun | 31 => 61 | 9 => 9 | 3 => 3 | 4 => 4 | 0 => 0 | n => n, fun | n => n⟩
theorem Tryz.lays194 : Go.Proofs.Lays.n194 Tryz.prog Tryz.lays194_ren := {
  mixed := by kernel_rfl
  f194 := Tryz.func62.trans (congrArg some (by kernel_rfl))
  t0 := Tryz.underlying0
  a0 := Tryz.isAgg0
  z0 := Tryz.sizeOf0
  v0 := Tryz.zeroValue0
  t3 := Tryz.underlying3
  a3 := Tryz.isAgg3
  z3 := Tryz.sizeOf3
  v3 := Tryz.zeroValue3
  t4 := Tryz.underlying4
  a4 := Tryz.isAgg4
  z4 := Tryz.sizeOf4
  v4 := Tryz.zeroValue4
  t9 := Tryz.underlying9
  a9 := Tryz.isAgg9
  z9 := Tryz.sizeOf9
  v9 := Tryz.zeroValue9
  t31 := Tryz.underlying61
  a31 := Tryz.isAgg61
  z31 := Tryz.sizeOf61
  v31 := Tryz.zeroValue61 }
open Go.RowKit Go.Lib Go.Sort in
theorem Tryz.slices_Compact_string (blk off cap : Nat) (zs : List (List UInt8)) (w : World) (hH : Holds encStr w blk off zs.toArray) (hsz : zs.length ≤ 9223372036854775807) (hcap : zs.length ≤ cap) :
    Calls Tryz.prog 62 #[.slice (some ⟨blk, off, none⟩) zs.length cap] w fun e w' => e = .returned (.slice (some ⟨blk, off, none⟩) (Lib.compact zs).length cap) ∧ ∃ q, w' = putRow encStr (Sort.ahead w q) blk off (Lib.compact zs ++ List.replicate (zs.length - (Lib.compact zs).length) []).toArray := Any.slices_Compact_string Tryz.lays194 blk off cap zs w hH hsz hcap
open Go.RowKit Go.Lib Go.Sort in
theorem Tryz.slices_Compact_string_empty (a : Option Addr) (cap : Nat) (w : World) :
    Calls Tryz.prog 62 #[.slice a 0 cap] w fun e w' => e = .returned (.slice a 0 cap) ∧ w' = w := Any.slices_Compact_string_empty Tryz.lays194 a cap w
open Go.RowKit Go.Sort in
theorem Tryz.slices_Sort_string_none (p : Option Addr) (cap : Nat) (w : World) :
    Calls Tryz.prog 61 #[.slice p 0 cap] w fun e w' => e = .returned (.tuple #[]) ∧ w' = w := Any.slices_Sort_string_none Tryz.lays190 p cap w
end Go.Proofs
namespace Go.Sx
open Go Go.Proofs
theorem sort_ok : SortC Tryz.prog 61 := ⟨fun b off cap ss w h1 h2 h3 => Tryz.slices_Sort_string b off cap ss w h1 h2 h3, fun p cap w => Tryz.slices_Sort_string_none p cap w⟩
theorem compact_ok : CompactC Tryz.prog 62 := ⟨fun b off cap zs w h1 h2 h3 => Tryz.slices_Compact_string b off cap zs w h1 h2 h3, fun p cap w => Tryz.slices_Compact_string_empty p cap w⟩
def MaxG (H : Hp) : Prop := ∃ m, H 0 0 = some (.int .i64 m)
theorem MaxG.le {H H1 : Hp} (h : MaxG H) (hl : H.le H1) : MaxG H1 := by
  obtain ⟨m, hm⟩ := h
  exact ⟨m, hl _ _ _ hm⟩
theorem cut_ok {H : Hp} (s : Str) (hs : s.length ≤ 4294960000) (hM : MaxG H) : FnS Tryz.prog 196 [gs s, gs [46]] H (.tuple #[gs (cutS s).1, gs (cutS s).2.1, .bool (cutS s).2.2]) := by
  refine FnS.ext (fun w hw => ?_)
  obtain ⟨m, hm⟩ := hM
  refine (Tryz.strings_Cut ⟨s.toArray⟩ ⟨[46].toArray⟩ m w (by simp [ByteArray.size]; omega) (hw.hp _ _ _ hm)).mono ?_
  rintro e w1 ⟨rfl, n, rfl⟩
  exact ⟨rfl, ⟨rfl, rfl, rfl, Nat.le_refl _, fun _ _ => rfl⟩⟩
end Go.Sx
namespace Go.Sx
open Go Go.Proofs
set_option maxHeartbeats 1000000 in
theorem operands_ok {H : Hp} (k : Int) :
  FnS Tryz.prog 119 [.int .i64 k] H (.int .i64 (operandsI k)) := by
 refine FnS.enter Tryz.func119 Tryz.ntmps119 rfl rfl (fun w0 => ?_)
 refine zm48 ?_
 refine TC.sw (decide (k = 0) || (decide (k = 1) || (decide (k = 2) || (decide (k = 3) || (decide (k = 4) || decide (k = 5)))))) 4 [(2, _), (3, _)] ⟨rfl, rfl, trivial⟩ ?_ ?_
 ·
  refine zm167 ?_; refine zm167 ?_; refine zm167 ?_; refine zm167 ?_; refine zm167 ?_
  exact TC.swE (pr_pure rfl) rfl rfl ⟨rfl, rfl, trivial⟩
 refine TC.cond rfl (fun c4 => ?_) (fun c4 => ?_)
 · exact zq186
 ·
  refine TC.sw (decide (k = 15) || decide (k = 16)) 11 [(2, _), (3, _)] ⟨rfl, rfl, trivial⟩ ?_ ?_
  ·
   refine zm167 ?_
   exact TC.swE (pr_pure rfl) rfl rfl ⟨rfl, rfl, trivial⟩
  refine TC.cond rfl (fun c11 => ?_) (fun c11 => ?_)
  · exact zq186
  ·
   refine TC.sw (decide (k = 6) || (decide (k = 7) || (decide (k = 8) || (decide (k = 9) || (decide (k = 10) || (decide (k = 11) || (decide (k = 12) || (decide (k = 13) || (decide (k = 14) || (decide (k = 17) || (decide (k = 18) || decide (k = 19)))))))))))) 14 [(2, _)] ⟨rfl, trivial⟩ ?_ ?_
   ·
    refine zm265 ?_; refine zm265 ?_; refine zm265 ?_
    exact zq195
   refine TC.cond rfl (fun c14 => ?_) (fun c14 => ?_)
   · exact zq186
   ·
    refine zm81 ?_; refine zm57 ?_
    exact zq194
set_option maxHeartbeats 1000000 in
theorem fields_ok {H : Hp} (t : Term) (hn : t.name.length ≤ 9223372036854775807) :
  FnS Tryz.prog 120 [.agg t.cells.toArray] H (.bool (fieldsB t)) := by
 refine FnS.enter Tryz.func120 Tryz.ntmps120 rfl rfl (fun w0 => ?_)
 refine zm4 ?_
 refine TL.box rfl rfl (fun b1 => ?_)
 refine zm97 ?_; refine zm210 ?_
 refine TC.condD rfl (fun c5 => ?_) (fun c5 => ?_)
 ·
  refine zm58 ?_; refine TL.callS (enters rfl rfl rfl rfl) (n_May_ok t.name hn) rfl ?_; refine zm0 ?_
  refine TL.split (s := 10) rfl (fun g10 => ?_) (fun g10 => ?_)
  ·
   refine zm130 ?_
   refine TL.split (s := 15) rfl (fun g15 => ?_) (fun g15 => ?_)
   ·
    have q15 := of_decide_eq_true g15
    exact zq198
   ·
    have q15 := of_decide_eq_false g15
    exact zq208
  ·
   refine zm46 ?_
   exact zq208
 ·
  refine zm28 ?_
  refine TC.condD rfl (fun c20 => ?_) (fun c20 => ?_)
  ·
   refine zm211 ?_
   refine TL.split (s := 25) rfl (fun g25 => ?_) (fun g25 => ?_)
   ·
    have q25 := of_decide_eq_true g25
    exact zq198
   ·
    have q25 := of_decide_eq_false g25
    exact zq208
  ·
   refine zm28 ?_
   refine TC.condD rfl (fun c30 => ?_) (fun c30 => ?_)
   ·
    refine zm211 ?_
    refine TL.split (s := 35) rfl (fun g35 => ?_) (fun g35 => ?_)
    ·
     have q35 := of_decide_eq_true g35
     refine zm131 ?_
     refine TL.split (s := 40) rfl (fun g40 => ?_) (fun g40 => ?_)
     ·
      have q40 := of_decide_eq_true g40
      refine zm13 ?_; refine zm23 ?_
      refine TL.split (s := 44) rfl (fun g44 => ?_) (fun g44 => ?_)
      ·
       have q44 := of_decide_eq_true g44
       refine zm82 ?_
       exact zq211
      ·
       have q44 := of_decide_eq_false g44
       refine zm13 ?_; refine zm8 ?_
       exact zq211
     ·
      have q40 := of_decide_eq_false g40
      exact zq212
    ·
     have q35 := of_decide_eq_false g35
     refine zm46 ?_
     exact zq212
   ·
    refine zm28 ?_
    refine TC.condD rfl (fun c50 => ?_) (fun c50 => ?_)
    ·
     refine zm211 ?_
     refine TL.split (s := 55) rfl (fun g55 => ?_) (fun g55 => ?_)
     ·
      have q55 := of_decide_eq_true g55
      refine zm130 ?_
      refine TL.split (s := 60) rfl (fun g60 => ?_) (fun g60 => ?_)
      ·
       have q60 := of_decide_eq_true g60
       refine zm13 ?_; exact TL.gdY rfl rfl (pr_lenStr rfl rfl) rfl (zq211)
      ·
       have q60 := of_decide_eq_false g60
       exact zq219
     ·
      have q55 := of_decide_eq_false g55
      refine zm46 ?_
      exact zq219
    ·
     refine zm81 ?_; refine zm211 ?_
     refine TL.split (s := 69) rfl (fun g69 => ?_) (fun g69 => ?_)
     ·
      have q69 := of_decide_eq_true g69
      refine zm130 ?_
      refine TL.split (s := 74) rfl (fun g74 => ?_) (fun g74 => ?_)
      ·
       have q74 := of_decide_eq_true g74
       refine zm13 ?_; refine zm75 ?_
       exact zq220
      ·
       have q74 := of_decide_eq_false g74
       exact zq225
     ·
      have q69 := of_decide_eq_false g69
      refine zm46 ?_
      exact zq225
set_option maxHeartbeats 1000000 in
theorem walk_ok {H : Hp} {l : List Term} {v : Value} {bl bm bmv bw : Nat} (hT : RdSl H 6 Term.cells v l) (hnames : ∀ t ∈ l, t.name.length ≤ 9223372036854775807) (hl : H bl 0 = some v) (hm : H bmv 0 = some (.slice (some ⟨bm, 0, none⟩) l.length l.length)) (hw : H bw 0 = some (.func (.func 118) #[] #[.pointer (some ⟨bl, 0, none⟩), .pointer (some ⟨bmv, 0, none⟩), .pointer (some ⟨bw, 0, none⟩)])) :
  ∀ (f : Nat) (at_ deep : Int) (met : List Bool), 0 ≤ at_ → at_ < l.length → at_.toNat < f → 1 ≤ deep ∧ deep ≤ 25 → met.length = l.length →
   FnM1 Tryz.prog 118 [.int .i64 at_, .int .i64 deep, .pointer (some ⟨bl, 0, none⟩), .pointer (some ⟨bmv, 0, none⟩), .pointer (some ⟨bw, 0, none⟩)] H bm (met.map Value.bool)
    (fun v' H' cs' => ∃ b m, mayW l f at_ deep met = (b, m) ∧ v' = .bool b ∧ cs' = m.map Value.bool ∧ m.length = l.length ∧ H' = H) := by
 intro f
 induction f with
 | zero => intro at_ deep met _ _ h; omega
 | succ f ih =>
 intro at_ deep met h0 h1 hf hd hlen
 have hmax := hT.max
 have hlt : at_.toNat < met.length := by omega
 obtain ⟨t, hx⟩ := getSome h0 h1
 have hN : t.name.length ≤ 9223372036854775807 := hnames t (List.mem_of_getElem? hx)
 refine FnM1.enter Tryz.func118 Tryz.ntmps118 rfl rfl (fun w0 => ?_)
 refine zm212 ?_; refine TL.run (pr_hp1 rfl hl) rfl ?_; refine zm0 ?_; refine TL.run (pr_indexSl rfl hT rfl (by omega) (by omega)) rfl (TL.run (pr_elA hT hx rfl rfl) rfl (TL.alloc rfl (fun b8 => ?_)))
 refine zm98 ?_; refine TL.callS (enters rfl rfl rfl rfl) (operands_ok t.kind) rfl ?_; refine zm59 ?_; refine TL.run (pr_hp1 rfl hm) rfl ?_; refine zm132 ?_; refine TL.run (pr_own1 rfl (.there _ (.here _)) (bools_get hlt)) rfl ?_
 refine zm0 ?_
 refine TL.split (s := 23) rfl (fun g23 => ?_) (fun g23 => ?_)
 ·
  refine zm168 ?_
  exact zq228
 ·
  refine zm8 ?_; refine zm17 ?_
  refine TL.split (s := 27) rfl (fun g27 => ?_) (fun g27 => ?_)
  ·
   have q27 := of_decide_eq_true g27
   exact zq228
  ·
   have q27 := of_decide_eq_false g27
   refine zm8 ?_; refine zm17 ?_
   refine TL.split (s := 31) rfl (fun g31 => ?_) (fun g31 => ?_)
   ·
    have q31 := of_decide_eq_true g31
    exact zq232
   ·
    have q31 := of_decide_eq_false g31
    refine TL.gdY rfl rfl (pr_ownA rfl (.here _) rfl) rfl (TL.callSY rfl rfl (enters rfl rfl rfl rfl) (fields_ok t hN) rfl ?_); refine zm35 ?_
    refine TC.cond rfl (fun c35 => ?_) (fun c35 => ?_)
    · exact zq239
    ·
     refine zm69 ?_
     have hg : MayG deep met at_ t := ⟨by simp_all, by simp_all, by simp_all, by simp_all⟩
     refine TL.run (pr_hp1 rfl hm) rfl ?_; refine zm132 ?_; refine zm266 ?_; refine TL.nil ?_
     rw [bools_set]
     refine zm213 ?_; refine zm51 ?_
     refine TL.bslice rfl rfl rfl rfl (fun b43 => ?_)
     refine zm113 ?_; refine zm10 ?_; refine TC.rounds 3 (TR.succ ?_); refine zm11 ?_; refine TC.condT rfl ?_; refine zm114 ?_; refine zm21 ?_; refine zm29 ?_; refine zm60 ?_; refine zm133 ?_
     refine TC.condD rfl (fun c52_0 => ?_) (fun c52_0 => ?_)
     ·
      refine zm214 ?_
      refine TC.condND rfl (fun c54_0 => ?_) (fun c54_0 => ?_)
      · exact zq248
      ·
       refine zm12 ?_; refine zm215 ?_; refine TC.region ?_; refine zm169 ?_
       have o0 : opW (operandsI t.kind) at_ (fun to m => mayW l f to (deep + 1) m) 0 t.l (met.set at_.toNat true) = (true, (met.set at_.toNat true)) := by first | exact opW_leT c52_0 c54_0 | exact opW_r c52_0 g57_0 g62_0 (e1.trans (by simp_all; done)) | exact opW_r c52_0 g57_0 g62_0 (e2.trans (by simp_all; done))
       refine TX.rnd (TR.succ ?_); refine zm11 ?_; refine TC.condT rfl ?_; refine zm114 ?_; refine zm21 ?_; refine zm29 ?_; refine zm60 ?_; refine zm133 ?_
       refine TC.condD rfl (fun c52_1 => ?_) (fun c52_1 => ?_)
       ·
        refine zm214 ?_
        refine TC.condND rfl (fun c54_1 => ?_) (fun c54_1 => ?_)
        · exact zq248
        ·
         refine zm12 ?_; refine zm215 ?_; refine TC.region ?_; refine zm169 ?_
         have o1 : opW (operandsI t.kind) at_ (fun to m => mayW l f to (deep + 1) m) 1 t.r (met.set at_.toNat true) = (true, (met.set at_.toNat true)) := by first | exact opW_leT c52_1 c54_1 | exact opW_r c52_1 g57_1 g62_1 (e1.trans (by simp_all; done)) | exact opW_r c52_1 g57_1 g62_1 (e2.trans (by simp_all; done))
         refine TX.rnd (TR.succ ?_); refine zm11 ?_; refine TC.condF rfl ?_; refine zm65 ?_
         exact zq261
       ·
        refine zm12 ?_; refine zm40 ?_
        refine TL.split (s := 57) rfl (fun g57_1 => ?_) (fun g57_1 => ?_)
        ·
         have q57_1 := of_decide_eq_true g57_1
         exact zq262
        ·
         have q57_1 := of_decide_eq_false g57_1
         refine zm23 ?_; refine zm17 ?_
         refine TL.split (s := 62) rfl (fun g62_1 => ?_) (fun g62_1 => ?_)
         ·
          have q62_1 := of_decide_eq_true g62_1
          exact zq267
         ·
          have q62_1 := of_decide_eq_false g62_1
          refine TL.gdY rfl rfl (pr_hp1 rfl hw) rfl ?_; refine zm23 ?_; refine zm267 ?_; refine zm268 ?_
          refine TL.callM1Y rfl rfl (enters rfl rfl rfl rfl) (ih _ (deep + 1) _ (by have q1 := of_decide_eq_false g57_1; have q2 := of_decide_eq_false g62_1; omega) (by have q1 := of_decide_eq_false g57_1; have q2 := of_decide_eq_false g62_1; omega) (by have q1 := of_decide_eq_false g57_1; have q2 := of_decide_eq_false g62_1; omega) ⟨by omega, by have := hg.2.1; omega⟩ (by first | assumption | (simp; assumption))) rfl (fun v67 H67 cs67 hle67 hp67 => ?_)
          obtain ⟨r1, m1, e1, rfl, rfl, hl1, rfl⟩ := hp67
          refine zm35 ?_
          refine TC.cond rfl (fun c69_1 => ?_) (fun c69_1 => ?_)
          · exact zq283
          ·
           refine zm269 ?_; refine zm169 ?_
           have o1 : opW (operandsI t.kind) at_ (fun to m => mayW l f to (deep + 1) m) 1 t.r (met.set at_.toNat true) = (true, m1) := by first | exact opW_leT c52_1 c54_1 | exact opW_r c52_1 g57_1 g62_1 (e1.trans (by simp_all; done)) | exact opW_r c52_1 g57_1 g62_1 (e2.trans (by simp_all; done))
           exact zq295
     ·
      refine zm12 ?_; refine zm40 ?_
      refine TL.split (s := 57) rfl (fun g57_0 => ?_) (fun g57_0 => ?_)
      ·
       have q57_0 := of_decide_eq_true g57_0
       exact zq262
      ·
       have q57_0 := of_decide_eq_false g57_0
       refine zm23 ?_; refine zm17 ?_
       refine TL.split (s := 62) rfl (fun g62_0 => ?_) (fun g62_0 => ?_)
       ·
        have q62_0 := of_decide_eq_true g62_0
        exact zq267
       ·
        have q62_0 := of_decide_eq_false g62_0
        refine TL.gdY rfl rfl (pr_hp1 rfl hw) rfl ?_; refine zm23 ?_; refine zm267 ?_; refine zm268 ?_
        refine TL.callM1Y rfl rfl (enters rfl rfl rfl rfl) (ih _ (deep + 1) _ (by have q1 := of_decide_eq_false g57_0; have q2 := of_decide_eq_false g62_0; omega) (by have q1 := of_decide_eq_false g57_0; have q2 := of_decide_eq_false g62_0; omega) (by have q1 := of_decide_eq_false g57_0; have q2 := of_decide_eq_false g62_0; omega) ⟨by omega, by have := hg.2.1; omega⟩ (by first | assumption | (simp; assumption))) rfl (fun v67 H67 cs67 hle67 hp67 => ?_)
        obtain ⟨r1, m1, e1, rfl, rfl, hl1, rfl⟩ := hp67
        refine zm35 ?_
        refine TC.cond rfl (fun c69_0 => ?_) (fun c69_0 => ?_)
        · exact zq283
        ·
         refine zm269 ?_; refine zm169 ?_
         have o0 : opW (operandsI t.kind) at_ (fun to m => mayW l f to (deep + 1) m) 0 t.l (met.set at_.toNat true) = (true, m1) := by first | exact opW_leT c52_0 c54_0 | exact opW_r c52_0 g57_0 g62_0 (e1.trans (by simp_all; done)) | exact opW_r c52_0 g57_0 g62_0 (e2.trans (by simp_all; done))
         refine TX.rnd (TR.succ ?_); refine zm11 ?_; refine TC.condT rfl ?_; refine zm114 ?_; refine zm21 ?_; refine zm170 ?_; refine zm60 ?_; refine zm133 ?_
         refine TC.condD rfl (fun c52_1 => ?_) (fun c52_1 => ?_)
         ·
          refine zm214 ?_
          refine TC.condND rfl (fun c54_1 => ?_) (fun c54_1 => ?_)
          · refine zm171 ?_; exact TX.thenR (zq289)
          ·
           refine zm12 ?_; refine zm215 ?_; refine TC.region ?_; refine zm169 ?_
           have o1 : opW (operandsI t.kind) at_ (fun to m => mayW l f to (deep + 1) m) 1 t.r m1 = (true, m1) := by first | exact opW_leT c52_1 c54_1 | exact opW_r c52_1 g57_1 g62_1 (e1.trans (by simp_all; done)) | exact opW_r c52_1 g57_1 g62_1 (e2.trans (by simp_all; done))
           exact zq295
         ·
          refine zm12 ?_; refine zm40 ?_
          refine TL.split (s := 57) rfl (fun g57_1 => ?_) (fun g57_1 => ?_)
          ·
           have q57_1 := of_decide_eq_true g57_1
           refine zm46 ?_
           exact zq315
          ·
           have q57_1 := of_decide_eq_false g57_1
           refine zm23 ?_; refine zm17 ?_
           refine TL.split (s := 62) rfl (fun g62_1 => ?_) (fun g62_1 => ?_)
           ·
            have q62_1 := of_decide_eq_true g62_1
            exact zq315
           ·
            have q62_1 := of_decide_eq_false g62_1
            refine TL.gdY rfl rfl (pr_hp1 rfl hw) rfl ?_; refine zm23 ?_; refine zm267 ?_
            refine TL.callM1Y rfl rfl (enters rfl rfl rfl rfl) (ih _ (deep + 1) _ (by have q1 := of_decide_eq_false g57_1; have q2 := of_decide_eq_false g62_1; omega) (by have q1 := of_decide_eq_false g57_1; have q2 := of_decide_eq_false g62_1; omega) (by have q1 := of_decide_eq_false g57_1; have q2 := of_decide_eq_false g62_1; omega) ⟨by omega, by have := hg.2.1; omega⟩ (by first | assumption | (simp; assumption))) rfl (fun v67 H67 cs67 hle67 hp67 => ?_)
            obtain ⟨r2, m2, e2, rfl, rfl, hl2, rfl⟩ := hp67
            refine zm35 ?_
            refine TC.cond rfl (fun c69_1 => ?_) (fun c69_1 => ?_)
            · exact zq283
            ·
             refine zm269 ?_; refine zm169 ?_
             have o1 : opW (operandsI t.kind) at_ (fun to m => mayW l f to (deep + 1) m) 1 t.r m1 = (true, m2) := by first | exact opW_leT c52_1 c54_1 | exact opW_r c52_1 g57_1 g62_1 (e1.trans (by simp_all; done)) | exact opW_r c52_1 g57_1 g62_1 (e2.trans (by simp_all; done))
             exact zq295
set_option maxHeartbeats 1000000 in
theorem May_ok {H : Hp} {l : List Term} {v : Value} (root : Int) (hT : RdSl H 6 Term.cells v l) (hnames : ∀ t ∈ l, t.name.length ≤ 9223372036854775807) :
  FnS Tryz.prog 59 [v, .int .i64 root] H (.bool (mayB l root)) := by
 have hmax := hT.max
 have one1 := hT.isOne
 refine FnS.enter Tryz.func59 Tryz.ntmps59 rfl rfl (fun w0 => ?_)
 refine zm4 ?_
 refine TL.box1 rfl rfl (fun b2 => ?_)
 refine zm59 ?_; refine zm29 ?_; refine TL.run (pr_lenSl rfl rfl hT) rfl ?_; refine zm9 ?_
 refine TL.split (s := 10) rfl (fun g10 => ?_) (fun g10 => ?_)
 ·
  have q10 := of_decide_eq_true g10
  refine zm168 ?_
  exact zq325
 ·
  have q10 := of_decide_eq_false g10
  refine zm8 ?_; refine zm17 ?_
  refine TL.split (s := 14) rfl (fun g14 => ?_) (fun g14 => ?_)
  ·
   have q14 := of_decide_eq_true g14
   exact zq325
  ·
   have q14 := of_decide_eq_false g14
   refine zm8 ?_; refine zm172 ?_; refine TL.gdY rfl rfl (pr_lenSl rfl rfl hT) rfl ?_; refine zm35 ?_
   refine TC.condD rfl (fun c19 => ?_) (fun c19 => ?_)
   · exact zq333
   ·
    refine zm69 ?_; refine zm29 ?_; refine TL.run (pr_lenSl rfl rfl hT) rfl (TL.make rfl rfl (by first | omega | decide) (by first | omega | decide) (by first | omega | decide) rfl (fun b22 => ?_))
    refine TL.alloc rfl (fun b5 => ?_)
    refine zm134 ?_
    refine TL.alloc rfl (fun b6 => ?_)
    refine zm41 ?_; refine zm134 ?_
    refine TL.pub (by simp) (fun H_b6 le_b6 rd_b6 => ?_)
    refine TL.pub (by simp) (fun H_b5 le_b5 rd_b5 => ?_)
    refine TL.front (.there _ (.here _)) (TL.pub (by simp) (fun H_b2 le_b2 rd_b2 => ?_))
    have hT2 := ((hT.le le_b6).le le_b5).le le_b2
    have hl : H_b2 b2 0 = some v := rd_b2 0 _ rfl
    have hm := le_b2 _ _ _ (rd_b5 0 _ rfl)
    have hw := le_b2 _ _ _ (le_b5 _ _ _ (rd_b6 0 _ rfl))
    have h160 := mayB_in g10 g14 c19
    rw [reps_false]
    refine TL.run (pr_hp1 rfl hw) rfl ?_; refine zm0 ?_
    refine TL.callM1 (enters rfl rfl rfl rfl) (walk_ok hT2 hnames hl hm hw (root.toNat + 1) root 1 _ (by omega) (by omega) (by omega) (by omega) (by simp)) rfl (fun v26 H26 cs26 hle26 hp26 => ?_)
    obtain ⟨b, m, e, rfl, rfl, hl2, rfl⟩ := hp26
    refine zm22 ?_
    exact zq340
end Go.Sx
namespace Go.Sx
open Go Go.Proofs
set_option maxHeartbeats 1000000 in
theorem n_Place_ok {H : Hp} {l : List Str} {v : Value} (s : Str) (hL : RdSl H 1 Str.cells v l) :
  FnS Tryz.prog 63 [v, gs s] H (.int .i64 (placeS l s)) := by
 have hmax := hL.max
 refine FnS.enter Tryz.func63 Tryz.ntmps63 rfl rfl (fun w0 => ?_)
 refine zm112 ?_; refine TL.run (pr_lenSl rfl rfl hL) rfl ?_; refine zm10 ?_
 refine TC.loop (V := fun k => [(8, .int .i64 k)]) (K := [(0, _), (1, _), (4, _), (7, _)]) (L := fun k => _) (I := fun k => 0 ≤ k ∧ k ≤ l.length ∧ ∀ j : Nat, j < k.toNat → l[j]? ≠ some s) (μ := fun k => (l.length - k).toNat) (i := (0 : Int)) ⟨rfl, rfl, rfl, rfl, rfl, trivial⟩ ⟨by omega, by omega, fun j hj => absurd hj (by simp)⟩ (fun w hw => hw) (fun k hI => ?_)
 refine zm11 ?_
 refine TC.condD rfl (fun c9 => ?_) (fun c9 => ?_)
 ·
  refine zm15 ?_
  obtain ⟨x, hx⟩ := getSome (l := l) hI.1 c9
  refine zm60 ?_; refine zm24 ?_; refine zm115 ?_; refine TL.run (pr_el0 hL hx rfl rfl) rfl ?_; refine zm216 ?_
  refine TC.condD rfl (fun c16 => ?_) (fun c16 => ?_)
  ·
   refine zm217 ?_
   exact zq341
  ·
   refine zm116 ?_
   exact TX.round (k + 1) ⟨by omega, by omega, place_next hI.1 hI.2.2 hx c16⟩ ⟨rfl, rfl, rfl, rfl, rfl, trivial⟩ (fun w hw => hw) (by omega)
 ·
  refine zm65 ?_
  exact zq341
set_option maxHeartbeats 1000000 in
theorem n_Has_ok {H : Hp} {l : List Str} {v : Value} (s : Str) (hL : RdSl H 1 Str.cells v l) :
  FnS Tryz.prog 24 [v, gs s] H (.bool (hasS l s)) := by
 refine FnS.enter Tryz.func24 Tryz.ntmps24 rfl rfl (fun w0 => ?_)
 refine zm173 ?_; exact TL.callS (enters rfl rfl rfl rfl) (n_Place_ok s hL) rfl (zq342)
set_option maxHeartbeats 1000000 in
theorem varsN_ok {H : Hp} {at_ : Int} {bl bo bw : Nat} {u : Value} {xs : List Str} {ob : Blks} (hneg : at_ < 0) (hO : OwnSl 1 Str.cells u xs ob) :
  FnX Tryz.prog 60 [.int .i64 at_, .pointer (some ⟨bw, 0, none⟩), .pointer (some ⟨bl, 0, none⟩), .pointer (some ⟨bo, 0, none⟩)] H ((bo, [u]) :: ob) (fun r H' L' => r = .tuple #[] ∧ H' = H ∧ ∃ u' ob', L' = (bo, [u']) :: ob' ∧ OwnSl 1 Str.cells u' xs ob') := by
 refine FnX.enter Tryz.func60 Tryz.ntmps60 rfl rfl (fun w0 => ?_)
 exact zq343
set_option maxHeartbeats 2000000 in
theorem varsW_ok {H : Hp} {l : List Term} {v : Value} {bl bo bw : Nat} (hT : RdSl H 6 Term.cells v l) (hl : H bl 0 = some v) (hw : H bw 0 = some (.func (.func 60) #[] #[.pointer (some ⟨bw, 0, none⟩), .pointer (some ⟨bl, 0, none⟩), .pointer (some ⟨bo, 0, none⟩)])) :
  ∀ (f : Nat) (at_ : Int), (at_ < 0 ∨ Tr l f at_) → ∀ (u : Value) (xs : List Str) (ob : Blks), OwnSl 1 Str.cells u xs ob → xs.length + (varsW l f at_).length ≤ 100000000 →
   FnX Tryz.prog 60 [.int .i64 at_, .pointer (some ⟨bw, 0, none⟩), .pointer (some ⟨bl, 0, none⟩), .pointer (some ⟨bo, 0, none⟩)] H ((bo, [u]) :: ob) (fun r H' L' => r = .tuple #[] ∧ H' = H ∧ ∃ u' ob', L' = (bo, [u']) :: ob' ∧ OwnSl 1 Str.cells u' (xs ++ varsW l f at_) ob') := by
 intro f
 induction f with
 | zero =>
  intro at_ h u xs ob hO hlen
  have h0 : at_ < 0 := h.resolve_right (fun h => h)
  rw [varsW_neg h0, List.append_nil]
  exact varsN_ok h0 hO
 | succ f ih =>
 intro at_ h u xs ob hO hlen
 have one0 := hT.isOne
 obtain ⟨ua, uc, rfl⟩ := hO.form
 refine FnX.enter Tryz.func60 Tryz.ntmps60 rfl rfl (fun w0 => ?_)
 refine zm214 ?_
 refine TC.condD rfl (fun c6 => ?_) (fun c6 => ?_)
 · exact TC.ret (TX.thenR (TX.finX (.inr rfl) (results0 rfl) (fun w hw => hw) ⟨rfl, rfl, _, _, rfl, by rw [varsW_neg c6, List.append_nil]; exact hO⟩))
 ·
  obtain ⟨h0, t, hx, _, _, hTl0, hTl1, hTr0, hTr1⟩ := h.resolve_left c6
  have hlt : at_.toNat < l.length := (List.getElem?_eq_some_iff.1 hx).1
  rw [varsW_at c6 hx] at hlen
  simp only [List.length_append] at hlen
  have hTl : t.l < 0 ∨ Tr l f t.l := by rcases Int.lt_or_le (operandsI t.kind) 1 with h1 | h1; exact .inl (by have := hTl1 h1; omega); exact .inr (hTl0 h1)
  have hTr : t.r < 0 ∨ Tr l f t.r := by rcases Int.lt_or_le (operandsI t.kind) 2 with h1 | h1; exact .inl (by have := hTr1 h1; omega); exact .inr (hTr0 h1)
  refine zm12 ?_; refine TC.seq ?_; refine zm25 ?_; refine zm270 ?_; refine TF.still (pr_hp1 rfl hw) rfl ?_; refine zm218 ?_
  refine TF.loud (TL.callX0 (L1 := (bo, [(.slice ua _ uc)]) :: ob) (enters rfl rfl rfl rfl) (ih t.l (hTl) _ _ _ hO (by omega)) rfl (fun v13 H13 L13 hle13 hp13 => ?_))
  obtain ⟨rfl, rfl, u13, ob13, rfl, hO13⟩ := hp13
  obtain ⟨ua13, uc13, rfl⟩ := hO13.form
  refine zm49 ?_; refine zm61 ?_; refine zm270 ?_; refine TF.still (pr_hp1 rfl hw) rfl ?_; refine zm218 ?_
  refine TF.loud (TL.callX0 (L1 := (bo, [(.slice ua13 _ uc13)]) :: ob13) (enters rfl rfl rfl rfl) (ih t.r (hTr) _ _ _ hO13 (by simp only [List.length_append]; omega)) rfl (fun v20 H20 L20 hle20 hp20 => ?_))
  obtain ⟨rfl, rfl, u20, ob20, rfl, hO20⟩ := hp20
  obtain ⟨ua20, uc20, rfl⟩ := hO20.form
  refine zm49 ?_; refine zm4 ?_; refine TL.run (pr_hp1 rfl hl) rfl ?_; refine zm0 ?_; refine TL.run (pr_indexSl rfl hT rfl (by omega) (by omega)) rfl ?_; refine zm6 ?_; refine TL.run (pr_el1 hT hx rfl rfl) rfl ?_; refine zm2 ?_
  refine TC.condD rfl (fun c26 => ?_) (fun c26 => ?_)
  ·
   rw [if_pos c26] at hlen
   simp only [List.length_cons, List.length_nil] at hlen
   refine zm25 ?_; refine TD.leaf [(0, 2), (1, 2), (2, 1), (3, 1), (4, 1), (5, 2), (6, 3), (7, 0), (8, 0)] (by kernel_rfl) (by kernel_rfl) ?_; refine zm42 ?_; refine zm218 ?_
   refine TF.bslice rfl rfl rfl rfl (fun b33 => ?_)
   refine TF.loud (TL.append (enc := Str.cells) rfl rfl rfl hO20 (Src.own [t.name] (.here _) rfl rfl) (by simp; omega) rfl (.skip _ (.skip _ .all)) rfl (fun a34 c34 ob34 hO34 => ?_))
   refine TF.back (TF.loud (TL.storeV rfl rfl rfl (.there _ (.here _)) rfl (TF.back ?_)))
   exact TF.nil (TX.finX (.inl rfl) (results0 rfl) (fun w hw => hw.drop) ⟨rfl, rfl, _, _, rfl, by rw [varsW_at c6 hx, if_pos c26, ← List.append_assoc, ← List.append_assoc]; exact hO34⟩)
  · exact TC.skip (TX.finX (.inl rfl) (results0 rfl) (fun w hw => hw) ⟨rfl, rfl, _, _, rfl, by rw [varsW_at c6 hx, if_neg c26, List.append_nil, ← List.append_assoc]; exact hO20⟩)
set_option maxHeartbeats 1000000 in
theorem Vars_ok {H : Hp} {l : List Term} {v : Value} (root : Int) (hT : RdSl H 6 Term.cells v l) (hnames : ∀ t ∈ l, t.name.length ≤ 9223372036854775807) :
  Fn Tryz.prog 23 [v, .int .i64 root] H (fun r H1 => RdSl H1 1 Str.cells r (varsS l root)) := by
 have one1 := hT.isOne
 refine Fn.enter Tryz.func23 Tryz.ntmps23 rfl rfl (fun w0 => ?_)
 refine zm4 ?_
 refine TL.box1 rfl rfl (fun b2 => ?_)
 refine zm59 ?_; refine zm29 ?_; refine zm0 ?_; refine TL.callS (enters rfl rfl rfl rfl) (May_ok root hT hnames) rfl ?_; refine zm2 ?_
 refine TC.cond rfl (fun c10 => ?_) (fun c10 => ?_)
 ·
  refine zm171 ?_
  exact TX.fin0 (.inr rfl) (results1 rfl (RVal.tmp rfl)) (by unfold varsS; rw [if_neg (by simpa using c10)]; exact RdSl.nil)
 ·
  refine zm69 ?_
  refine TL.alloc rfl (fun b5 => ?_)
  refine zm27 ?_
  refine TL.alloc rfl (fun b6 => ?_)
  refine zm41 ?_; refine zm134 ?_
  refine TL.pub (by simp) (fun H_b6 le_b6 rd_b6 => ?_)
  refine TL.front (.there _ (.here _)) (TL.pub (by simp) (fun H_b2 le_b2 rd_b2 => ?_))
  have hT2 := (hT.le le_b6).le le_b2
  have hl : H_b2 b2 0 = some v := rd_b2 0 _ rfl
  have hw := le_b2 _ _ _ (rd_b6 0 _ rfl)
  have hm : mayB l root = true := by simpa using c10
  have hvl := mayB_vars hm
  refine TL.run (pr_hp1 rfl hw) rfl ?_; refine zm0 ?_
  refine TL.callX0 (L1 := (b5, [.slice none 0 0]) :: []) (enters rfl rfl rfl rfl) (varsW_ok hT2 hl hw (root.toNat + 1) root (.inr (mayB_Tr hm)) _ [] [] OwnSl.nil (by simp; omega)) rfl (fun v14 H14 L14 hle14 hp14 => ?_)
  obtain ⟨rfl, rfl, u14, ob14, rfl, hO14⟩ := hp14
  rw [List.nil_append] at hO14
  obtain ⟨ua14, uc14, rfl⟩ := hO14.form
  refine zm27 ?_; refine zm29 ?_
  refine TL.sort (enters rfl rfl rfl rfl) sort_ok hO14 (.skip _ .all) (by omega) rfl (fun ob16 hO16 => ?_)
  refine zm27 ?_; refine zm29 ?_
  refine TL.compact (enters rfl rfl rfl rfl) compact_ok hO16 (.skip _ .all) rfl (fun a18 c18 ob18 hO18 => ?_)
  refine zm22 ?_
  refine TX.pubO hO18 (.skip _ .all) (by simp) (fun H1 hle hR => ?_)
  exact TX.fin0 (.inr rfl) (results1 rfl (RVal.tmp rfl)) (by unfold varsS; rw [if_pos hm]; exact hR)
end Go.Sx
