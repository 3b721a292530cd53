import Derived.Shelf.Strings.Builder1
import Derived.Shelf.Strings.Builder2
import Derived.Shelf.Strings.OnBuilder
import Derived.Shelf.Small.Wraps
import Derived.Shelf.Strings.BuilderF
import Derived.Shelf.Strings.BuilderK
import Derived.Shelf.Strings.Builder2Cap
import Derived.Shelf.Strconv.Itoa0
import Derived.Shelf.Strconv.Itoa1
import Derived.Shelf.LaysM
import Derived.Shelf.Strconv.Itoa2
import Derived.Shelf.Strconv.Itoa3
import Derived.Shelf.Strconv.Itoa4
import Derived.Shelf.Strconv.ParseIntEmpty
import Derived.Shelf.Strconv.Clone
import Derived.Shelf.Strconv.SyntaxError
import Derived.Shelf.LaysC
import Derived.Shelf.Strconv.ToError
import Derived.Shelf.Strconv.Lower
import Derived.Shelf.Strconv.ParseUint10
import Derived.Shelf.Strconv.ParseUint10Empty
import Derived.Shelf.Strconv.ParseUint10Any
import Derived.Shelf.Strconv.ParseInt10
import Derived.Shelf.Strconv.RangeError
import Derived.Shelf.Strconv.ToErrorRange
import Derived.Shelf.Strconv.ParseUintEmpty
import Derived.Shelf.Strconv.ParseUint10b64
import Derived.Shelf.Strconv.ParseUint10b32
import Derived.Shelf.Strconv.ParseUint10b16
import Derived.Shelf.Strconv.ParseUint10b8
import Derived.Shelf.Strconv.ParseUint10At
import Derived.Shelf.Strconv.ParseInt10At64
import Derived.Shelf.Strconv.ParseInt10At32
import Derived.Shelf.Strconv.ParseInt10At16
import Derived.Shelf.Strconv.ParseInt10At8
import Derived.Shelf.Strconv.ParseInt10All
import Derived.Shelf.Strconv.ParseIntPublic10
import Derived.Shelf.Strconv.ErrVarParseInt
import Derived.Shelf.Strings.Prefix
import Derived.Shelf.Strings.Fields
import Derived.Shelf.Strings.SplitShaped
import Derived.Shelf.Unicode.Latin
import Derived.Shelf.Unicode.Is16White
import Derived.Shelf.Unicode.IsSpaceAny
import Derived.Shelf.Unicode.Is16WhiteD
import Derived.Shelf.Unicode.IsSpaceAnyD
import Derived.Shelf.Strings.FieldsAny
import Derived.Shelf.Strings.FieldsFuncAny
import Derived.Shelf.Unicode.Is16Any
import Derived.Shelf.Unicode.Is32Any
import Derived.Shelf.Unicode.ExclAny
import Derived.Test.YtmlgpjficicagaaDoorProg
import Derived.Test.YtmlgpjficicagaaDoorSxB
import Derived.Test.YtmlgpjficicagaaDoorPureDv
set_option linter.unusedVariables false
namespace Go.Proofs
open Go.Shelf
def Tryd.lays156_ren : Go.Shelf.Ren := ⟨fun | 156 => 23 | 165 => 43 | 166 => 44 | 169 => 45 | 240 => 57 | 241 => 58 | 276 => 69 | 277 => 70 | n => n, fun | 31 => 45 | 9 => 9 | 3 => 3 | 4 => 4 | 0 => 0 | 20 => 20 | 72 => 61 | 76 => 65 | 70 => 59 | 37 => 54 | 75 => 64 | 127 => 76 | 164 => 87 | 5 => 5 | 80 => 67 | n => n, fun | n => n⟩
theorem Tryd.lays156 : Go.Proofs.Lays.n156 Tryd.prog Tryd.lays156_ren := {
  mixed := by kernel_rfl
  f156 := Tryd.func23.trans (congrArg some (by kernel_rfl))
  f165 := Tryd.func43.trans (congrArg some (by kernel_rfl))
  f166 := Tryd.func44.trans (congrArg some (by kernel_rfl))
  f169 := Tryd.func45.trans (congrArg some (by kernel_rfl))
  f240 := Tryd.func57.trans (congrArg some (by kernel_rfl))
  f241 := Tryd.func58.trans (congrArg some (by kernel_rfl))
  f276 := Tryd.func69.trans (congrArg some (by kernel_rfl))
  f277 := Tryd.func70.trans (congrArg some (by kernel_rfl))
  t0 := Tryd.underlying0
  a0 := Tryd.isAgg0
  z0 := Tryd.sizeOf0
  v0 := Tryd.zeroValue0
  t3 := Tryd.underlying3
  a3 := Tryd.isAgg3
  z3 := Tryd.sizeOf3
  v3 := Tryd.zeroValue3
  t4 := Tryd.underlying4
  a4 := Tryd.isAgg4
  z4 := Tryd.sizeOf4
  v4 := Tryd.zeroValue4
  t9 := Tryd.underlying9
  a9 := Tryd.isAgg9
  z9 := Tryd.sizeOf9
  v9 := Tryd.zeroValue9
  t20 := Tryd.underlying20
  a20 := Tryd.isAgg20
  z20 := Tryd.sizeOf20
  v20 := Tryd.zeroValue20
  t31 := Tryd.underlying45
  a31 := Tryd.isAgg45
  z31 := Tryd.sizeOf45
  v31 := Tryd.zeroValue45
  t37 := Tryd.underlying54
  a37 := Tryd.isAgg54
  z37 := Tryd.sizeOf54
  v37 := Tryd.zeroValue54
  t70 := Tryd.underlying59
  a70 := Tryd.isAgg59
  z70 := Tryd.sizeOf59
  v70 := Tryd.zeroValue59
  t72 := Tryd.underlying61
  a72 := Tryd.isAgg61
  z72 := Tryd.sizeOf61
  v72 := Tryd.zeroValue61
  t75 := Tryd.underlying64
  a75 := Tryd.isAgg64
  z75 := Tryd.sizeOf64
  v75 := Tryd.zeroValue64
  t76 := Tryd.underlying65
  a76 := Tryd.isAgg65
  z76 := Tryd.sizeOf65
  v76 := Tryd.zeroValue65
  t127 := Tryd.underlying76
  a127 := Tryd.isAgg76
  z127 := Tryd.sizeOf76
  v127 := Tryd.zeroValue76
  t164 := Tryd.underlying87
  a164 := Tryd.isAgg87
  z164 := Tryd.sizeOf87
  v164 := Tryd.zeroValue87 }
theorem Tryd.Builder_Extra_156 : Builder.Extra Tryd.prog Tryd.lays156_ren := {
  sizeBuilder := by kernel_rfl
  liesBuilder := by kernel_rfl
  t5 := Tryd.underlying5
  a5 := Tryd.isAgg5
  z5 := Tryd.sizeOf5
  v5 := Tryd.zeroValue5
  infoByte := by kernel_rfl
  cellsByte := by kernel_rfl
  sizeByte := by kernel_rfl
  neB5 := by decide }
open Go.RowKit in
theorem Tryd.strings_Join_none (a : Option Addr) (c : Nat) (sep : ByteArray) (w : World) :
    Calls Tryd.prog 23 #[.slice a 0 c, .string sep] w fun e w' => e = .returned (.string ⟨#[]⟩) ∧ w' = w := Any.strings_Join_none Tryd.lays156 Tryd.Builder_Extra_156 a c sep w
open Go.RowKit in
theorem Tryd.strings_Join (bk o c : Nat) (xs : List ByteArray) (sep : ByteArray) (w : World) (hcells : ∀ (j : Nat) x, xs[j]? = some x → w.cell? ⟨bk, o + j, none⟩ = some (.string x)) (hbk : bk < w.heap.size) (hN : xs.length ≤ 140737488355328) (hcap : xs.length ≤ c) (hlen : (Lib.join (xs.map (·.data.toList)) sep.data.toList).length ≤ 140737488355328) :
    Calls Tryd.prog 23 #[.slice (some ⟨bk, o, none⟩) xs.length c, .string sep] w fun e w' => e = .returned (.string ⟨(Lib.join (xs.map (·.data.toList)) sep.data.toList).toArray⟩) ∧ Below w.heap.size w w' := Any.strings_Join Tryd.lays156 Tryd.Builder_Extra_156 bk o c xs sep w hcells hbk hN hcap hlen
def Tryd.lays121_ren : Go.Shelf.Ren := ⟨fun | 121 => 22 | 214 => 42 | n => n, fun | 4 => 4 | 9 => 9 | n => n, fun | n => n⟩
theorem Tryd.lays121 : Go.Proofs.Lays.n121 Tryd.prog Tryd.lays121_ren := {
  mixed := by kernel_rfl
  f121 := Tryd.func22.trans (congrArg some (by kernel_rfl))
  f214 := Tryd.func42.trans (congrArg some (by kernel_rfl))
  t4 := Tryd.underlying4
  a4 := Tryd.isAgg4
  z4 := Tryd.sizeOf4
  v4 := Tryd.zeroValue4
  t9 := Tryd.underlying9
  a9 := Tryd.isAgg9
  z9 := Tryd.sizeOf9
  v9 := Tryd.zeroValue9 }
open Go.RowKit in
theorem Tryd.strconv_FormatBool (b : Bool) (w : World) :
    Calls Tryd.prog 22 #[.bool b] w fun e w' => e = .returned (.string ⟨(Lib.formatBool b).toArray⟩) ∧ w' = w := Any.strconv_FormatBool Tryd.lays121 b w
def Tryd.laysM173_ren : Go.Shelf.Ren := ⟨fun | 173 => 41 | 246 => 56 | 283 => 65 | 284 => 66 | 285 => 67 | 286 => 68 | 129 => 78 | 317 => 77 | 318 => 79 | 319 => 80 | 320 => 81 | 337 => 89 | 338 => 90 | n => n, fun | 2 => 2 | 3 => 3 | 9 => 9 | 4 => 4 | 171 => 82 | 0 => 0 | 53 => 75 | 37 => 54 | 5 => 5 | 173 => 85 | 212 => 104 | 51 => 99 | 20 => 20 | 213 => 105 | 46 => 40 | 232 => 128 | 233 => 129 | n => n, fun | 17 => 2 | 18 => 6 | 19 => 7 | n => n⟩
theorem Tryd.laysM173 : Go.Proofs.LaysM.n173 Tryd.prog Tryd.laysM173_ren := {
  mixed := by kernel_rfl
  f129 := Tryd.func78.trans (congrArg some (by kernel_rfl))
  f173 := Tryd.func41.trans (congrArg some (by kernel_rfl))
  f246 := Tryd.func56.trans (congrArg some (by kernel_rfl))
  f283 := Tryd.func65.trans (congrArg some (by kernel_rfl))
  f284 := Tryd.func66.trans (congrArg some (by kernel_rfl))
  f285 := Tryd.func67.trans (congrArg some (by kernel_rfl))
  f286 := Tryd.func68.trans (congrArg some (by kernel_rfl))
  f317 := Tryd.func77.trans (congrArg some (by kernel_rfl))
  f318 := Tryd.func79.trans (congrArg some (by kernel_rfl))
  f319 := Tryd.func80.trans (congrArg some (by kernel_rfl))
  f320 := Tryd.func81.trans (congrArg some (by kernel_rfl))
  f337 := Tryd.func89.trans (congrArg some (by kernel_rfl))
  f338 := Tryd.func90.trans (congrArg some (by kernel_rfl))
  t0 := Tryd.underlying0
  a0 := Tryd.isAgg0
  z0 := Tryd.sizeOf0
  v0 := Tryd.zeroValue0
  t2 := Tryd.underlying2
  a2 := Tryd.isAgg2
  z2 := Tryd.sizeOf2
  v2 := Tryd.zeroValue2
  t3 := Tryd.underlying3
  a3 := Tryd.isAgg3
  z3 := Tryd.sizeOf3
  v3 := Tryd.zeroValue3
  t4 := Tryd.underlying4
  a4 := Tryd.isAgg4
  z4 := Tryd.sizeOf4
  v4 := Tryd.zeroValue4
  t5 := Tryd.underlying5
  a5 := Tryd.isAgg5
  z5 := Tryd.sizeOf5
  v5 := Tryd.zeroValue5
  t9 := Tryd.underlying9
  a9 := Tryd.isAgg9
  z9 := Tryd.sizeOf9
  v9 := Tryd.zeroValue9
  t20 := Tryd.underlying20
  a20 := Tryd.isAgg20
  z20 := Tryd.sizeOf20
  v20 := Tryd.zeroValue20
  t37 := Tryd.underlying54
  a37 := Tryd.isAgg54
  z37 := Tryd.sizeOf54
  v37 := Tryd.zeroValue54
  t46 := Tryd.underlying40
  a46 := Tryd.isAgg40
  z46 := Tryd.sizeOf40
  v46 := Tryd.zeroValue40
  t51 := Tryd.underlying99
  a51 := Tryd.isAgg99
  z51 := Tryd.sizeOf99
  v51 := Tryd.zeroValue99
  t53 := Tryd.underlying75
  a53 := Tryd.isAgg75
  z53 := Tryd.sizeOf75
  v53 := Tryd.zeroValue75
  t171 := Tryd.underlying82
  a171 := Tryd.isAgg82
  z171 := Tryd.sizeOf82
  v171 := Tryd.zeroValue82
  t173 := Tryd.underlying85
  a173 := Tryd.isAgg85
  z173 := Tryd.sizeOf85
  v173 := Tryd.zeroValue85
  t212 := Tryd.underlying104
  a212 := Tryd.isAgg104
  z212 := Tryd.sizeOf104
  v212 := Tryd.zeroValue104
  t213 := Tryd.underlying105
  a213 := Tryd.isAgg105
  z213 := Tryd.sizeOf105
  t232 := Tryd.underlying128
  a232 := Tryd.isAgg128
  z232 := Tryd.sizeOf128
  v232 := Tryd.zeroValue128
  t233 := Tryd.underlying129
  a233 := Tryd.isAgg129
  z233 := Tryd.sizeOf129
  v233 := Tryd.zeroValue129
  g17 := by kernel_rfl
  g18 := by kernel_rfl
  g19 := by kernel_rfl
  i0 := by kernel_rfl
  i2 := by kernel_rfl
  i3 := by kernel_rfl
  i4 := by kernel_rfl
  i5 := by kernel_rfl
  i9 := by kernel_rfl
  i20 := by kernel_rfl
  i37 := by kernel_rfl
  i46 := by kernel_rfl
  i51 := by kernel_rfl
  i53 := by kernel_rfl
  i171 := by kernel_rfl
  i173 := by kernel_rfl
  i212 := by kernel_rfl
  i232 := by kernel_rfl
  i233 := by kernel_rfl
  m17 := by kernel_rfl
  m18 := by kernel_rfl
  m19 := by kernel_rfl }
open Go.RowKit Go.Sort Go.Lib in
theorem Tryd.strconv_FormatInt_10 (n : Int) (h0 : -9223372036854775808 ≤ n) (h1 : n ≤ 9223372036854775807) (w : World) (htab : Lib.TabIs Tryd.prog w "internal/strconv.uint64pow10" .u64 Lib.pow10Tab) :
    Calls Tryd.prog 41 #[.int .i64 n, .int .i64 10] w fun e w' => e = .returned (.string ⟨(Lib.itoa n).toArray⟩) ∧ ∃ k os, w' = grow (w.drewN k) os := Any.strconv_FormatInt_10 Tryd.laysM173 n h0 h1 w htab
def Tryd.lays99_ren : Go.Shelf.Ren := ⟨fun | 99 => 51 | 206 => 61 | n => n, fun | 9 => 9 | 4 => 4 | 3 => 3 | n => n, fun | n => n⟩
theorem Tryd.lays99 : Go.Proofs.Lays.n99 Tryd.prog Tryd.lays99_ren := {
  mixed := by kernel_rfl
  f99 := Tryd.func51.trans (congrArg some (by kernel_rfl))
  f206 := Tryd.func61.trans (congrArg some (by kernel_rfl))
  t3 := Tryd.underlying3
  a3 := Tryd.isAgg3
  z3 := Tryd.sizeOf3
  v3 := Tryd.zeroValue3
  t4 := Tryd.underlying4
  a4 := Tryd.isAgg4
  z4 := Tryd.sizeOf4
  v4 := Tryd.zeroValue4
  t9 := Tryd.underlying9
  a9 := Tryd.isAgg9
  z9 := Tryd.sizeOf9
  v9 := Tryd.zeroValue9 }
open Go.RowKit Go.Lib in
theorem Tryd.strings_HasPrefix (s p : ByteArray) (w : World) :
    Calls Tryd.prog 51 #[.string s, .string p] w fun e w' => e = .returned (.bool (Lib.hasPrefix s.data.toList p.data.toList)) ∧ w' = w := Any.strings_HasPrefix Tryd.lays99 s p w
def Tryd.lays100_ren : Go.Shelf.Ren := ⟨fun | 100 => 52 | 207 => 62 | n => n, fun | 9 => 9 | 4 => 4 | 3 => 3 | n => n, fun | n => n⟩
theorem Tryd.lays100 : Go.Proofs.Lays.n100 Tryd.prog Tryd.lays100_ren := {
  mixed := by kernel_rfl
  f100 := Tryd.func52.trans (congrArg some (by kernel_rfl))
  f207 := Tryd.func62.trans (congrArg some (by kernel_rfl))
  t3 := Tryd.underlying3
  a3 := Tryd.isAgg3
  z3 := Tryd.sizeOf3
  v3 := Tryd.zeroValue3
  t4 := Tryd.underlying4
  a4 := Tryd.isAgg4
  z4 := Tryd.sizeOf4
  v4 := Tryd.zeroValue4
  t9 := Tryd.underlying9
  a9 := Tryd.isAgg9
  z9 := Tryd.sizeOf9
  v9 := Tryd.zeroValue9 }
open Go.RowKit Go.Lib in
theorem Tryd.strings_HasSuffix (s p : ByteArray) (w : World) (hs : s.size ≤ 9223372036854775807) :
    Calls Tryd.prog 52 #[.string s, .string p] w fun e w' => e = .returned (.bool (Lib.hasSuffix s.data.toList p.data.toList)) ∧ w' = w := Any.strings_HasSuffix Tryd.lays100 s p w hs
def Tryd.lays157_ren : Go.Shelf.Ren := ⟨fun | 157 => 53 | 229 => 63 | 199 => 64 | 261 => 76 | 311 => 87 | 312 => 88 | n => n, fun | 9 => 9 | 31 => 45 | 3 => 3 | 5 => 5 | 4 => 4 | 119 => 78 | 0 => 0 | 40 => 80 | 152 => 96 | 21 => 21 | 154 => 98 | 51 => 99 | 141 => 101 | 196 => 114 | 193 => 111 | 198 => 117 | 49 => 115 | 194 => 112 | 201 => 120 | 226 => 126 | 46 => 40 | 227 => 127 | n => n, fun | 0 => 0 | 6 => 1 | n => n⟩
theorem Tryd.lays157 : Go.Proofs.Lays.n157 Tryd.prog Tryd.lays157_ren := {
  mixed := by kernel_rfl
  f157 := Tryd.func53.trans (congrArg some (by kernel_rfl))
  f199 := Tryd.func64.trans (congrArg some (by kernel_rfl))
  f229 := Tryd.func63.trans (congrArg some (by kernel_rfl))
  f261 := Tryd.func76.trans (congrArg some (by kernel_rfl))
  f311 := Tryd.func87.trans (congrArg some (by kernel_rfl))
  f312 := Tryd.func88.trans (congrArg some (by kernel_rfl))
  t0 := Tryd.underlying0
  a0 := Tryd.isAgg0
  z0 := Tryd.sizeOf0
  v0 := Tryd.zeroValue0
  t3 := Tryd.underlying3
  a3 := Tryd.isAgg3
  z3 := Tryd.sizeOf3
  v3 := Tryd.zeroValue3
  t4 := Tryd.underlying4
  a4 := Tryd.isAgg4
  z4 := Tryd.sizeOf4
  v4 := Tryd.zeroValue4
  t5 := Tryd.underlying5
  a5 := Tryd.isAgg5
  z5 := Tryd.sizeOf5
  v5 := Tryd.zeroValue5
  t9 := Tryd.underlying9
  a9 := Tryd.isAgg9
  z9 := Tryd.sizeOf9
  v9 := Tryd.zeroValue9
  t21 := Tryd.underlying21
  a21 := Tryd.isAgg21
  z21 := Tryd.sizeOf21
  v21 := Tryd.zeroValue21
  t31 := Tryd.underlying45
  a31 := Tryd.isAgg45
  z31 := Tryd.sizeOf45
  v31 := Tryd.zeroValue45
  t40 := Tryd.underlying80
  a40 := Tryd.isAgg80
  z40 := Tryd.sizeOf80
  v40 := Tryd.zeroValue80
  t46 := Tryd.underlying40
  a46 := Tryd.isAgg40
  z46 := Tryd.sizeOf40
  v46 := Tryd.zeroValue40
  t49 := Tryd.underlying115
  a49 := Tryd.isAgg115
  z49 := Tryd.sizeOf115
  v49 := Tryd.zeroValue115
  t51 := Tryd.underlying99
  a51 := Tryd.isAgg99
  z51 := Tryd.sizeOf99
  v51 := Tryd.zeroValue99
  t119 := Tryd.underlying78
  a119 := Tryd.isAgg78
  z119 := Tryd.sizeOf78
  t141 := Tryd.underlying101
  a141 := Tryd.isAgg101
  z141 := Tryd.sizeOf101
  v141 := Tryd.zeroValue101
  t152 := Tryd.underlying96
  a152 := Tryd.isAgg96
  z152 := Tryd.sizeOf96
  v152 := Tryd.zeroValue96
  t154 := Tryd.underlying98
  a154 := Tryd.isAgg98
  z154 := Tryd.sizeOf98
  v154 := Tryd.zeroValue98
  t193 := Tryd.underlying111
  a193 := Tryd.isAgg111
  z193 := Tryd.sizeOf111
  v193 := Tryd.zeroValue111
  t194 := Tryd.underlying112
  a194 := Tryd.isAgg112
  z194 := Tryd.sizeOf112
  v194 := Tryd.zeroValue112
  t196 := Tryd.underlying114
  a196 := Tryd.isAgg114
  z196 := Tryd.sizeOf114
  v196 := Tryd.zeroValue114
  t198 := Tryd.underlying117
  a198 := Tryd.isAgg117
  z198 := Tryd.sizeOf117
  v198 := Tryd.zeroValue117
  t201 := Tryd.underlying120
  a201 := Tryd.isAgg120
  z201 := Tryd.sizeOf120
  v201 := Tryd.zeroValue120
  t226 := Tryd.underlying126
  a226 := Tryd.isAgg126
  z226 := Tryd.sizeOf126
  v226 := Tryd.zeroValue126
  t227 := Tryd.underlying127
  a227 := Tryd.isAgg127
  z227 := Tryd.sizeOf127
  v227 := Tryd.zeroValue127
  g0 := by kernel_rfl
  g6 := by kernel_rfl }
def Tryd.lays199_ren : Go.Shelf.Ren := ⟨fun | 199 => 64 | 261 => 76 | 311 => 87 | 312 => 88 | n => n, fun | 21 => 21 | 4 => 4 | 51 => 99 | 141 => 101 | 0 => 0 | 196 => 114 | 193 => 111 | 3 => 3 | 198 => 117 | 49 => 115 | 194 => 112 | 201 => 120 | 226 => 126 | 46 => 40 | 227 => 127 | n => n, fun | 6 => 1 | n => n⟩
theorem Tryd.lays199 : Go.Proofs.Lays.n199 Tryd.prog Tryd.lays199_ren := {
  mixed := by kernel_rfl
  f199 := Tryd.func64.trans (congrArg some (by kernel_rfl))
  f261 := Tryd.func76.trans (congrArg some (by kernel_rfl))
  f311 := Tryd.func87.trans (congrArg some (by kernel_rfl))
  f312 := Tryd.func88.trans (congrArg some (by kernel_rfl))
  t0 := Tryd.underlying0
  a0 := Tryd.isAgg0
  z0 := Tryd.sizeOf0
  v0 := Tryd.zeroValue0
  t3 := Tryd.underlying3
  a3 := Tryd.isAgg3
  z3 := Tryd.sizeOf3
  v3 := Tryd.zeroValue3
  t4 := Tryd.underlying4
  a4 := Tryd.isAgg4
  z4 := Tryd.sizeOf4
  v4 := Tryd.zeroValue4
  t21 := Tryd.underlying21
  a21 := Tryd.isAgg21
  z21 := Tryd.sizeOf21
  v21 := Tryd.zeroValue21
  t46 := Tryd.underlying40
  a46 := Tryd.isAgg40
  z46 := Tryd.sizeOf40
  v46 := Tryd.zeroValue40
  t49 := Tryd.underlying115
  a49 := Tryd.isAgg115
  z49 := Tryd.sizeOf115
  v49 := Tryd.zeroValue115
  t51 := Tryd.underlying99
  a51 := Tryd.isAgg99
  z51 := Tryd.sizeOf99
  v51 := Tryd.zeroValue99
  t141 := Tryd.underlying101
  a141 := Tryd.isAgg101
  z141 := Tryd.sizeOf101
  v141 := Tryd.zeroValue101
  t193 := Tryd.underlying111
  a193 := Tryd.isAgg111
  z193 := Tryd.sizeOf111
  v193 := Tryd.zeroValue111
  t194 := Tryd.underlying112
  a194 := Tryd.isAgg112
  z194 := Tryd.sizeOf112
  v194 := Tryd.zeroValue112
  t196 := Tryd.underlying114
  a196 := Tryd.isAgg114
  z196 := Tryd.sizeOf114
  v196 := Tryd.zeroValue114
  t198 := Tryd.underlying117
  a198 := Tryd.isAgg117
  z198 := Tryd.sizeOf117
  v198 := Tryd.zeroValue117
  t201 := Tryd.underlying120
  a201 := Tryd.isAgg120
  z201 := Tryd.sizeOf120
  v201 := Tryd.zeroValue120
  t226 := Tryd.underlying126
  a226 := Tryd.isAgg126
  z226 := Tryd.sizeOf126
  v226 := Tryd.zeroValue126
  t227 := Tryd.underlying127
  a227 := Tryd.isAgg127
  z227 := Tryd.sizeOf127
  v227 := Tryd.zeroValue127
  g6 := by kernel_rfl }
open Go.RowKit Go.Lib in
theorem Tryd.unicode_IsSpace_any (r : Int) (w : World) (hlo : -2147483648 ≤ r) (hhi : r ≤ 2147483647) (hW : Lib.WhiteTab 1 w) :
    Calls Tryd.prog 64 #[.int .i32 r] w fun e w' => e = .returned (.bool (Lib.isSpaceZ r)) ∧ Below w.heap.size w w' := Any.unicode_IsSpace_any Tryd.lays199 r w hlo hhi hW
open Go.RowKit Go.Lib in
theorem Tryd.strings_Fields_any (s : ByteArray) (w : World) (hs : s.size < 4294967281) (htab : Lib.TabIs Tryd.prog w "strings.asciiSpace" .u8 Lib.asciiSpaceTab) (hW : Lib.WhiteTab 1 w) :
    Calls Tryd.prog 53 #[.string s] w fun e w' => ∃ A, e = .returned (.slice (some ⟨A, 0, none⟩) (Lib.fieldsD s.data.toList).length (Lib.fieldsD s.data.toList).length) ∧ w.heap.size ≤ A ∧
      w'.ownsRow w.heap.size 9 1 (.slice (some ⟨A, 0, none⟩) (Lib.fieldsD s.data.toList).length (Lib.fieldsD s.data.toList).length) (Lib.fieldsD s.data.toList).length ((Lib.fieldsD s.data.toList).map fun x => Value.string ⟨x.toArray⟩) ∧ Below w.heap.size w w' := Any.strings_Fields_any Tryd.lays157 (by kernel_rfl) (by kernel_rfl) (by kernel_rfl) s w hs htab hW
end Go.Proofs
namespace Go.Sx
open Go Go.Proofs
structure Tabs (w : World) : Prop where
  p10 : Lib.TabIs Tryd.prog w "internal/strconv.uint64pow10" .u64 Lib.pow10Tab
  spc : Lib.TabIs Tryd.prog w "strings.asciiSpace" .u8 Lib.asciiSpaceTab
  wht : Lib.WhiteTab 1 w
instance : Firm Tabs := ⟨fun hx h => ⟨tab_ext h.p10 hx, tab_ext h.spc hx, WhiteTab_below h.wht hx.toBelow⟩⟩
theorem fmt_ok {H : Hp} (n : Int) (hn : i64ok n) : FnGS Tabs Tryd.prog 41 [.int .i64 n, .int .i64 10] H (gs (Lib.itoa n)) :=
  FnGS.ext fun w hg _ => (Tryd.strconv_FormatInt_10 n hn.1 hn.2 w hg.p10).mono (by rintro e w' ⟨rfl, k, os, rfl⟩; exact ⟨rfl, Ext.grown w k os⟩)
theorem fb_ok {H : Hp} (b : Bool) : FnS Tryd.prog 22 [.bool b] H (gs (if b = true then [116, 114, 117, 101] else [102, 97, 108, 115, 101])) :=
  FnS.same fun w => by
    have h := Tryd.strconv_FormatBool b w
    cases b <;> exact h
theorem hp_ok {H : Hp} (s p : Str) : FnS Tryd.prog 51 [gs s, gs p] H (.bool (Lib.hasPrefix s p)) := FnS.same fun w => Tryd.strings_HasPrefix ⟨s.toArray⟩ ⟨p.toArray⟩ w
theorem hsf_ok {H : Hp} (s p : Str) (hs : s.length ≤ 9223372036854775807) : FnS Tryd.prog 52 [gs s, gs p] H (.bool (Lib.hasSuffix s p)) := FnS.same fun w => Tryd.strings_HasSuffix ⟨s.toArray⟩ ⟨p.toArray⟩ w (by simpa [ByteArray.size] using hs)
theorem join_ok {H : Hp} {l : List Str} {v : Value} (h : RdSl H 1 Str.cells v l) (sep : Str) (hl : l.length ≤ 140737488355328) (hj : (Lib.join l sep).length ≤ 140737488355328) : FnS Tryd.prog 23 [v, gs sep] H (gs (Lib.join l sep)) := by
  refine FnS.ext (fun w hw => ?_)
  obtain ⟨a0, cap, hv⟩ := h.len
  by_cases hne : l = []
  · subst hne; subst hv
    exact (Tryd.strings_Join_none a0 cap ⟨sep.toArray⟩ w).mono (by rintro e w' ⟨rfl, rfl⟩; exact ⟨rfl, Ext.refl _⟩)
  · obtain ⟨c, hb⟩ := h.addr hne
    have hroom := h.room _ _ _ hb
    have hcell : ∀ (j : Nat) y, l[j]? = some y → w.cell? ⟨blk v, off v + j, none⟩ = some (gs y) := fun j y hy => by
      have h1 := hw.hp _ _ _ (h.get j y hy 0 (gs y) rfl)
      rwa [show off v + j * 1 + 0 = off v + j by omega] at h1
    have hbk : blk v < w.heap.size := by
      obtain ⟨x, hx⟩ : ∃ x, l[0]? = some x := by cases l with | nil => exact absurd rfl hne | cons x r => exact ⟨x, rfl⟩
      have h1 := hcell 0 x hx
      rcases Nat.lt_or_ge (blk v) w.heap.size with h2 | h2
      · exact h2
      · simp [World.cell?, Array.getElem?_eq_none h2] at h1
    have e1 : (l.map fun s : Str => (⟨s.toArray⟩ : ByteArray)).map (·.data.toList) = l := by rw [List.map_map]; exact List.map_id l
    have key := Tryd.strings_Join (blk v) (off v) c (l.map fun s => ⟨s.toArray⟩) ⟨sep.toArray⟩ w (fun j x hx => by
      rw [List.getElem?_map] at hx
      obtain ⟨y, hy, rfl⟩ := Option.map_eq_some_iff.1 hx
      exact hcell j y hy) hbk (by rw [List.length_map]; exact hl) (by rw [List.length_map]; exact hroom) (by rw [e1]; exact hj)
    rw [e1, List.length_map] at key
    generalize hv2 : v = v2 at *
    rw [hb]
    exact key.mono (by rintro e w' ⟨rfl, hx⟩; exact ⟨rfl, Ext.below hx⟩)
theorem fields_ok {H : Hp} (s : Str) (hs : s.length ≤ 4294960000) : FnG Tabs Tryd.prog 53 [gs s] H (fun v H1 => RdSl H1 1 Str.cells v (Lib.fieldsD s)) := by
  intro w hg hw
  refine (Tryd.strings_Fields_any ⟨s.toArray⟩ w (by simp [ByteArray.size]; omega) hg.spc hg.wht).mono ?_
  rintro e w' ⟨A, rfl, hA, ho, hb⟩
  obtain ⟨H', h1, h2, h3, h4, h5⟩ := St.newRow (l := Lib.fieldsD s) hw (Ext.below hb) ho
  refine ⟨_, H', [], rfl, h1, rfl, ⟨⟨_, _, rfl⟩, h4, fun _ => ⟨_, rfl⟩, fun i x hx j u hu => ?_, fun a n c e => ?_⟩⟩
  · obtain ⟨b, c, e, _, hc⟩ := h2 i x hx
    cases j with
    | zero =>
      obtain rfl : gs x = u := Option.some.inj hu
      injection e with e1 _ _
      injection e1 with e1
      injection e1 with e1 _ _
      subst e1
      show H' A (0 + i * 1 + 0) = _
      rw [show 0 + i * 1 + 0 = i by omega]; exact hc
    | succ j => cases hu
  · injection e with _ _ e3
    subst e3; exact Nat.le_refl _
end Go.Sx
