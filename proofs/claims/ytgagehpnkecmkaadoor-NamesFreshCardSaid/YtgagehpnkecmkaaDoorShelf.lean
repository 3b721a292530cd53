import Derived.Shelf.Small.Bits
import Derived.Shelf.Strconv.Itoa0
import Derived.Shelf.Strconv.Itoa1
import Derived.Shelf.LaysM
import Derived.Shelf.Strconv.Itoa2
import Derived.Shelf.Strconv.Itoa3
import Derived.Shelf.Sort.Plain
import Derived.Shelf.Slices.Clone
import Derived.Shelf.Slices.CompactS
import Derived.Shelf.Slices.Cells
import Derived.Shelf.Slices.In.SortNone
import Derived.Shelf.SlicesE.Clone
import Derived.Test.YtgagehpnkecmkaaDoorProg
import Derived.Test.YtgagehpnkecmkaaDoorPureSo
import Derived.Test.YtgagehpnkecmkaaDoorPureN1
set_option linter.unusedVariables false
namespace Go.Proofs
open Go.Shelf
def Tryd.lays171_ren : Go.Shelf.Ren := ⟨fun | 171 => 26 | 243 => 34 | 246 => 37 | 283 => 49 | 284 => 50 | 285 => 51 | 286 => 52 | 129 => 48 | 317 => 59 | 318 => 60 | 319 => 61 | 320 => 62 | 337 => 64 | 338 => 65 | n => n, fun | 3 => 3 | 9 => 9 | 2 => 2 | 4 => 4 | 171 => 56 | 0 => 0 | 53 => 42 | 37 => 25 | 5 => 5 | 173 => 58 | 212 => 68 | 51 => 54 | 20 => 20 | 213 => 69 | 46 => 24 | 232 => 73 | 233 => 74 | n => n, fun | 17 => 0 | 18 => 1 | 19 => 2 | n => n⟩
theorem Tryd.lays171 : Go.Proofs.Lays.n171 Tryd.prog Tryd.lays171_ren := {
  mixed := by kernel_rfl
  f129 := Tryd.func48.trans (congrArg some (by kernel_rfl))
  f171 := Tryd.func26.trans (congrArg some (by kernel_rfl))
  f243 := Tryd.func34.trans (congrArg some (by kernel_rfl))
  f246 := Tryd.func37.trans (congrArg some (by kernel_rfl))
  f283 := Tryd.func49.trans (congrArg some (by kernel_rfl))
  f284 := Tryd.func50.trans (congrArg some (by kernel_rfl))
  f285 := Tryd.func51.trans (congrArg some (by kernel_rfl))
  f286 := Tryd.func52.trans (congrArg some (by kernel_rfl))
  f317 := Tryd.func59.trans (congrArg some (by kernel_rfl))
  f318 := Tryd.func60.trans (congrArg some (by kernel_rfl))
  f319 := Tryd.func61.trans (congrArg some (by kernel_rfl))
  f320 := Tryd.func62.trans (congrArg some (by kernel_rfl))
  f337 := Tryd.func64.trans (congrArg some (by kernel_rfl))
  f338 := Tryd.func65.trans (congrArg some (by kernel_rfl))
  t0 := Tryd.underlying0
  a0 := Tryd.isAgg0
  z0 := Tryd.sizeOf0
  v0 := Tryd.zeroValue0
  t2 := Tryd.underlying2
  a2 := Tryd.isAgg2
  z2 := Tryd.sizeOf2
  v2 := Tryd.zeroValue2
  t3 := Tryd.underlying3
  a3 := Tryd.isAgg3
  z3 := Tryd.sizeOf3
  v3 := Tryd.zeroValue3
  t4 := Tryd.underlying4
  a4 := Tryd.isAgg4
  z4 := Tryd.sizeOf4
  v4 := Tryd.zeroValue4
  t5 := Tryd.underlying5
  a5 := Tryd.isAgg5
  z5 := Tryd.sizeOf5
  v5 := Tryd.zeroValue5
  t9 := Tryd.underlying9
  a9 := Tryd.isAgg9
  z9 := Tryd.sizeOf9
  v9 := Tryd.zeroValue9
  t20 := Tryd.underlying20
  a20 := Tryd.isAgg20
  z20 := Tryd.sizeOf20
  v20 := Tryd.zeroValue20
  t37 := Tryd.underlying25
  a37 := Tryd.isAgg25
  z37 := Tryd.sizeOf25
  v37 := Tryd.zeroValue25
  t46 := Tryd.underlying24
  a46 := Tryd.isAgg24
  z46 := Tryd.sizeOf24
  v46 := Tryd.zeroValue24
  t51 := Tryd.underlying54
  a51 := Tryd.isAgg54
  z51 := Tryd.sizeOf54
  v51 := Tryd.zeroValue54
  t53 := Tryd.underlying42
  a53 := Tryd.isAgg42
  z53 := Tryd.sizeOf42
  v53 := Tryd.zeroValue42
  t171 := Tryd.underlying56
  a171 := Tryd.isAgg56
  z171 := Tryd.sizeOf56
  v171 := Tryd.zeroValue56
  t173 := Tryd.underlying58
  a173 := Tryd.isAgg58
  z173 := Tryd.sizeOf58
  v173 := Tryd.zeroValue58
  t212 := Tryd.underlying68
  a212 := Tryd.isAgg68
  z212 := Tryd.sizeOf68
  v212 := Tryd.zeroValue68
  t213 := Tryd.underlying69
  a213 := Tryd.isAgg69
  z213 := Tryd.sizeOf69
  t232 := Tryd.underlying73
  a232 := Tryd.isAgg73
  z232 := Tryd.sizeOf73
  v232 := Tryd.zeroValue73
  t233 := Tryd.underlying74
  a233 := Tryd.isAgg74
  z233 := Tryd.sizeOf74
  v233 := Tryd.zeroValue74
  g17 := by kernel_rfl
  g18 := by kernel_rfl
  g19 := by kernel_rfl }
open Go.RowKit Go.Sort Go.Lib in
theorem Tryd.strconv_Itoa_small (i : Nat) (hi : i < 100) (w : World) :
    Calls Tryd.prog 26 #[.int .i64 i] w fun e w' => e = .returned (.string ⟨(Lib.decDigits i).toArray⟩) ∧ w' = w := Any.strconv_Itoa_small Tryd.lays171 i hi w
def Tryd.lays190_ren : Go.Shelf.Ren := ⟨fun | 190 => 28 | 125 => 36 | 258 => 35 | 128 => 47 | 129 => 48 | 302 => 38 | 303 => 39 | 304 => 40 | 305 => 41 | 306 => 42 | 307 => 43 | 308 => 44 | 309 => 45 | 310 => 46 | 333 => 53 | 329 => 54 | 330 => 55 | 334 => 56 | 335 => 57 | 336 => 58 | 344 => 63 | n => n, fun | 31 => 27 | 9 => 9 | 3 => 3 | 46 => 24 | 0 => 0 | 51 => 54 | 53 => 42 | 4 => 4 | 183 => 46 | 182 => 45 | 131 => 51 | 5 => 5 | 218 => 60 | 222 => 64 | 228 => 70 | 229 => 71 | n => n, fun | n => n⟩
theorem Tryd.lays190 : Go.Proofs.Lays.n190 Tryd.prog Tryd.lays190_ren := {
  mixed := by kernel_rfl
  f125 := Tryd.func36.trans (congrArg some (by kernel_rfl))
  f128 := Tryd.func47.trans (congrArg some (by kernel_rfl))
  f129 := Tryd.func48.trans (congrArg some (by kernel_rfl))
  f190 := Tryd.func28.trans (congrArg some (by kernel_rfl))
  f258 := Tryd.func35.trans (congrArg some (by kernel_rfl))
  f302 := Tryd.func38.trans (congrArg some (by kernel_rfl))
  f303 := Tryd.func39.trans (congrArg some (by kernel_rfl))
  f304 := Tryd.func40.trans (congrArg some (by kernel_rfl))
  f305 := Tryd.func41.trans (congrArg some (by kernel_rfl))
  f306 := Tryd.func42.trans (congrArg some (by kernel_rfl))
  f307 := Tryd.func43.trans (congrArg some (by kernel_rfl))
  f308 := Tryd.func44.trans (congrArg some (by kernel_rfl))
  f309 := Tryd.func45.trans (congrArg some (by kernel_rfl))
  f310 := Tryd.func46.trans (congrArg some (by kernel_rfl))
  f329 := Tryd.func54.trans (congrArg some (by kernel_rfl))
  f330 := Tryd.func55.trans (congrArg some (by kernel_rfl))
  f333 := Tryd.func53.trans (congrArg some (by kernel_rfl))
  f334 := Tryd.func56.trans (congrArg some (by kernel_rfl))
  f335 := Tryd.func57.trans (congrArg some (by kernel_rfl))
  f336 := Tryd.func58.trans (congrArg some (by kernel_rfl))
  f344 := Tryd.func63.trans (congrArg some (by kernel_rfl))
  t0 := Tryd.underlying0
  a0 := Tryd.isAgg0
  z0 := Tryd.sizeOf0
  v0 := Tryd.zeroValue0
  t3 := Tryd.underlying3
  a3 := Tryd.isAgg3
  z3 := Tryd.sizeOf3
  v3 := Tryd.zeroValue3
  t4 := Tryd.underlying4
  a4 := Tryd.isAgg4
  z4 := Tryd.sizeOf4
  v4 := Tryd.zeroValue4
  t5 := Tryd.underlying5
  a5 := Tryd.isAgg5
  z5 := Tryd.sizeOf5
  v5 := Tryd.zeroValue5
  t9 := Tryd.underlying9
  a9 := Tryd.isAgg9
  z9 := Tryd.sizeOf9
  v9 := Tryd.zeroValue9
  t31 := Tryd.underlying27
  a31 := Tryd.isAgg27
  z31 := Tryd.sizeOf27
  v31 := Tryd.zeroValue27
  t46 := Tryd.underlying24
  a46 := Tryd.isAgg24
  z46 := Tryd.sizeOf24
  v46 := Tryd.zeroValue24
  t51 := Tryd.underlying54
  a51 := Tryd.isAgg54
  z51 := Tryd.sizeOf54
  v51 := Tryd.zeroValue54
  t53 := Tryd.underlying42
  a53 := Tryd.isAgg42
  z53 := Tryd.sizeOf42
  v53 := Tryd.zeroValue42
  t131 := Tryd.underlying51
  a131 := Tryd.isAgg51
  z131 := Tryd.sizeOf51
  v131 := Tryd.zeroValue51
  t182 := Tryd.underlying45
  a182 := Tryd.isAgg45
  z182 := Tryd.sizeOf45
  v182 := Tryd.zeroValue45
  t183 := Tryd.underlying46
  a183 := Tryd.isAgg46
  z183 := Tryd.sizeOf46
  v183 := Tryd.zeroValue46
  t218 := Tryd.underlying60
  a218 := Tryd.isAgg60
  z218 := Tryd.sizeOf60
  v218 := Tryd.zeroValue60
  t222 := Tryd.underlying64
  a222 := Tryd.isAgg64
  z222 := Tryd.sizeOf64
  v222 := Tryd.zeroValue64
  t228 := Tryd.underlying70
  a228 := Tryd.isAgg70
  z228 := Tryd.sizeOf70
  v228 := Tryd.zeroValue70
  t229 := Tryd.underlying71
  a229 := Tryd.isAgg71
  z229 := Tryd.sizeOf71
  v229 := Tryd.zeroValue71 }
open Go.Sort Go.RowKit in
theorem Tryd.slices_Sort_string (blk off cap : Nat) (ss : List (List UInt8)) (w : World) (hH : Holds encStr w blk off ss.toArray) (hblk : blk < w.heap.size) (hsz : ss.length < 4611686018427387904) :
    Calls Tryd.prog 28 #[.slice (some ⟨blk, off, none⟩) ss.length cap] w fun e w' =>
      e = .returned (.tuple #[]) ∧ ∃ n os, w' = grow (putRow encStr (Sort.ahead w n) blk off (ss.mergeSort fun x y => decide (x ≤ y)).toArray) os := Any.slices_Sort_string Tryd.lays190 blk off cap ss w hH hblk hsz
def Tryd.lays194_ren : Go.Shelf.Ren := ⟨fun | 194 => 29 | n => n, fun | 31 => 27 | 9 => 9 | 3 => 3 | 4 => 4 | 0 => 0 | n => n, fun | n => n⟩
theorem Tryd.lays194 : Go.Proofs.Lays.n194 Tryd.prog Tryd.lays194_ren := {
  mixed := by kernel_rfl
  f194 := Tryd.func29.trans (congrArg some (by kernel_rfl))
  t0 := Tryd.underlying0
  a0 := Tryd.isAgg0
  z0 := Tryd.sizeOf0
  v0 := Tryd.zeroValue0
  t3 := Tryd.underlying3
  a3 := Tryd.isAgg3
  z3 := Tryd.sizeOf3
  v3 := Tryd.zeroValue3
  t4 := Tryd.underlying4
  a4 := Tryd.isAgg4
  z4 := Tryd.sizeOf4
  v4 := Tryd.zeroValue4
  t9 := Tryd.underlying9
  a9 := Tryd.isAgg9
  z9 := Tryd.sizeOf9
  v9 := Tryd.zeroValue9
  t31 := Tryd.underlying27
  a31 := Tryd.isAgg27
  z31 := Tryd.sizeOf27
  v31 := Tryd.zeroValue27 }
open Go.RowKit Go.Lib Go.Sort in
theorem Tryd.slices_Compact_string (blk off cap : Nat) (zs : List (List UInt8)) (w : World) (hH : Holds encStr w blk off zs.toArray) (hsz : zs.length ≤ 9223372036854775807) (hcap : zs.length ≤ cap) :
    Calls Tryd.prog 29 #[.slice (some ⟨blk, off, none⟩) zs.length cap] w fun e w' => e = .returned (.slice (some ⟨blk, off, none⟩) (Lib.compact zs).length cap) ∧ ∃ q, w' = putRow encStr (Sort.ahead w q) blk off (Lib.compact zs ++ List.replicate (zs.length - (Lib.compact zs).length) []).toArray := Any.slices_Compact_string Tryd.lays194 blk off cap zs w hH hsz hcap
open Go.RowKit Go.Lib Go.Sort in
theorem Tryd.slices_Compact_string_empty (a : Option Addr) (cap : Nat) (w : World) :
    Calls Tryd.prog 29 #[.slice a 0 cap] w fun e w' => e = .returned (.slice a 0 cap) ∧ w' = w := Any.slices_Compact_string_empty Tryd.lays194 a cap w
open Go.RowKit Go.Sort in
theorem Tryd.slices_Sort_string_none (p : Option Addr) (cap : Nat) (w : World) :
    Calls Tryd.prog 28 #[.slice p 0 cap] w fun e w' => e = .returned (.tuple #[]) ∧ w' = w := Any.slices_Sort_string_none Tryd.lays190 p cap w
end Go.Proofs
namespace Go.Sx
open Go Go.Proofs
theorem sort_ok : SortC Tryd.prog 28 := ⟨fun b off cap ss w h1 h2 h3 => Tryd.slices_Sort_string b off cap ss w h1 h2 h3, fun p cap w => Tryd.slices_Sort_string_none p cap w⟩
theorem compact_ok : CompactC Tryd.prog 29 := ⟨fun b off cap zs w h1 h2 h3 => Tryd.slices_Compact_string b off cap zs w h1 h2 h3, fun p cap w => Tryd.slices_Compact_string_empty p cap w⟩
theorem itoa_ok {H : Hp} (k : Int) (h0 : 0 ≤ k) (h1 : k ≤ 99) : FnS Tryd.prog 26 [.int .i64 k] H (gs (Lib.itoa k)) := by
  obtain ⟨i, rfl⟩ : ∃ i : Nat, k = i := ⟨k.toNat, by omega⟩
  refine FnS.same (fun w => ?_)
  have := Tryd.strconv_Itoa_small i (by omega) w
  have e : Lib.itoa (i : Int) = Lib.decDigits i := by unfold Lib.itoa; rw [if_neg (by omega)]; simp
  rw [e]; exact this
end Go.Sx
