/-
  No cell of these rows narrows 'for every input' (looked for: loops, veiled, ifaces, maps, wideKeys, modest, calm, conditions, laid).
  DERIVED. THE GIVEN ROWS OF THIS SEAT. 5 by the template 'for every input the law returns true; each argument reads behind the call as it read before'; 0 by the template 'total and deterministic' (their statements: YticophnilpjdlaaTotals.lean).
  GIVEN WITH THE SEED: the statements are not yours to turn. If you find one false, say at which input.
  Laid BY PROGRAM, IN A SANDBOX (cutbox-rows.mjs): the forced cells as the released guide's own fill.sh prints them over the translation 1dad3176904c98db… (all of the seat's roots in one cut). By AI agents, Wed Nov 11 2026. No macro, syntax, notation, axiom, sorry.
-/
import Derived.Test.YticophnilpjdlaaChecked
import GoSem.Claim
import GoSem.ClaimJoined
import GoSem.ClaimMapViews
import Derived.JoinedTies
import Derived.KernelRfl
namespace Go.Proofs.Yticophnilpjdlaa
/- THE CELL 'sum', in the pinned program and in every row, IS THE sha256 OF THE DUMP (.gsa) THAT YticophnilpjdlaaProg.lean LOADS. Nothing in Lean hashes anything: it is a label: what it is worth is what the hold of that sum in a sandbox is worth. -/
noncomputable def Try.pinned : Pinned := { name := "yticophnilpjdlaa", sum := "1dad3176904c98db1b33606fce0d1033a47b946b99847c107da653fb21ccddf4", checked := Try.checked }
namespace Rows
def none {H : Type} : Left H := { results := [], args := [] }

/-- 'reparteelaw5.KindTells': WHATEVER THE INPUT: true; the input reads as it did. -/
def kindTellsSpec : ChangeSpec := { name := "kindTells", fn := fun _ => fun
  | [d1, d2, d3] => { results := [.lit (.bool true)], args := [d1, d2, d3] }
  | _ => none }
def kindTellsRow : OpenClaim := { program := "yticophnilpjdlaa", sum := "1dad3176904c98db1b33606fce0d1033a47b946b99847c107da653fb21ccddf4", func := "repartee/reparteelaw5.KindTells", spec := "kindTells", unfollowed := true, recurses := true, apart := false }
def KindTellsSaid : Prop := kindTellsRow.holds Try.pinned (OpenSpec.ofChange kindTellsSpec)

/-- ITS FALSE NEIGHBOUR: 'it returns false'. Refute it at one input. -/
def kindTellsWrong : ChangeSpec := { name := "kindTells", fn := fun _ => fun
  | [d1, d2, d3] => { results := [.lit (.bool false)], args := [d1, d2, d3] }
  | _ => none }
def KindTellsWrongFalsely : Prop := kindTellsRow.holds Try.pinned (OpenSpec.ofChange kindTellsWrong)

/-- 'reparteelaw5.KindEnds': WHATEVER THE INPUT: true; the input reads as it did. -/
def kindEndsSpec : ChangeSpec := { name := "kindEnds", fn := fun _ => fun
  | [d1, d2, d3, d4] => { results := [.lit (.bool true)], args := [d1, d2, d3, d4] }
  | _ => none }
def kindEndsRow : OpenClaim := { program := "yticophnilpjdlaa", sum := "1dad3176904c98db1b33606fce0d1033a47b946b99847c107da653fb21ccddf4", func := "repartee/reparteelaw5.KindEnds", spec := "kindEnds", unfollowed := true, recurses := true, apart := false }
def KindEndsSaid : Prop := kindEndsRow.holds Try.pinned (OpenSpec.ofChange kindEndsSpec)

/-- ITS FALSE NEIGHBOUR: 'it returns false'. Refute it at one input. -/
def kindEndsWrong : ChangeSpec := { name := "kindEnds", fn := fun _ => fun
  | [d1, d2, d3, d4] => { results := [.lit (.bool false)], args := [d1, d2, d3, d4] }
  | _ => none }
def KindEndsWrongFalsely : Prop := kindEndsRow.holds Try.pinned (OpenSpec.ofChange kindEndsWrong)

/-- 'reparteelaw5.KindSound': WHATEVER THE INPUT: true; the input reads as it did. -/
def kindSoundSpec : ChangeSpec := { name := "kindSound", fn := fun _ => fun
  | [d1, d2, d3] => { results := [.lit (.bool true)], args := [d1, d2, d3] }
  | _ => none }
def kindSoundRow : OpenClaim := { program := "yticophnilpjdlaa", sum := "1dad3176904c98db1b33606fce0d1033a47b946b99847c107da653fb21ccddf4", func := "repartee/reparteelaw5.KindSound", spec := "kindSound", unfollowed := true, recurses := true, apart := false }
def KindSoundSaid : Prop := kindSoundRow.holds Try.pinned (OpenSpec.ofChange kindSoundSpec)

/-- ITS FALSE NEIGHBOUR: 'it returns false'. Refute it at one input. -/
def kindSoundWrong : ChangeSpec := { name := "kindSound", fn := fun _ => fun
  | [d1, d2, d3] => { results := [.lit (.bool false)], args := [d1, d2, d3] }
  | _ => none }
def KindSoundWrongFalsely : Prop := kindSoundRow.holds Try.pinned (OpenSpec.ofChange kindSoundWrong)

/-- 'reparteelaw5.KindMore': WHATEVER THE INPUT: true; the input reads as it did. -/
def kindMoreSpec : ChangeSpec := { name := "kindMore", fn := fun _ => fun
  | [d1, d2, d3, d4, d5] => { results := [.lit (.bool true)], args := [d1, d2, d3, d4, d5] }
  | _ => none }
def kindMoreRow : OpenClaim := { program := "yticophnilpjdlaa", sum := "1dad3176904c98db1b33606fce0d1033a47b946b99847c107da653fb21ccddf4", func := "repartee/reparteelaw5.KindMore", spec := "kindMore", unfollowed := true, recurses := true, apart := false }
def KindMoreSaid : Prop := kindMoreRow.holds Try.pinned (OpenSpec.ofChange kindMoreSpec)

/-- ITS FALSE NEIGHBOUR: 'it returns false'. Refute it at one input. -/
def kindMoreWrong : ChangeSpec := { name := "kindMore", fn := fun _ => fun
  | [d1, d2, d3, d4, d5] => { results := [.lit (.bool false)], args := [d1, d2, d3, d4, d5] }
  | _ => none }
def KindMoreWrongFalsely : Prop := kindMoreRow.holds Try.pinned (OpenSpec.ofChange kindMoreWrong)

/-- 'reparteelaw5.KindNames': WHATEVER THE INPUT: true; the input reads as it did. -/
def kindNamesSpec : ChangeSpec := { name := "kindNames", fn := fun _ => fun
  | [d1, d2, d3, d4] => { results := [.lit (.bool true)], args := [d1, d2, d3, d4] }
  | _ => none }
def kindNamesRow : OpenClaim := { program := "yticophnilpjdlaa", sum := "1dad3176904c98db1b33606fce0d1033a47b946b99847c107da653fb21ccddf4", func := "repartee/reparteelaw5.KindNames", spec := "kindNames", unfollowed := true, recurses := true, apart := false }
def KindNamesSaid : Prop := kindNamesRow.holds Try.pinned (OpenSpec.ofChange kindNamesSpec)

/-- ITS FALSE NEIGHBOUR: 'it returns false'. Refute it at one input. -/
def kindNamesWrong : ChangeSpec := { name := "kindNames", fn := fun _ => fun
  | [d1, d2, d3, d4] => { results := [.lit (.bool false)], args := [d1, d2, d3, d4] }
  | _ => none }
def KindNamesWrongFalsely : Prop := kindNamesRow.holds Try.pinned (OpenSpec.ofChange kindNamesWrong)

/- THE SECOND FORM. 'bulk': how many values and letters a reading holds, each counted each time it is reached (what is shared counts as often as it is met; a slice's spare places count too). A statement '..UptoSaid' is the law's where the arguments, and the package variables that the reading takes, are together of bulk at most 1048576: NARROWER than '..Said'. Prove '..Said' where nothing that the law and all that it calls make is longer than what came in: it says more and counts as full. Else prove '..UptoSaid'. A law counts once. -/
mutual
def uptoBulk {H : Type} : DataW H → Nat
  | .lit (.string bytes) => bytes.length + 1
  | .lit _ => 1
  | .nil => 1
  | .ptr d => uptoBulk d + 1
  | .slice elems spare => uptoBulkAll elems + uptoBulkAll spare + 1
  | .agg parts => uptoBulkAll parts + 1
  | .iface _ d => uptoBulk d + 1
  | .map entries => uptoBulkEntries entries + 1
  | .held _ => 1
def uptoBulkAll {H : Type} : List (DataW H) → Nat
  | [] => 0
  | d :: r => uptoBulk d + uptoBulkAll r
def uptoBulkEntries {H : Type} : List (Lit × DataW H) → Nat
  | [] => 0
  | x :: r => uptoBulkEntry x + uptoBulkEntries r
def uptoBulkEntry {H : Type} : Lit × DataW H → Nat
  | (.string bytes, d) => bytes.length + uptoBulk d + 1
  | (_, d) => uptoBulk d + 1
 end
def uptoSmall : (H : Type) → List (DataW H) → Bool := fun _ ds => decide (uptoBulkAll ds ≤ 1048576)
def OpenSpec.upto (s : _root_.Go.ChangeSpec) : _root_.Go.OpenSpec := { _root_.Go.OpenSpec.ofChange s with cond := some uptoSmall }

/-- 'reparteelaw5.KindTells', WHERE WHAT IT READS IS OF BULK AT MOST 1048576: true; the input reads as it did. -/
def kindTellsUptoRow : OpenClaim := { program := "yticophnilpjdlaa", sum := "1dad3176904c98db1b33606fce0d1033a47b946b99847c107da653fb21ccddf4", func := "repartee/reparteelaw5.KindTells", spec := "kindTells", unfollowed := true, recurses := true, apart := false, narrowed := true }
def KindTellsUptoSaid : Prop := kindTellsUptoRow.holds Try.pinned (OpenSpec.upto kindTellsSpec)

/-- 'reparteelaw5.KindEnds', WHERE WHAT IT READS IS OF BULK AT MOST 1048576: true; the input reads as it did. -/
def kindEndsUptoRow : OpenClaim := { program := "yticophnilpjdlaa", sum := "1dad3176904c98db1b33606fce0d1033a47b946b99847c107da653fb21ccddf4", func := "repartee/reparteelaw5.KindEnds", spec := "kindEnds", unfollowed := true, recurses := true, apart := false, narrowed := true }
def KindEndsUptoSaid : Prop := kindEndsUptoRow.holds Try.pinned (OpenSpec.upto kindEndsSpec)

/-- 'reparteelaw5.KindSound', WHERE WHAT IT READS IS OF BULK AT MOST 1048576: true; the input reads as it did. -/
def kindSoundUptoRow : OpenClaim := { program := "yticophnilpjdlaa", sum := "1dad3176904c98db1b33606fce0d1033a47b946b99847c107da653fb21ccddf4", func := "repartee/reparteelaw5.KindSound", spec := "kindSound", unfollowed := true, recurses := true, apart := false, narrowed := true }
def KindSoundUptoSaid : Prop := kindSoundUptoRow.holds Try.pinned (OpenSpec.upto kindSoundSpec)

/-- 'reparteelaw5.KindMore', WHERE WHAT IT READS IS OF BULK AT MOST 1048576: true; the input reads as it did. -/
def kindMoreUptoRow : OpenClaim := { program := "yticophnilpjdlaa", sum := "1dad3176904c98db1b33606fce0d1033a47b946b99847c107da653fb21ccddf4", func := "repartee/reparteelaw5.KindMore", spec := "kindMore", unfollowed := true, recurses := true, apart := false, narrowed := true }
def KindMoreUptoSaid : Prop := kindMoreUptoRow.holds Try.pinned (OpenSpec.upto kindMoreSpec)

/-- 'reparteelaw5.KindNames', WHERE WHAT IT READS IS OF BULK AT MOST 1048576: true; the input reads as it did. -/
def kindNamesUptoRow : OpenClaim := { program := "yticophnilpjdlaa", sum := "1dad3176904c98db1b33606fce0d1033a47b946b99847c107da653fb21ccddf4", func := "repartee/reparteelaw5.KindNames", spec := "kindNames", unfollowed := true, recurses := true, apart := false, narrowed := true }
def KindNamesUptoSaid : Prop := kindNamesUptoRow.holds Try.pinned (OpenSpec.upto kindNamesSpec)

end Rows
end Go.Proofs.Yticophnilpjdlaa
