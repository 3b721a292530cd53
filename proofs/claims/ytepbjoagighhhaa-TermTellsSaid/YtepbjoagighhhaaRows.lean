/-
  No cell of these rows narrows 'for every input' (looked for: loops, veiled, ifaces, maps, wideKeys, modest, calm, conditions, laid).
  DERIVED. THE GIVEN ROWS OF THIS SEAT. 10 by the template 'for every input the law returns true; each argument reads behind the call as it read before'; 0 by the template 'total and deterministic' (their statements: YtepbjoagighhhaaTotals.lean).
  GIVEN WITH THE SEED: the statements are not yours to turn. If you find one false, say at which input.
  Laid BY PROGRAM, IN A SANDBOX (cutbox-rows.mjs): the forced cells as the released guide's own fill.sh prints them over the translation 5cb77b51d947b6a2… (all of the seat's roots in one cut). By AI agents, Wed Nov 11 2026. No macro, syntax, notation, axiom, sorry.
-/
import Derived.Test.YtepbjoagighhhaaChecked
import GoSem.Claim
import GoSem.ClaimJoined
import GoSem.ClaimMapViews
import Derived.JoinedTies
import Derived.KernelRfl
namespace Go.Proofs.Ytepbjoagighhhaa
/- THE CELL 'sum', in the pinned program and in every row, IS THE sha256 OF THE DUMP (.gsa) THAT YtepbjoagighhhaaProg.lean LOADS. Nothing in Lean hashes anything: it is a label: what it is worth is what the hold of that sum in a sandbox is worth. -/
noncomputable def Try.pinned : Pinned := { name := "ytepbjoagighhhaa", sum := "5cb77b51d947b6a28acb118c0f7f30c391b7f8bf1922b3b6b29e90bf84aa5fea", checked := Try.checked }
namespace Rows
def none {H : Type} : Left H := { results := [], args := [] }

/-- 'reparteelaw4.TermInside': WHATEVER THE INPUT: true; the input reads as it did. -/
def termInsideSpec : ChangeSpec := { name := "termInside", fn := fun _ => fun
  | [d1, d2, d3, d4] => { results := [.lit (.bool true)], args := [d1, d2, d3, d4] }
  | _ => none }
def termInsideRow : OpenClaim := { program := "ytepbjoagighhhaa", sum := "5cb77b51d947b6a28acb118c0f7f30c391b7f8bf1922b3b6b29e90bf84aa5fea", func := "repartee/reparteelaw4.TermInside", spec := "termInside", unfollowed := true, recurses := true, apart := false }
def TermInsideSaid : Prop := termInsideRow.holds Try.pinned (OpenSpec.ofChange termInsideSpec)

/-- ITS FALSE NEIGHBOUR: 'it returns false'. Refute it at one input. -/
def termInsideWrong : ChangeSpec := { name := "termInside", fn := fun _ => fun
  | [d1, d2, d3, d4] => { results := [.lit (.bool false)], args := [d1, d2, d3, d4] }
  | _ => none }
def TermInsideWrongFalsely : Prop := termInsideRow.holds Try.pinned (OpenSpec.ofChange termInsideWrong)

/-- 'reparteelaw4.TermSwaps': WHATEVER THE INPUT: true; the input reads as it did. -/
def termSwapsSpec : ChangeSpec := { name := "termSwaps", fn := fun _ => fun
  | [d1, d2, d3] => { results := [.lit (.bool true)], args := [d1, d2, d3] }
  | _ => none }
def termSwapsRow : OpenClaim := { program := "ytepbjoagighhhaa", sum := "5cb77b51d947b6a28acb118c0f7f30c391b7f8bf1922b3b6b29e90bf84aa5fea", func := "repartee/reparteelaw4.TermSwaps", spec := "termSwaps", unfollowed := true, recurses := true, apart := false }
def TermSwapsSaid : Prop := termSwapsRow.holds Try.pinned (OpenSpec.ofChange termSwapsSpec)

/-- ITS FALSE NEIGHBOUR: 'it returns false'. Refute it at one input. -/
def termSwapsWrong : ChangeSpec := { name := "termSwaps", fn := fun _ => fun
  | [d1, d2, d3] => { results := [.lit (.bool false)], args := [d1, d2, d3] }
  | _ => none }
def TermSwapsWrongFalsely : Prop := termSwapsRow.holds Try.pinned (OpenSpec.ofChange termSwapsWrong)

/-- 'reparteelaw4.TermTexts': WHATEVER THE INPUT: true; the input reads as it did. -/
def termTextsSpec : ChangeSpec := { name := "termTexts", fn := fun _ => fun
  | [d1, d2, d3] => { results := [.lit (.bool true)], args := [d1, d2, d3] }
  | _ => none }
def termTextsRow : OpenClaim := { program := "ytepbjoagighhhaa", sum := "5cb77b51d947b6a28acb118c0f7f30c391b7f8bf1922b3b6b29e90bf84aa5fea", func := "repartee/reparteelaw4.TermTexts", spec := "termTexts", unfollowed := true, recurses := true, apart := false }
def TermTextsSaid : Prop := termTextsRow.holds Try.pinned (OpenSpec.ofChange termTextsSpec)

/-- ITS FALSE NEIGHBOUR: 'it returns false'. Refute it at one input. -/
def termTextsWrong : ChangeSpec := { name := "termTexts", fn := fun _ => fun
  | [d1, d2, d3] => { results := [.lit (.bool false)], args := [d1, d2, d3] }
  | _ => none }
def TermTextsWrongFalsely : Prop := termTextsRow.holds Try.pinned (OpenSpec.ofChange termTextsWrong)

/-- 'reparteelaw4.TermNumbers': WHATEVER THE INPUT: true; the input reads as it did. -/
def termNumbersSpec : ChangeSpec := { name := "termNumbers", fn := fun _ => fun
  | [d1, d2] => { results := [.lit (.bool true)], args := [d1, d2] }
  | _ => none }
def termNumbersRow : OpenClaim := { program := "ytepbjoagighhhaa", sum := "5cb77b51d947b6a28acb118c0f7f30c391b7f8bf1922b3b6b29e90bf84aa5fea", func := "repartee/reparteelaw4.TermNumbers", spec := "termNumbers", unfollowed := true, recurses := true, apart := false }
def TermNumbersSaid : Prop := termNumbersRow.holds Try.pinned (OpenSpec.ofChange termNumbersSpec)

/-- ITS FALSE NEIGHBOUR: 'it returns false'. Refute it at one input. -/
def termNumbersWrong : ChangeSpec := { name := "termNumbers", fn := fun _ => fun
  | [d1, d2] => { results := [.lit (.bool false)], args := [d1, d2] }
  | _ => none }
def TermNumbersWrongFalsely : Prop := termNumbersRow.holds Try.pinned (OpenSpec.ofChange termNumbersWrong)

/-- 'reparteelaw4.TermLists': WHATEVER THE INPUT: true; the input reads as it did. -/
def termListsSpec : ChangeSpec := { name := "termLists", fn := fun _ => fun
  | [d1, d2, d3] => { results := [.lit (.bool true)], args := [d1, d2, d3] }
  | _ => none }
def termListsRow : OpenClaim := { program := "ytepbjoagighhhaa", sum := "5cb77b51d947b6a28acb118c0f7f30c391b7f8bf1922b3b6b29e90bf84aa5fea", func := "repartee/reparteelaw4.TermLists", spec := "termLists", unfollowed := true, recurses := true, apart := false }
def TermListsSaid : Prop := termListsRow.holds Try.pinned (OpenSpec.ofChange termListsSpec)

/-- ITS FALSE NEIGHBOUR: 'it returns false'. Refute it at one input. -/
def termListsWrong : ChangeSpec := { name := "termLists", fn := fun _ => fun
  | [d1, d2, d3] => { results := [.lit (.bool false)], args := [d1, d2, d3] }
  | _ => none }
def TermListsWrongFalsely : Prop := termListsRow.holds Try.pinned (OpenSpec.ofChange termListsWrong)

/-- 'reparteelaw4.TermBools': WHATEVER THE INPUT: true; the input reads as it did. -/
def termBoolsSpec : ChangeSpec := { name := "termBools", fn := fun _ => fun
  | [d1, d2] => { results := [.lit (.bool true)], args := [d1, d2] }
  | _ => none }
def termBoolsRow : OpenClaim := { program := "ytepbjoagighhhaa", sum := "5cb77b51d947b6a28acb118c0f7f30c391b7f8bf1922b3b6b29e90bf84aa5fea", func := "repartee/reparteelaw4.TermBools", spec := "termBools", unfollowed := true, recurses := true, apart := false }
def TermBoolsSaid : Prop := termBoolsRow.holds Try.pinned (OpenSpec.ofChange termBoolsSpec)

/-- ITS FALSE NEIGHBOUR: 'it returns false'. Refute it at one input. -/
def termBoolsWrong : ChangeSpec := { name := "termBools", fn := fun _ => fun
  | [d1, d2] => { results := [.lit (.bool false)], args := [d1, d2] }
  | _ => none }
def TermBoolsWrongFalsely : Prop := termBoolsRow.holds Try.pinned (OpenSpec.ofChange termBoolsWrong)

/-- 'reparteelaw4.TermTells': WHATEVER THE INPUT: true; the input reads as it did. -/
def termTellsSpec : ChangeSpec := { name := "termTells", fn := fun _ => fun
  | [d1, d2, d3] => { results := [.lit (.bool true)], args := [d1, d2, d3] }
  | _ => none }
def termTellsRow : OpenClaim := { program := "ytepbjoagighhhaa", sum := "5cb77b51d947b6a28acb118c0f7f30c391b7f8bf1922b3b6b29e90bf84aa5fea", func := "repartee/reparteelaw4.TermTells", spec := "termTells", unfollowed := true, recurses := true, apart := false }
def TermTellsSaid : Prop := termTellsRow.holds Try.pinned (OpenSpec.ofChange termTellsSpec)

/-- ITS FALSE NEIGHBOUR: 'it returns false'. Refute it at one input. -/
def termTellsWrong : ChangeSpec := { name := "termTells", fn := fun _ => fun
  | [d1, d2, d3] => { results := [.lit (.bool false)], args := [d1, d2, d3] }
  | _ => none }
def TermTellsWrongFalsely : Prop := termTellsRow.holds Try.pinned (OpenSpec.ofChange termTellsWrong)

/-- 'reparteelaw4.TermTrees': WHATEVER THE INPUT: true; the input reads as it did. -/
def termTreesSpec : ChangeSpec := { name := "termTrees", fn := fun _ => fun
  | [d1, d2, d3] => { results := [.lit (.bool true)], args := [d1, d2, d3] }
  | _ => none }
def termTreesRow : OpenClaim := { program := "ytepbjoagighhhaa", sum := "5cb77b51d947b6a28acb118c0f7f30c391b7f8bf1922b3b6b29e90bf84aa5fea", func := "repartee/reparteelaw4.TermTrees", spec := "termTrees", unfollowed := true, recurses := true, apart := false }
def TermTreesSaid : Prop := termTreesRow.holds Try.pinned (OpenSpec.ofChange termTreesSpec)

/-- ITS FALSE NEIGHBOUR: 'it returns false'. Refute it at one input. -/
def termTreesWrong : ChangeSpec := { name := "termTrees", fn := fun _ => fun
  | [d1, d2, d3] => { results := [.lit (.bool false)], args := [d1, d2, d3] }
  | _ => none }
def TermTreesWrongFalsely : Prop := termTreesRow.holds Try.pinned (OpenSpec.ofChange termTreesWrong)

/-- 'reparteelaw4.TermOthers': WHATEVER THE INPUT: true; the input reads as it did. -/
def termOthersSpec : ChangeSpec := { name := "termOthers", fn := fun _ => fun
  | [d1, d2, d3, d4] => { results := [.lit (.bool true)], args := [d1, d2, d3, d4] }
  | _ => none }
def termOthersRow : OpenClaim := { program := "ytepbjoagighhhaa", sum := "5cb77b51d947b6a28acb118c0f7f30c391b7f8bf1922b3b6b29e90bf84aa5fea", func := "repartee/reparteelaw4.TermOthers", spec := "termOthers", unfollowed := true, recurses := true, apart := false }
def TermOthersSaid : Prop := termOthersRow.holds Try.pinned (OpenSpec.ofChange termOthersSpec)

/-- ITS FALSE NEIGHBOUR: 'it returns false'. Refute it at one input. -/
def termOthersWrong : ChangeSpec := { name := "termOthers", fn := fun _ => fun
  | [d1, d2, d3, d4] => { results := [.lit (.bool false)], args := [d1, d2, d3, d4] }
  | _ => none }
def TermOthersWrongFalsely : Prop := termOthersRow.holds Try.pinned (OpenSpec.ofChange termOthersWrong)

/-- 'reparteelaw4.TermPuts': WHATEVER THE INPUT: true; the input reads as it did. -/
def termPutsSpec : ChangeSpec := { name := "termPuts", fn := fun _ => fun
  | [d1, d2, d3, d4, d5] => { results := [.lit (.bool true)], args := [d1, d2, d3, d4, d5] }
  | _ => none }
def termPutsRow : OpenClaim := { program := "ytepbjoagighhhaa", sum := "5cb77b51d947b6a28acb118c0f7f30c391b7f8bf1922b3b6b29e90bf84aa5fea", func := "repartee/reparteelaw4.TermPuts", spec := "termPuts", unfollowed := true, recurses := true, apart := false }
def TermPutsSaid : Prop := termPutsRow.holds Try.pinned (OpenSpec.ofChange termPutsSpec)

/-- ITS FALSE NEIGHBOUR: 'it returns false'. Refute it at one input. -/
def termPutsWrong : ChangeSpec := { name := "termPuts", fn := fun _ => fun
  | [d1, d2, d3, d4, d5] => { results := [.lit (.bool false)], args := [d1, d2, d3, d4, d5] }
  | _ => none }
def TermPutsWrongFalsely : Prop := termPutsRow.holds Try.pinned (OpenSpec.ofChange termPutsWrong)

/- THE SECOND FORM. 'bulk': how many values and letters a reading holds, each counted each time it is reached (what is shared counts as often as it is met; a slice's spare places count too). A statement '..UptoSaid' is the law's where the arguments, and the package variables that the reading takes, are together of bulk at most 1048576: NARROWER than '..Said'. Prove '..Said' where nothing that the law and all that it calls make is longer than what came in: it says more and counts as full. Else prove '..UptoSaid'. A law counts once. -/
mutual
def uptoBulk {H : Type} : DataW H → Nat
  | .lit (.string bytes) => bytes.length + 1
  | .lit _ => 1
  | .nil => 1
  | .ptr d => uptoBulk d + 1
  | .slice elems spare => uptoBulkAll elems + uptoBulkAll spare + 1
  | .agg parts => uptoBulkAll parts + 1
  | .iface _ d => uptoBulk d + 1
  | .map entries => uptoBulkEntries entries + 1
  | .held _ => 1
def uptoBulkAll {H : Type} : List (DataW H) → Nat
  | [] => 0
  | d :: r => uptoBulk d + uptoBulkAll r
def uptoBulkEntries {H : Type} : List (Lit × DataW H) → Nat
  | [] => 0
  | x :: r => uptoBulkEntry x + uptoBulkEntries r
def uptoBulkEntry {H : Type} : Lit × DataW H → Nat
  | (.string bytes, d) => bytes.length + uptoBulk d + 1
  | (_, d) => uptoBulk d + 1
 end
def uptoSmall : (H : Type) → List (DataW H) → Bool := fun _ ds => decide (uptoBulkAll ds ≤ 1048576)
def OpenSpec.upto (s : _root_.Go.ChangeSpec) : _root_.Go.OpenSpec := { _root_.Go.OpenSpec.ofChange s with cond := some uptoSmall }

/-- 'reparteelaw4.TermInside', WHERE WHAT IT READS IS OF BULK AT MOST 1048576: true; the input reads as it did. -/
def termInsideUptoRow : OpenClaim := { program := "ytepbjoagighhhaa", sum := "5cb77b51d947b6a28acb118c0f7f30c391b7f8bf1922b3b6b29e90bf84aa5fea", func := "repartee/reparteelaw4.TermInside", spec := "termInside", unfollowed := true, recurses := true, apart := false, narrowed := true }
def TermInsideUptoSaid : Prop := termInsideUptoRow.holds Try.pinned (OpenSpec.upto termInsideSpec)

/-- 'reparteelaw4.TermSwaps', WHERE WHAT IT READS IS OF BULK AT MOST 1048576: true; the input reads as it did. -/
def termSwapsUptoRow : OpenClaim := { program := "ytepbjoagighhhaa", sum := "5cb77b51d947b6a28acb118c0f7f30c391b7f8bf1922b3b6b29e90bf84aa5fea", func := "repartee/reparteelaw4.TermSwaps", spec := "termSwaps", unfollowed := true, recurses := true, apart := false, narrowed := true }
def TermSwapsUptoSaid : Prop := termSwapsUptoRow.holds Try.pinned (OpenSpec.upto termSwapsSpec)

/-- 'reparteelaw4.TermTexts', WHERE WHAT IT READS IS OF BULK AT MOST 1048576: true; the input reads as it did. -/
def termTextsUptoRow : OpenClaim := { program := "ytepbjoagighhhaa", sum := "5cb77b51d947b6a28acb118c0f7f30c391b7f8bf1922b3b6b29e90bf84aa5fea", func := "repartee/reparteelaw4.TermTexts", spec := "termTexts", unfollowed := true, recurses := true, apart := false, narrowed := true }
def TermTextsUptoSaid : Prop := termTextsUptoRow.holds Try.pinned (OpenSpec.upto termTextsSpec)

/-- 'reparteelaw4.TermNumbers', WHERE WHAT IT READS IS OF BULK AT MOST 1048576: true; the input reads as it did. -/
def termNumbersUptoRow : OpenClaim := { program := "ytepbjoagighhhaa", sum := "5cb77b51d947b6a28acb118c0f7f30c391b7f8bf1922b3b6b29e90bf84aa5fea", func := "repartee/reparteelaw4.TermNumbers", spec := "termNumbers", unfollowed := true, recurses := true, apart := false, narrowed := true }
def TermNumbersUptoSaid : Prop := termNumbersUptoRow.holds Try.pinned (OpenSpec.upto termNumbersSpec)

/-- 'reparteelaw4.TermLists', WHERE WHAT IT READS IS OF BULK AT MOST 1048576: true; the input reads as it did. -/
def termListsUptoRow : OpenClaim := { program := "ytepbjoagighhhaa", sum := "5cb77b51d947b6a28acb118c0f7f30c391b7f8bf1922b3b6b29e90bf84aa5fea", func := "repartee/reparteelaw4.TermLists", spec := "termLists", unfollowed := true, recurses := true, apart := false, narrowed := true }
def TermListsUptoSaid : Prop := termListsUptoRow.holds Try.pinned (OpenSpec.upto termListsSpec)

/-- 'reparteelaw4.TermBools', WHERE WHAT IT READS IS OF BULK AT MOST 1048576: true; the input reads as it did. -/
def termBoolsUptoRow : OpenClaim := { program := "ytepbjoagighhhaa", sum := "5cb77b51d947b6a28acb118c0f7f30c391b7f8bf1922b3b6b29e90bf84aa5fea", func := "repartee/reparteelaw4.TermBools", spec := "termBools", unfollowed := true, recurses := true, apart := false, narrowed := true }
def TermBoolsUptoSaid : Prop := termBoolsUptoRow.holds Try.pinned (OpenSpec.upto termBoolsSpec)

/-- 'reparteelaw4.TermTells', WHERE WHAT IT READS IS OF BULK AT MOST 1048576: true; the input reads as it did. -/
def termTellsUptoRow : OpenClaim := { program := "ytepbjoagighhhaa", sum := "5cb77b51d947b6a28acb118c0f7f30c391b7f8bf1922b3b6b29e90bf84aa5fea", func := "repartee/reparteelaw4.TermTells", spec := "termTells", unfollowed := true, recurses := true, apart := false, narrowed := true }
def TermTellsUptoSaid : Prop := termTellsUptoRow.holds Try.pinned (OpenSpec.upto termTellsSpec)

/-- 'reparteelaw4.TermTrees', WHERE WHAT IT READS IS OF BULK AT MOST 1048576: true; the input reads as it did. -/
def termTreesUptoRow : OpenClaim := { program := "ytepbjoagighhhaa", sum := "5cb77b51d947b6a28acb118c0f7f30c391b7f8bf1922b3b6b29e90bf84aa5fea", func := "repartee/reparteelaw4.TermTrees", spec := "termTrees", unfollowed := true, recurses := true, apart := false, narrowed := true }
def TermTreesUptoSaid : Prop := termTreesUptoRow.holds Try.pinned (OpenSpec.upto termTreesSpec)

/-- 'reparteelaw4.TermOthers', WHERE WHAT IT READS IS OF BULK AT MOST 1048576: true; the input reads as it did. -/
def termOthersUptoRow : OpenClaim := { program := "ytepbjoagighhhaa", sum := "5cb77b51d947b6a28acb118c0f7f30c391b7f8bf1922b3b6b29e90bf84aa5fea", func := "repartee/reparteelaw4.TermOthers", spec := "termOthers", unfollowed := true, recurses := true, apart := false, narrowed := true }
def TermOthersUptoSaid : Prop := termOthersUptoRow.holds Try.pinned (OpenSpec.upto termOthersSpec)

/-- 'reparteelaw4.TermPuts', WHERE WHAT IT READS IS OF BULK AT MOST 1048576: true; the input reads as it did. -/
def termPutsUptoRow : OpenClaim := { program := "ytepbjoagighhhaa", sum := "5cb77b51d947b6a28acb118c0f7f30c391b7f8bf1922b3b6b29e90bf84aa5fea", func := "repartee/reparteelaw4.TermPuts", spec := "termPuts", unfollowed := true, recurses := true, apart := false, narrowed := true }
def TermPutsUptoSaid : Prop := termPutsUptoRow.holds Try.pinned (OpenSpec.upto termPutsSpec)

end Rows
end Go.Proofs.Ytepbjoagighhhaa
