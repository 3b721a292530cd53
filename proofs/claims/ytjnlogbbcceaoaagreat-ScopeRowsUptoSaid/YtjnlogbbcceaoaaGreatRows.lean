/-
  No cell of these rows narrows 'for every input' (looked for: loops, veiled, ifaces, maps, wideKeys, modest, calm, conditions, laid).
  DERIVED. THE GIVEN ROWS OF THIS SEAT. 6 by the template 'for every input the law returns true; each argument reads behind the call as it read before'; 0 by the template 'total and deterministic' (their statements: YtjnlogbbcceaoaaGreatTotals.lean).
  GIVEN WITH THE SEED: the statements are not yours to turn. If you find one false, say at which input.
  Laid BY PROGRAM, IN A SANDBOX (cutbox-rows.mjs): the forced cells as the released guide's own fill.sh prints them over the translation b26b327e1b2e9832… (all of the seat's roots in one cut). By AI agents, Wed Nov 11 2026. No macro, syntax, notation, axiom, sorry.
-/
import Derived.Test.YtjnlogbbcceaoaaGreatChecked
import GoSem.Claim
import GoSem.ClaimJoined
import GoSem.ClaimMapViews
import Derived.JoinedTies
import Derived.KernelRfl
namespace Go.Proofs.YtjnlogbbcceaoaaGreat
/- THE CELL 'sum', in the pinned program and in every row, IS THE sha256 OF THE DUMP (.gsa) THAT YtjnlogbbcceaoaaGreatProg.lean LOADS. Nothing in Lean hashes anything: it is a label: what it is worth is what the hold of that sum in a sandbox is worth. -/
noncomputable def Tryz.pinned : Pinned := { name := "ytjnlogbbcceaoaagreat", sum := "b26b327e1b2e9832548a0410ce836d9647f7f210f1cbd84fbfb6650ca23f462a", checked := Tryz.checked }
namespace Rows
def none {H : Type} : Left H := { results := [], args := [] }

/-- 'reparteelaw15.ScopeRenames': WHATEVER THE INPUT: true; the input reads as it did. -/
def scopeRenamesSpec : ChangeSpec := { name := "scopeRenames", fn := fun _ => fun
  | [d1, d2, d3] => { results := [.lit (.bool true)], args := [d1, d2, d3] }
  | _ => none }
def scopeRenamesRow : OpenClaim := { program := "ytjnlogbbcceaoaagreat", sum := "b26b327e1b2e9832548a0410ce836d9647f7f210f1cbd84fbfb6650ca23f462a", func := "repartee/reparteelaw15.ScopeRenames", spec := "scopeRenames", inPlace := ["internal/bytealg.IndexByteString", "internal/bytealg.IndexString"], unfollowed := true, recurses := true, named := ["internal/bytealg.MaxLen"], apart := false }
def ScopeRenamesSaid : Prop := scopeRenamesRow.holds Tryz.pinned (OpenSpec.ofChange scopeRenamesSpec)

/-- ITS FALSE NEIGHBOUR: 'it returns false'. Refute it at one input. -/
def scopeRenamesWrong : ChangeSpec := { name := "scopeRenames", fn := fun _ => fun
  | [d1, d2, d3] => { results := [.lit (.bool false)], args := [d1, d2, d3] }
  | _ => none }
def ScopeRenamesWrongFalsely : Prop := scopeRenamesRow.holds Tryz.pinned (OpenSpec.ofChange scopeRenamesWrong)

/-- 'reparteelaw15.ScopeMore': WHATEVER THE INPUT: true; the input reads as it did. -/
def scopeMoreSpec : ChangeSpec := { name := "scopeMore", fn := fun _ => fun
  | [d1, d2] => { results := [.lit (.bool true)], args := [d1, d2] }
  | _ => none }
def scopeMoreRow : OpenClaim := { program := "ytjnlogbbcceaoaagreat", sum := "b26b327e1b2e9832548a0410ce836d9647f7f210f1cbd84fbfb6650ca23f462a", func := "repartee/reparteelaw15.ScopeMore", spec := "scopeMore", inPlace := ["internal/bytealg.IndexByteString", "internal/bytealg.IndexString"], unfollowed := true, recurses := true, named := ["internal/bytealg.MaxLen"], apart := false }
def ScopeMoreSaid : Prop := scopeMoreRow.holds Tryz.pinned (OpenSpec.ofChange scopeMoreSpec)

/-- ITS FALSE NEIGHBOUR: 'it returns false'. Refute it at one input. -/
def scopeMoreWrong : ChangeSpec := { name := "scopeMore", fn := fun _ => fun
  | [d1, d2] => { results := [.lit (.bool false)], args := [d1, d2] }
  | _ => none }
def ScopeMoreWrongFalsely : Prop := scopeMoreRow.holds Tryz.pinned (OpenSpec.ofChange scopeMoreWrong)

/-- 'reparteelaw15.ScopeTells': WHATEVER THE INPUT: true; the input reads as it did. -/
def scopeTellsSpec : ChangeSpec := { name := "scopeTells", fn := fun _ => fun
  | [d1, d2, d3, d4, d5, d6] => { results := [.lit (.bool true)], args := [d1, d2, d3, d4, d5, d6] }
  | _ => none }
def scopeTellsRow : OpenClaim := { program := "ytjnlogbbcceaoaagreat", sum := "b26b327e1b2e9832548a0410ce836d9647f7f210f1cbd84fbfb6650ca23f462a", func := "repartee/reparteelaw15.ScopeTells", spec := "scopeTells", inPlace := ["internal/bytealg.IndexByteString", "internal/bytealg.IndexString"], unfollowed := true, recurses := true, named := ["internal/bytealg.MaxLen"], apart := false }
def ScopeTellsSaid : Prop := scopeTellsRow.holds Tryz.pinned (OpenSpec.ofChange scopeTellsSpec)

/-- ITS FALSE NEIGHBOUR: 'it returns false'. Refute it at one input. -/
def scopeTellsWrong : ChangeSpec := { name := "scopeTells", fn := fun _ => fun
  | [d1, d2, d3, d4, d5, d6] => { results := [.lit (.bool false)], args := [d1, d2, d3, d4, d5, d6] }
  | _ => none }
def ScopeTellsWrongFalsely : Prop := scopeTellsRow.holds Tryz.pinned (OpenSpec.ofChange scopeTellsWrong)

/-- 'reparteelaw15.ScopeRise': WHATEVER THE INPUT: true; the input reads as it did. -/
def scopeRiseSpec : ChangeSpec := { name := "scopeRise", fn := fun _ => fun
  | [d1, d2, d3] => { results := [.lit (.bool true)], args := [d1, d2, d3] }
  | _ => none }
def scopeRiseRow : OpenClaim := { program := "ytjnlogbbcceaoaagreat", sum := "b26b327e1b2e9832548a0410ce836d9647f7f210f1cbd84fbfb6650ca23f462a", func := "repartee/reparteelaw15.ScopeRise", spec := "scopeRise", inPlace := ["internal/bytealg.IndexByteString", "internal/bytealg.IndexString"], unfollowed := true, recurses := true, named := ["internal/bytealg.MaxLen"], apart := false }
def ScopeRiseSaid : Prop := scopeRiseRow.holds Tryz.pinned (OpenSpec.ofChange scopeRiseSpec)

/-- ITS FALSE NEIGHBOUR: 'it returns false'. Refute it at one input. -/
def scopeRiseWrong : ChangeSpec := { name := "scopeRise", fn := fun _ => fun
  | [d1, d2, d3] => { results := [.lit (.bool false)], args := [d1, d2, d3] }
  | _ => none }
def ScopeRiseWrongFalsely : Prop := scopeRiseRow.holds Tryz.pinned (OpenSpec.ofChange scopeRiseWrong)

/-- 'reparteelaw15.ScopeRows': WHATEVER THE INPUT: true; the input reads as it did. -/
def scopeRowsSpec : ChangeSpec := { name := "scopeRows", fn := fun _ => fun
  | [d1, d2, d3] => { results := [.lit (.bool true)], args := [d1, d2, d3] }
  | _ => none }
def scopeRowsRow : OpenClaim := { program := "ytjnlogbbcceaoaagreat", sum := "b26b327e1b2e9832548a0410ce836d9647f7f210f1cbd84fbfb6650ca23f462a", func := "repartee/reparteelaw15.ScopeRows", spec := "scopeRows", inPlace := ["internal/bytealg.IndexByteString", "internal/bytealg.IndexString"], unfollowed := true, recurses := true, named := ["internal/bytealg.MaxLen"], apart := false }
def ScopeRowsSaid : Prop := scopeRowsRow.holds Tryz.pinned (OpenSpec.ofChange scopeRowsSpec)

/-- ITS FALSE NEIGHBOUR: 'it returns false'. Refute it at one input. -/
def scopeRowsWrong : ChangeSpec := { name := "scopeRows", fn := fun _ => fun
  | [d1, d2, d3] => { results := [.lit (.bool false)], args := [d1, d2, d3] }
  | _ => none }
def ScopeRowsWrongFalsely : Prop := scopeRowsRow.holds Tryz.pinned (OpenSpec.ofChange scopeRowsWrong)

/-- 'reparteelaw15.ScopeNames': WHATEVER THE INPUT: true; the input reads as it did. -/
def scopeNamesSpec : ChangeSpec := { name := "scopeNames", fn := fun _ => fun
  | [d] => { results := [.lit (.bool true)], args := [d] }
  | _ => none }
def scopeNamesRow : OpenClaim := { program := "ytjnlogbbcceaoaagreat", sum := "b26b327e1b2e9832548a0410ce836d9647f7f210f1cbd84fbfb6650ca23f462a", func := "repartee/reparteelaw15.ScopeNames", spec := "scopeNames", inPlace := ["internal/bytealg.IndexByteString", "internal/bytealg.IndexString"], unfollowed := true, recurses := true, named := ["internal/bytealg.MaxLen"], apart := false }
def ScopeNamesSaid : Prop := scopeNamesRow.holds Tryz.pinned (OpenSpec.ofChange scopeNamesSpec)

/-- ITS FALSE NEIGHBOUR: 'it returns false'. Refute it at one input. -/
def scopeNamesWrong : ChangeSpec := { name := "scopeNames", fn := fun _ => fun
  | [d] => { results := [.lit (.bool false)], args := [d] }
  | _ => none }
def ScopeNamesWrongFalsely : Prop := scopeNamesRow.holds Tryz.pinned (OpenSpec.ofChange scopeNamesWrong)

/- THE SECOND FORM. 'bulk': how many values and letters a reading holds, each counted each time it is reached (what is shared counts as often as it is met; a slice's spare places count too). A statement '..UptoSaid' is the law's where the arguments, and the package variables that the reading takes, are together of bulk at most 1048576: NARROWER than '..Said'. Prove '..Said' where nothing that the law and all that it calls make is longer than what came in: it says more and counts as full. Else prove '..UptoSaid'. A law counts once. -/
mutual
def uptoBulk {H : Type} : DataW H → Nat
  | .lit (.string bytes) => bytes.length + 1
  | .lit _ => 1
  | .nil => 1
  | .ptr d => uptoBulk d + 1
  | .slice elems spare => uptoBulkAll elems + uptoBulkAll spare + 1
  | .agg parts => uptoBulkAll parts + 1
  | .iface _ d => uptoBulk d + 1
  | .map entries => uptoBulkEntries entries + 1
  | .held _ => 1
def uptoBulkAll {H : Type} : List (DataW H) → Nat
  | [] => 0
  | d :: r => uptoBulk d + uptoBulkAll r
def uptoBulkEntries {H : Type} : List (Lit × DataW H) → Nat
  | [] => 0
  | x :: r => uptoBulkEntry x + uptoBulkEntries r
def uptoBulkEntry {H : Type} : Lit × DataW H → Nat
  | (.string bytes, d) => bytes.length + uptoBulk d + 1
  | (_, d) => uptoBulk d + 1
 end
def uptoSmall : (H : Type) → List (DataW H) → Bool := fun _ ds => decide (uptoBulkAll ds ≤ 1048576)
def OpenSpec.upto (s : _root_.Go.ChangeSpec) : _root_.Go.OpenSpec := { _root_.Go.OpenSpec.ofChange s with cond := some uptoSmall }

/-- 'reparteelaw15.ScopeRenames', WHERE WHAT IT READS IS OF BULK AT MOST 1048576: true; the input reads as it did. -/
def scopeRenamesUptoRow : OpenClaim := { program := "ytjnlogbbcceaoaagreat", sum := "b26b327e1b2e9832548a0410ce836d9647f7f210f1cbd84fbfb6650ca23f462a", func := "repartee/reparteelaw15.ScopeRenames", spec := "scopeRenames", inPlace := ["internal/bytealg.IndexByteString", "internal/bytealg.IndexString"], unfollowed := true, recurses := true, named := ["internal/bytealg.MaxLen"], apart := false, narrowed := true }
def ScopeRenamesUptoSaid : Prop := scopeRenamesUptoRow.holds Tryz.pinned (OpenSpec.upto scopeRenamesSpec)

/-- 'reparteelaw15.ScopeMore', WHERE WHAT IT READS IS OF BULK AT MOST 1048576: true; the input reads as it did. -/
def scopeMoreUptoRow : OpenClaim := { program := "ytjnlogbbcceaoaagreat", sum := "b26b327e1b2e9832548a0410ce836d9647f7f210f1cbd84fbfb6650ca23f462a", func := "repartee/reparteelaw15.ScopeMore", spec := "scopeMore", inPlace := ["internal/bytealg.IndexByteString", "internal/bytealg.IndexString"], unfollowed := true, recurses := true, named := ["internal/bytealg.MaxLen"], apart := false, narrowed := true }
def ScopeMoreUptoSaid : Prop := scopeMoreUptoRow.holds Tryz.pinned (OpenSpec.upto scopeMoreSpec)

/-- 'reparteelaw15.ScopeTells', WHERE WHAT IT READS IS OF BULK AT MOST 1048576: true; the input reads as it did. -/
def scopeTellsUptoRow : OpenClaim := { program := "ytjnlogbbcceaoaagreat", sum := "b26b327e1b2e9832548a0410ce836d9647f7f210f1cbd84fbfb6650ca23f462a", func := "repartee/reparteelaw15.ScopeTells", spec := "scopeTells", inPlace := ["internal/bytealg.IndexByteString", "internal/bytealg.IndexString"], unfollowed := true, recurses := true, named := ["internal/bytealg.MaxLen"], apart := false, narrowed := true }
def ScopeTellsUptoSaid : Prop := scopeTellsUptoRow.holds Tryz.pinned (OpenSpec.upto scopeTellsSpec)

/-- 'reparteelaw15.ScopeRise', WHERE WHAT IT READS IS OF BULK AT MOST 1048576: true; the input reads as it did. -/
def scopeRiseUptoRow : OpenClaim := { program := "ytjnlogbbcceaoaagreat", sum := "b26b327e1b2e9832548a0410ce836d9647f7f210f1cbd84fbfb6650ca23f462a", func := "repartee/reparteelaw15.ScopeRise", spec := "scopeRise", inPlace := ["internal/bytealg.IndexByteString", "internal/bytealg.IndexString"], unfollowed := true, recurses := true, named := ["internal/bytealg.MaxLen"], apart := false, narrowed := true }
def ScopeRiseUptoSaid : Prop := scopeRiseUptoRow.holds Tryz.pinned (OpenSpec.upto scopeRiseSpec)

/-- 'reparteelaw15.ScopeRows', WHERE WHAT IT READS IS OF BULK AT MOST 1048576: true; the input reads as it did. -/
def scopeRowsUptoRow : OpenClaim := { program := "ytjnlogbbcceaoaagreat", sum := "b26b327e1b2e9832548a0410ce836d9647f7f210f1cbd84fbfb6650ca23f462a", func := "repartee/reparteelaw15.ScopeRows", spec := "scopeRows", inPlace := ["internal/bytealg.IndexByteString", "internal/bytealg.IndexString"], unfollowed := true, recurses := true, named := ["internal/bytealg.MaxLen"], apart := false, narrowed := true }
def ScopeRowsUptoSaid : Prop := scopeRowsUptoRow.holds Tryz.pinned (OpenSpec.upto scopeRowsSpec)

/-- 'reparteelaw15.ScopeNames', WHERE WHAT IT READS IS OF BULK AT MOST 1048576: true; the input reads as it did. -/
def scopeNamesUptoRow : OpenClaim := { program := "ytjnlogbbcceaoaagreat", sum := "b26b327e1b2e9832548a0410ce836d9647f7f210f1cbd84fbfb6650ca23f462a", func := "repartee/reparteelaw15.ScopeNames", spec := "scopeNames", inPlace := ["internal/bytealg.IndexByteString", "internal/bytealg.IndexString"], unfollowed := true, recurses := true, named := ["internal/bytealg.MaxLen"], apart := false, narrowed := true }
def ScopeNamesUptoSaid : Prop := scopeNamesUptoRow.holds Tryz.pinned (OpenSpec.upto scopeNamesSpec)

end Rows
end Go.Proofs.YtjnlogbbcceaoaaGreat
