/-
  DERIVED. GIVEN WITH THE SEED: THE CARDS: each row of YtmlgpjficicagaaDoorRows.lean that lists a variable, with what it lists TIED to the program's text (the seventh form; the later family's looks); each row that meets fmt, with fmt's text TOLD by the authors' own Lean function (tested against real Go, not proved from fmt's source: count such statements apart). THE CARD IS WHAT COUNTS. Prove the row's statement (the work); the ties are given (YtmlgpjficicagaaDoorTie.lean); close each card by the builder's one call (the guide's Derived/Test/ToyasCard.lean, 'card_holds'). Laid BY PROGRAM, IN A SANDBOX (cutbox-door.mjs). By AI agents, Wed Nov 11 2026. No macro, syntax, notation, axiom, sorry.
-/
import Derived.Test.YtmlgpjficicagaaDoorRows
import GoSem.ClaimSeven
namespace Go.Proofs.YtmlgpjficicagaaDoor
namespace Rows

/-- THE TIED CARD OF 'reparteelaw3.DataTexts'. -/
def dataTextsCard : Claim7 := { stood := { row := dataTextsRow, standIns := [], harness := (true, "829200aaab40c4770ab07ad1a1e77c1f44b08dddc2cfab07f661f3a5a1707e42"), looks := true }, kinds := [], alts := [], laidByText := true, laidKinds := [.data, .data, .data, .sentinel, .sentinel, .listed, .data], laidTests := true, laidLooks := .later }
def DataTextsCardSaid : Prop := Claim7.holds Tryd.pinned (.plain (OpenSpec.ofChange dataTextsSpec)) dataTextsCard

/-- THE TIED CARD OF 'reparteelaw3.DataBack'. -/
def dataBackCard : Claim7 := { stood := { row := dataBackRow, standIns := [], harness := (true, "829200aaab40c4770ab07ad1a1e77c1f44b08dddc2cfab07f661f3a5a1707e42"), looks := true }, kinds := [], alts := [], laidByText := true, laidKinds := [.data, .data, .data, .sentinel, .sentinel, .listed, .data], laidTests := true, laidLooks := .later }
def DataBackCardSaid : Prop := Claim7.holds Tryd.pinned (.plain (OpenSpec.ofChange dataBackSpec)) dataBackCard

/-- THE TIED CARD OF 'reparteelaw3.DataKinds'. -/
def dataKindsCard : Claim7 := { stood := { row := dataKindsRow, standIns := [], harness := (true, "829200aaab40c4770ab07ad1a1e77c1f44b08dddc2cfab07f661f3a5a1707e42"), looks := true }, kinds := [], alts := [], laidByText := true, laidKinds := [.data, .data, .data, .sentinel, .sentinel, .listed, .data], laidTests := true, laidLooks := .later }
def DataKindsCardSaid : Prop := Claim7.holds Tryd.pinned (.plain (OpenSpec.ofChange dataKindsSpec)) dataKindsCard

/-- THE TIED CARD OF 'reparteelaw3.DataTells'. -/
def dataTellsCard : Claim7 := { stood := { row := dataTellsRow, standIns := [], harness := (true, "829200aaab40c4770ab07ad1a1e77c1f44b08dddc2cfab07f661f3a5a1707e42"), looks := true }, kinds := [], alts := [], laidByText := true, laidKinds := [.data, .data, .data, .sentinel, .sentinel, .listed, .data], laidTests := true, laidLooks := .later }
def DataTellsCardSaid : Prop := Claim7.holds Tryd.pinned (.plain (OpenSpec.ofChange dataTellsSpec)) dataTellsCard

/-- THE TIED CARD OF 'reparteelaw3.DataRow'. -/
def dataRowCard : Claim7 := { stood := { row := dataRowRow, standIns := [], harness := (true, "829200aaab40c4770ab07ad1a1e77c1f44b08dddc2cfab07f661f3a5a1707e42"), looks := true }, kinds := [], alts := [], laidByText := true, laidKinds := [.data, .data, .data, .sentinel, .sentinel, .listed, .data], laidTests := true, laidLooks := .later }
def DataRowCardSaid : Prop := Claim7.holds Tryd.pinned (.plain (OpenSpec.ofChange dataRowSpec)) dataRowCard

/-- THE SECOND FORM's CARD OF 'reparteelaw3.DataTexts'. -/
def dataTextsUptoCard : Claim7 := { stood := { row := dataTextsUptoRow, standIns := [], harness := (true, "829200aaab40c4770ab07ad1a1e77c1f44b08dddc2cfab07f661f3a5a1707e42"), looks := true }, kinds := [], alts := [], laidByText := true, laidKinds := [.data, .data, .data, .sentinel, .sentinel, .listed, .data], laidTests := true, laidLooks := .later }
def DataTextsUptoCardSaid : Prop := Claim7.holds Tryd.pinned (.plain (OpenSpec.upto dataTextsSpec)) dataTextsUptoCard

/-- THE SECOND FORM's CARD OF 'reparteelaw3.DataBack'. -/
def dataBackUptoCard : Claim7 := { stood := { row := dataBackUptoRow, standIns := [], harness := (true, "829200aaab40c4770ab07ad1a1e77c1f44b08dddc2cfab07f661f3a5a1707e42"), looks := true }, kinds := [], alts := [], laidByText := true, laidKinds := [.data, .data, .data, .sentinel, .sentinel, .listed, .data], laidTests := true, laidLooks := .later }
def DataBackUptoCardSaid : Prop := Claim7.holds Tryd.pinned (.plain (OpenSpec.upto dataBackSpec)) dataBackUptoCard

/-- THE SECOND FORM's CARD OF 'reparteelaw3.DataKinds'. -/
def dataKindsUptoCard : Claim7 := { stood := { row := dataKindsUptoRow, standIns := [], harness := (true, "829200aaab40c4770ab07ad1a1e77c1f44b08dddc2cfab07f661f3a5a1707e42"), looks := true }, kinds := [], alts := [], laidByText := true, laidKinds := [.data, .data, .data, .sentinel, .sentinel, .listed, .data], laidTests := true, laidLooks := .later }
def DataKindsUptoCardSaid : Prop := Claim7.holds Tryd.pinned (.plain (OpenSpec.upto dataKindsSpec)) dataKindsUptoCard

/-- THE SECOND FORM's CARD OF 'reparteelaw3.DataTells'. -/
def dataTellsUptoCard : Claim7 := { stood := { row := dataTellsUptoRow, standIns := [], harness := (true, "829200aaab40c4770ab07ad1a1e77c1f44b08dddc2cfab07f661f3a5a1707e42"), looks := true }, kinds := [], alts := [], laidByText := true, laidKinds := [.data, .data, .data, .sentinel, .sentinel, .listed, .data], laidTests := true, laidLooks := .later }
def DataTellsUptoCardSaid : Prop := Claim7.holds Tryd.pinned (.plain (OpenSpec.upto dataTellsSpec)) dataTellsUptoCard

/-- THE SECOND FORM's CARD OF 'reparteelaw3.DataRow'. -/
def dataRowUptoCard : Claim7 := { stood := { row := dataRowUptoRow, standIns := [], harness := (true, "829200aaab40c4770ab07ad1a1e77c1f44b08dddc2cfab07f661f3a5a1707e42"), looks := true }, kinds := [], alts := [], laidByText := true, laidKinds := [.data, .data, .data, .sentinel, .sentinel, .listed, .data], laidTests := true, laidLooks := .later }
def DataRowUptoCardSaid : Prop := Claim7.holds Tryd.pinned (.plain (OpenSpec.upto dataRowSpec)) dataRowUptoCard
end Rows
end Go.Proofs.YtmlgpjficicagaaDoor
