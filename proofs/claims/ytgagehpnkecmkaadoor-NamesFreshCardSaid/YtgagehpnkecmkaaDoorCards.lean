/-
  DERIVED. GIVEN WITH THE SEED: THE CARDS: each row of YtgagehpnkecmkaaDoorRows.lean that lists a variable, with what it lists TIED to the program's text (the seventh form; the later family's looks); each row that meets fmt, with fmt's text TOLD by the authors' own Lean function (tested against real Go, not proved from fmt's source: count such statements apart). THE CARD IS WHAT COUNTS. Prove the row's statement (the work); the ties are given (YtgagehpnkecmkaaDoorTie.lean); close each card by the builder's one call (the guide's Derived/Test/ToyasCard.lean, 'card_holds'). Laid BY PROGRAM, IN A SANDBOX (cutbox-door.mjs). By AI agents, Wed Nov 11 2026. No macro, syntax, notation, axiom, sorry.
-/
import Derived.Test.YtgagehpnkecmkaaDoorRows
import GoSem.ClaimSeven
namespace Go.Proofs.YtgagehpnkecmkaaDoor
namespace Rows

/-- THE TIED CARD OF 'reparteelaw1.NamesBytes'. -/
def namesBytesCard : Claim7 := { stood := { row := namesBytesRow, standIns := [], harness := (true, "70d69f00bfeac318b217a624b523d08c34ba417b062295102e12400d04683de2"), looks := false }, kinds := [], alts := [], laidByText := true, laidKinds := [.data, .data, .data], laidTests := true, laidLooks := .later }
def NamesBytesCardSaid : Prop := Claim7.holds Tryd.pinned (.plain (OpenSpec.ofChange namesBytesSpec)) namesBytesCard

/-- THE TIED CARD OF 'reparteelaw1.NamesFresh'. -/
def namesFreshCard : Claim7 := { stood := { row := namesFreshRow, standIns := [], harness := (true, "70d69f00bfeac318b217a624b523d08c34ba417b062295102e12400d04683de2"), looks := false }, kinds := [], alts := [], laidByText := true, laidKinds := [.data, .data, .data], laidTests := true, laidLooks := .later }
def NamesFreshCardSaid : Prop := Claim7.holds Tryd.pinned (.plain (OpenSpec.ofChange namesFreshSpec)) namesFreshCard

/-- THE TIED CARD OF 'reparteelaw1.NamesTell'. -/
def namesTellCard : Claim7 := { stood := { row := namesTellRow, standIns := [], harness := (true, "70d69f00bfeac318b217a624b523d08c34ba417b062295102e12400d04683de2"), looks := false }, kinds := [], alts := [], laidByText := true, laidKinds := [.data, .data, .data], laidTests := true, laidLooks := .later }
def NamesTellCardSaid : Prop := Claim7.holds Tryd.pinned (.plain (OpenSpec.ofChange namesTellSpec)) namesTellCard

/-- THE TIED CARD OF 'reparteelaw1.NamesPut'. -/
def namesPutCard : Claim7 := { stood := { row := namesPutRow, standIns := [], harness := (true, "70d69f00bfeac318b217a624b523d08c34ba417b062295102e12400d04683de2"), looks := false }, kinds := [], alts := [], laidByText := true, laidKinds := [.data, .data, .data], laidTests := true, laidLooks := .later }
def NamesPutCardSaid : Prop := Claim7.holds Tryd.pinned (.plain (OpenSpec.ofChange namesPutSpec)) namesPutCard

/-- THE TIED CARD OF 'reparteelaw1.NamesKeys'. -/
def namesKeysCard : Claim7 := { stood := { row := namesKeysRow, standIns := [], harness := (true, "70d69f00bfeac318b217a624b523d08c34ba417b062295102e12400d04683de2"), looks := false }, kinds := [], alts := [], laidByText := true, laidKinds := [.data, .data, .data], laidTests := true, laidLooks := .later }
def NamesKeysCardSaid : Prop := Claim7.holds Tryd.pinned (.plain (OpenSpec.ofChange namesKeysSpec)) namesKeysCard

/-- THE SECOND FORM's CARD OF 'reparteelaw1.NamesBytes'. -/
def namesBytesUptoCard : Claim7 := { stood := { row := namesBytesUptoRow, standIns := [], harness := (true, "70d69f00bfeac318b217a624b523d08c34ba417b062295102e12400d04683de2"), looks := false }, kinds := [], alts := [], laidByText := true, laidKinds := [.data, .data, .data], laidTests := true, laidLooks := .later }
def NamesBytesUptoCardSaid : Prop := Claim7.holds Tryd.pinned (.plain (OpenSpec.upto namesBytesSpec)) namesBytesUptoCard

/-- THE SECOND FORM's CARD OF 'reparteelaw1.NamesFresh'. -/
def namesFreshUptoCard : Claim7 := { stood := { row := namesFreshUptoRow, standIns := [], harness := (true, "70d69f00bfeac318b217a624b523d08c34ba417b062295102e12400d04683de2"), looks := false }, kinds := [], alts := [], laidByText := true, laidKinds := [.data, .data, .data], laidTests := true, laidLooks := .later }
def NamesFreshUptoCardSaid : Prop := Claim7.holds Tryd.pinned (.plain (OpenSpec.upto namesFreshSpec)) namesFreshUptoCard

/-- THE SECOND FORM's CARD OF 'reparteelaw1.NamesTell'. -/
def namesTellUptoCard : Claim7 := { stood := { row := namesTellUptoRow, standIns := [], harness := (true, "70d69f00bfeac318b217a624b523d08c34ba417b062295102e12400d04683de2"), looks := false }, kinds := [], alts := [], laidByText := true, laidKinds := [.data, .data, .data], laidTests := true, laidLooks := .later }
def NamesTellUptoCardSaid : Prop := Claim7.holds Tryd.pinned (.plain (OpenSpec.upto namesTellSpec)) namesTellUptoCard

/-- THE SECOND FORM's CARD OF 'reparteelaw1.NamesPut'. -/
def namesPutUptoCard : Claim7 := { stood := { row := namesPutUptoRow, standIns := [], harness := (true, "70d69f00bfeac318b217a624b523d08c34ba417b062295102e12400d04683de2"), looks := false }, kinds := [], alts := [], laidByText := true, laidKinds := [.data, .data, .data], laidTests := true, laidLooks := .later }
def NamesPutUptoCardSaid : Prop := Claim7.holds Tryd.pinned (.plain (OpenSpec.upto namesPutSpec)) namesPutUptoCard

/-- THE SECOND FORM's CARD OF 'reparteelaw1.NamesKeys'. -/
def namesKeysUptoCard : Claim7 := { stood := { row := namesKeysUptoRow, standIns := [], harness := (true, "70d69f00bfeac318b217a624b523d08c34ba417b062295102e12400d04683de2"), looks := false }, kinds := [], alts := [], laidByText := true, laidKinds := [.data, .data, .data], laidTests := true, laidLooks := .later }
def NamesKeysUptoCardSaid : Prop := Claim7.holds Tryd.pinned (.plain (OpenSpec.upto namesKeysSpec)) namesKeysUptoCard
end Rows
end Go.Proofs.YtgagehpnkecmkaaDoor
