/-
  DERIVED. GIVEN WITH THE SEED: THE CARDS: each row of YthfdfoigoomaoaaDoorRows.lean that lists a variable, with what it lists TIED to the program's text (the seventh form; the later family's looks); each row that meets fmt, with fmt's text TOLD by the authors' own Lean function (tested against real Go, not proved from fmt's source: count such statements apart). THE CARD IS WHAT COUNTS. Prove the row's statement (the work); the ties are given (YthfdfoigoomaoaaDoorTie.lean); close each card by the builder's one call (the guide's Derived/Test/ToyasCard.lean, 'card_holds'). Laid BY PROGRAM, IN A SANDBOX (cutbox-door.mjs). By AI agents, Wed Nov 11 2026. No macro, syntax, notation, axiom, sorry.
-/
import Derived.Test.YthfdfoigoomaoaaDoorRows
import GoSem.ClaimSeven
namespace Go.Proofs.YthfdfoigoomaoaaDoor
namespace Rows

/-- THE TIED CARD OF 'kerbsuitelaw12.DatabaseChecks'. -/
def databaseChecksCard : Claim7 := { stood := { row := databaseChecksRow, standIns := [], harness := (true, "86da0c24c9236608754bf5c54e3aea5521f45cfe452094d8e1acd59017ce1540"), looks := false }, kinds := [], alts := [], laidByText := true, laidKinds := [.data, .data, .data], laidTests := true, laidLooks := .later }
def DatabaseChecksCardSaid : Prop := Claim7.holds Tryd.pinned (.plain (OpenSpec.ofChange databaseChecksSpec)) databaseChecksCard

/-- THE TIED CARD OF 'kerbsuitelaw12.DatabaseFinds'. -/
def databaseFindsCard : Claim7 := { stood := { row := databaseFindsRow, standIns := [], harness := (true, "86da0c24c9236608754bf5c54e3aea5521f45cfe452094d8e1acd59017ce1540"), looks := false }, kinds := [], alts := [], laidByText := true, laidKinds := [.data, .data, .data], laidTests := true, laidLooks := .later }
def DatabaseFindsCardSaid : Prop := Claim7.holds Tryd.pinned (.plain (OpenSpec.ofChange databaseFindsSpec)) databaseFindsCard

/-- THE TIED CARD OF 'kerbsuitelaw12.DatabaseKeeps'. -/
def databaseKeepsCard : Claim7 := { stood := { row := databaseKeepsRow, standIns := [], harness := (true, "86da0c24c9236608754bf5c54e3aea5521f45cfe452094d8e1acd59017ce1540"), looks := false }, kinds := [], alts := [], laidByText := true, laidKinds := [.data, .data, .data], laidTests := true, laidLooks := .later }
def DatabaseKeepsCardSaid : Prop := Claim7.holds Tryd.pinned (.plain (OpenSpec.ofChange databaseKeepsSpec)) databaseKeepsCard

/-- THE TIED CARD OF 'kerbsuitelaw12.DatabaseChanges'. -/
def databaseChangesCard : Claim7 := { stood := { row := databaseChangesRow, standIns := [], harness := (true, "86da0c24c9236608754bf5c54e3aea5521f45cfe452094d8e1acd59017ce1540"), looks := false }, kinds := [], alts := [], laidByText := true, laidKinds := [.data, .data, .data], laidTests := true, laidLooks := .later }
def DatabaseChangesCardSaid : Prop := Claim7.holds Tryd.pinned (.plain (OpenSpec.ofChange databaseChangesSpec)) databaseChangesCard

/-- THE SECOND FORM's CARD OF 'kerbsuitelaw12.DatabaseChecks'. -/
def databaseChecksUptoCard : Claim7 := { stood := { row := databaseChecksUptoRow, standIns := [], harness := (true, "86da0c24c9236608754bf5c54e3aea5521f45cfe452094d8e1acd59017ce1540"), looks := false }, kinds := [], alts := [], laidByText := true, laidKinds := [.data, .data, .data], laidTests := true, laidLooks := .later }
def DatabaseChecksUptoCardSaid : Prop := Claim7.holds Tryd.pinned (.plain (OpenSpec.upto databaseChecksSpec)) databaseChecksUptoCard

/-- THE SECOND FORM's CARD OF 'kerbsuitelaw12.DatabaseFinds'. -/
def databaseFindsUptoCard : Claim7 := { stood := { row := databaseFindsUptoRow, standIns := [], harness := (true, "86da0c24c9236608754bf5c54e3aea5521f45cfe452094d8e1acd59017ce1540"), looks := false }, kinds := [], alts := [], laidByText := true, laidKinds := [.data, .data, .data], laidTests := true, laidLooks := .later }
def DatabaseFindsUptoCardSaid : Prop := Claim7.holds Tryd.pinned (.plain (OpenSpec.upto databaseFindsSpec)) databaseFindsUptoCard

/-- THE SECOND FORM's CARD OF 'kerbsuitelaw12.DatabaseKeeps'. -/
def databaseKeepsUptoCard : Claim7 := { stood := { row := databaseKeepsUptoRow, standIns := [], harness := (true, "86da0c24c9236608754bf5c54e3aea5521f45cfe452094d8e1acd59017ce1540"), looks := false }, kinds := [], alts := [], laidByText := true, laidKinds := [.data, .data, .data], laidTests := true, laidLooks := .later }
def DatabaseKeepsUptoCardSaid : Prop := Claim7.holds Tryd.pinned (.plain (OpenSpec.upto databaseKeepsSpec)) databaseKeepsUptoCard

/-- THE SECOND FORM's CARD OF 'kerbsuitelaw12.DatabaseChanges'. -/
def databaseChangesUptoCard : Claim7 := { stood := { row := databaseChangesUptoRow, standIns := [], harness := (true, "86da0c24c9236608754bf5c54e3aea5521f45cfe452094d8e1acd59017ce1540"), looks := false }, kinds := [], alts := [], laidByText := true, laidKinds := [.data, .data, .data], laidTests := true, laidLooks := .later }
def DatabaseChangesUptoCardSaid : Prop := Claim7.holds Tryd.pinned (.plain (OpenSpec.upto databaseChangesSpec)) databaseChangesUptoCard
end Rows
end Go.Proofs.YthfdfoigoomaoaaDoor
