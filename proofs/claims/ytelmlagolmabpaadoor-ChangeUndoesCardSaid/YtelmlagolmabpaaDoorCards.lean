/-
  DERIVED. GIVEN WITH THE SEED: THE CARDS: each row of YtelmlagolmabpaaDoorRows.lean that lists a variable, with what it lists TIED to the program's text (the seventh form; the later family's looks); each row that meets fmt, with fmt's text TOLD by the authors' own Lean function (tested against real Go, not proved from fmt's source: count such statements apart). THE CARD IS WHAT COUNTS. Prove the row's statement (the work); the ties are given (YtelmlagolmabpaaDoorTie.lean); close each card by the builder's one call (the guide's Derived/Test/ToyasCard.lean, 'card_holds'). Laid BY PROGRAM, IN A SANDBOX (cutbox-door.mjs). By AI agents, Wed Nov 11 2026. No macro, syntax, notation, axiom, sorry.
-/
import Derived.Test.YtelmlagolmabpaaDoorRows
import GoSem.ClaimSeven
namespace Go.Proofs.YtelmlagolmabpaaDoor
namespace Rows

/-- THE TIED CARD OF 'meetwaterlaw.PlanChecks'. -/
def planChecksCard : Claim7 := { stood := { row := planChecksRow, standIns := [], harness := (true, "6b1245f374ec0070eb3cfef11259388f3af395c9b1436ad071e8fdb6ea425341"), looks := false }, kinds := [], alts := [], laidByText := true, laidKinds := [.data, .pinned], laidTests := true, laidLooks := .later }
def PlanChecksCardSaid : Prop := Claim7.holds Tryd.pinned (.plain (OpenSpec.ofChange planChecksSpec)) planChecksCard

/-- THE TIED CARD OF 'meetwaterlaw.PlanRows'. -/
def planRowsCard : Claim7 := { stood := { row := planRowsRow, standIns := [], harness := (true, "6b1245f374ec0070eb3cfef11259388f3af395c9b1436ad071e8fdb6ea425341"), looks := false }, kinds := [], alts := [], laidByText := true, laidKinds := [.data, .pinned], laidTests := true, laidLooks := .later }
def PlanRowsCardSaid : Prop := Claim7.holds Tryd.pinned (.plain (OpenSpec.ofChange planRowsSpec)) planRowsCard

/-- THE TIED CARD OF 'meetwaterlaw.PlanGone'. -/
def planGoneCard : Claim7 := { stood := { row := planGoneRow, standIns := [], harness := (true, "6b1245f374ec0070eb3cfef11259388f3af395c9b1436ad071e8fdb6ea425341"), looks := false }, kinds := [], alts := [], laidByText := true, laidKinds := [.data, .pinned], laidTests := true, laidLooks := .later }
def PlanGoneCardSaid : Prop := Claim7.holds Tryd.pinned (.plain (OpenSpec.ofChange planGoneSpec)) planGoneCard

/-- THE TIED CARD OF 'meetwaterlaw.PlanPasses'. -/
def planPassesCard : Claim7 := { stood := { row := planPassesRow, standIns := [], harness := (true, "6b1245f374ec0070eb3cfef11259388f3af395c9b1436ad071e8fdb6ea425341"), looks := false }, kinds := [], alts := [], laidByText := true, laidKinds := [.data, .pinned], laidTests := true, laidLooks := .later }
def PlanPassesCardSaid : Prop := Claim7.holds Tryd.pinned (.plain (OpenSpec.ofChange planPassesSpec)) planPassesCard

/-- THE TIED CARD OF 'meetwaterlaw.ChangeFolds'. -/
def changeFoldsCard : Claim7 := { stood := { row := changeFoldsRow, standIns := [], harness := (true, "6b1245f374ec0070eb3cfef11259388f3af395c9b1436ad071e8fdb6ea425341"), looks := false }, kinds := [], alts := [], laidByText := true, laidKinds := [.data, .pinned], laidTests := true, laidLooks := .later }
def ChangeFoldsCardSaid : Prop := Claim7.holds Tryd.pinned (.plain (OpenSpec.ofChange changeFoldsSpec)) changeFoldsCard

/-- THE TIED CARD OF 'meetwaterlaw.ChangeCuts'. -/
def changeCutsCard : Claim7 := { stood := { row := changeCutsRow, standIns := [], harness := (true, "6b1245f374ec0070eb3cfef11259388f3af395c9b1436ad071e8fdb6ea425341"), looks := false }, kinds := [], alts := [], laidByText := true, laidKinds := [.data, .pinned], laidTests := true, laidLooks := .later }
def ChangeCutsCardSaid : Prop := Claim7.holds Tryd.pinned (.plain (OpenSpec.ofChange changeCutsSpec)) changeCutsCard

/-- THE TIED CARD OF 'meetwaterlaw.ChangeDiffs'. -/
def changeDiffsCard : Claim7 := { stood := { row := changeDiffsRow, standIns := [], harness := (true, "6b1245f374ec0070eb3cfef11259388f3af395c9b1436ad071e8fdb6ea425341"), looks := false }, kinds := [], alts := [], laidByText := true, laidKinds := [.data, .pinned], laidTests := true, laidLooks := .later }
def ChangeDiffsCardSaid : Prop := Claim7.holds Tryd.pinned (.plain (OpenSpec.ofChange changeDiffsSpec)) changeDiffsCard

/-- THE TIED CARD OF 'meetwaterlaw.ChangeMakes'. -/
def changeMakesCard : Claim7 := { stood := { row := changeMakesRow, standIns := [], harness := (true, "6b1245f374ec0070eb3cfef11259388f3af395c9b1436ad071e8fdb6ea425341"), looks := false }, kinds := [], alts := [], laidByText := true, laidKinds := [.data, .pinned], laidTests := true, laidLooks := .later }
def ChangeMakesCardSaid : Prop := Claim7.holds Tryd.pinned (.plain (OpenSpec.ofChange changeMakesSpec)) changeMakesCard

/-- THE TIED CARD OF 'meetwaterlaw.ChangeAdds'. -/
def changeAddsCard : Claim7 := { stood := { row := changeAddsRow, standIns := [], harness := (true, "6b1245f374ec0070eb3cfef11259388f3af395c9b1436ad071e8fdb6ea425341"), looks := false }, kinds := [], alts := [], laidByText := true, laidKinds := [.data, .pinned], laidTests := true, laidLooks := .later }
def ChangeAddsCardSaid : Prop := Claim7.holds Tryd.pinned (.plain (OpenSpec.ofChange changeAddsSpec)) changeAddsCard

/-- THE TIED CARD OF 'meetwaterlaw.ChangeNets'. -/
def changeNetsCard : Claim7 := { stood := { row := changeNetsRow, standIns := [], harness := (true, "6b1245f374ec0070eb3cfef11259388f3af395c9b1436ad071e8fdb6ea425341"), looks := false }, kinds := [], alts := [], laidByText := true, laidKinds := [.data, .pinned], laidTests := true, laidLooks := .later }
def ChangeNetsCardSaid : Prop := Claim7.holds Tryd.pinned (.plain (OpenSpec.ofChange changeNetsSpec)) changeNetsCard

/-- THE TIED CARD OF 'meetwaterlaw.ChangeUndoes'. -/
def changeUndoesCard : Claim7 := { stood := { row := changeUndoesRow, standIns := [], harness := (true, "6b1245f374ec0070eb3cfef11259388f3af395c9b1436ad071e8fdb6ea425341"), looks := false }, kinds := [], alts := [], laidByText := true, laidKinds := [.data, .pinned], laidTests := true, laidLooks := .later }
def ChangeUndoesCardSaid : Prop := Claim7.holds Tryd.pinned (.plain (OpenSpec.ofChange changeUndoesSpec)) changeUndoesCard

/-- THE SECOND FORM's CARD OF 'meetwaterlaw.PlanChecks'. -/
def planChecksUptoCard : Claim7 := { stood := { row := planChecksUptoRow, standIns := [], harness := (true, "6b1245f374ec0070eb3cfef11259388f3af395c9b1436ad071e8fdb6ea425341"), looks := false }, kinds := [], alts := [], laidByText := true, laidKinds := [.data, .pinned], laidTests := true, laidLooks := .later }
def PlanChecksUptoCardSaid : Prop := Claim7.holds Tryd.pinned (.plain (OpenSpec.upto planChecksSpec)) planChecksUptoCard

/-- THE SECOND FORM's CARD OF 'meetwaterlaw.PlanRows'. -/
def planRowsUptoCard : Claim7 := { stood := { row := planRowsUptoRow, standIns := [], harness := (true, "6b1245f374ec0070eb3cfef11259388f3af395c9b1436ad071e8fdb6ea425341"), looks := false }, kinds := [], alts := [], laidByText := true, laidKinds := [.data, .pinned], laidTests := true, laidLooks := .later }
def PlanRowsUptoCardSaid : Prop := Claim7.holds Tryd.pinned (.plain (OpenSpec.upto planRowsSpec)) planRowsUptoCard

/-- THE SECOND FORM's CARD OF 'meetwaterlaw.PlanGone'. -/
def planGoneUptoCard : Claim7 := { stood := { row := planGoneUptoRow, standIns := [], harness := (true, "6b1245f374ec0070eb3cfef11259388f3af395c9b1436ad071e8fdb6ea425341"), looks := false }, kinds := [], alts := [], laidByText := true, laidKinds := [.data, .pinned], laidTests := true, laidLooks := .later }
def PlanGoneUptoCardSaid : Prop := Claim7.holds Tryd.pinned (.plain (OpenSpec.upto planGoneSpec)) planGoneUptoCard

/-- THE SECOND FORM's CARD OF 'meetwaterlaw.PlanPasses'. -/
def planPassesUptoCard : Claim7 := { stood := { row := planPassesUptoRow, standIns := [], harness := (true, "6b1245f374ec0070eb3cfef11259388f3af395c9b1436ad071e8fdb6ea425341"), looks := false }, kinds := [], alts := [], laidByText := true, laidKinds := [.data, .pinned], laidTests := true, laidLooks := .later }
def PlanPassesUptoCardSaid : Prop := Claim7.holds Tryd.pinned (.plain (OpenSpec.upto planPassesSpec)) planPassesUptoCard

/-- THE SECOND FORM's CARD OF 'meetwaterlaw.ChangeFolds'. -/
def changeFoldsUptoCard : Claim7 := { stood := { row := changeFoldsUptoRow, standIns := [], harness := (true, "6b1245f374ec0070eb3cfef11259388f3af395c9b1436ad071e8fdb6ea425341"), looks := false }, kinds := [], alts := [], laidByText := true, laidKinds := [.data, .pinned], laidTests := true, laidLooks := .later }
def ChangeFoldsUptoCardSaid : Prop := Claim7.holds Tryd.pinned (.plain (OpenSpec.upto changeFoldsSpec)) changeFoldsUptoCard

/-- THE SECOND FORM's CARD OF 'meetwaterlaw.ChangeCuts'. -/
def changeCutsUptoCard : Claim7 := { stood := { row := changeCutsUptoRow, standIns := [], harness := (true, "6b1245f374ec0070eb3cfef11259388f3af395c9b1436ad071e8fdb6ea425341"), looks := false }, kinds := [], alts := [], laidByText := true, laidKinds := [.data, .pinned], laidTests := true, laidLooks := .later }
def ChangeCutsUptoCardSaid : Prop := Claim7.holds Tryd.pinned (.plain (OpenSpec.upto changeCutsSpec)) changeCutsUptoCard

/-- THE SECOND FORM's CARD OF 'meetwaterlaw.ChangeDiffs'. -/
def changeDiffsUptoCard : Claim7 := { stood := { row := changeDiffsUptoRow, standIns := [], harness := (true, "6b1245f374ec0070eb3cfef11259388f3af395c9b1436ad071e8fdb6ea425341"), looks := false }, kinds := [], alts := [], laidByText := true, laidKinds := [.data, .pinned], laidTests := true, laidLooks := .later }
def ChangeDiffsUptoCardSaid : Prop := Claim7.holds Tryd.pinned (.plain (OpenSpec.upto changeDiffsSpec)) changeDiffsUptoCard

/-- THE SECOND FORM's CARD OF 'meetwaterlaw.ChangeMakes'. -/
def changeMakesUptoCard : Claim7 := { stood := { row := changeMakesUptoRow, standIns := [], harness := (true, "6b1245f374ec0070eb3cfef11259388f3af395c9b1436ad071e8fdb6ea425341"), looks := false }, kinds := [], alts := [], laidByText := true, laidKinds := [.data, .pinned], laidTests := true, laidLooks := .later }
def ChangeMakesUptoCardSaid : Prop := Claim7.holds Tryd.pinned (.plain (OpenSpec.upto changeMakesSpec)) changeMakesUptoCard

/-- THE SECOND FORM's CARD OF 'meetwaterlaw.ChangeAdds'. -/
def changeAddsUptoCard : Claim7 := { stood := { row := changeAddsUptoRow, standIns := [], harness := (true, "6b1245f374ec0070eb3cfef11259388f3af395c9b1436ad071e8fdb6ea425341"), looks := false }, kinds := [], alts := [], laidByText := true, laidKinds := [.data, .pinned], laidTests := true, laidLooks := .later }
def ChangeAddsUptoCardSaid : Prop := Claim7.holds Tryd.pinned (.plain (OpenSpec.upto changeAddsSpec)) changeAddsUptoCard

/-- THE SECOND FORM's CARD OF 'meetwaterlaw.ChangeNets'. -/
def changeNetsUptoCard : Claim7 := { stood := { row := changeNetsUptoRow, standIns := [], harness := (true, "6b1245f374ec0070eb3cfef11259388f3af395c9b1436ad071e8fdb6ea425341"), looks := false }, kinds := [], alts := [], laidByText := true, laidKinds := [.data, .pinned], laidTests := true, laidLooks := .later }
def ChangeNetsUptoCardSaid : Prop := Claim7.holds Tryd.pinned (.plain (OpenSpec.upto changeNetsSpec)) changeNetsUptoCard

/-- THE SECOND FORM's CARD OF 'meetwaterlaw.ChangeUndoes'. -/
def changeUndoesUptoCard : Claim7 := { stood := { row := changeUndoesUptoRow, standIns := [], harness := (true, "6b1245f374ec0070eb3cfef11259388f3af395c9b1436ad071e8fdb6ea425341"), looks := false }, kinds := [], alts := [], laidByText := true, laidKinds := [.data, .pinned], laidTests := true, laidLooks := .later }
def ChangeUndoesUptoCardSaid : Prop := Claim7.holds Tryd.pinned (.plain (OpenSpec.upto changeUndoesSpec)) changeUndoesUptoCard
end Rows
end Go.Proofs.YtelmlagolmabpaaDoor
