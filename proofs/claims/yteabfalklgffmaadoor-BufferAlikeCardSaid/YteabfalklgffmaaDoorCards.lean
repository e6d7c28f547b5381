/-
  DERIVED. GIVEN WITH THE SEED: THE CARDS: each row of YteabfalklgffmaaDoorRows.lean that lists a variable, with what it lists TIED to the program's text (the seventh form; the later family's looks); each row that meets fmt, with fmt's text TOLD by the authors' own Lean function (tested against real Go, not proved from fmt's source: count such statements apart). THE CARD IS WHAT COUNTS. Prove the row's statement (the work); the ties are given (YteabfalklgffmaaDoorTie.lean); close each card by the builder's one call (the guide's Derived/Test/ToyasCard.lean, 'card_holds'). Laid BY PROGRAM, IN A SANDBOX (cutbox-door.mjs). By AI agents, Wed Nov 11 2026. No macro, syntax, notation, axiom, sorry.
-/
import Derived.Test.YteabfalklgffmaaDoorRows
import GoSem.ClaimSeven
namespace Go.Proofs.YteabfalklgffmaaDoor
namespace Rows

/-- THE TIED CARD OF 'meetwaterlaw.BufferPuts'. -/
def bufferPutsCard : Claim7 := { stood := { row := bufferPutsRow, standIns := [], harness := (true, "70d331fee7db6f12613b4bc17ebc707658cd1ff30b51dc977f24b76b03e2c497"), looks := false }, kinds := [], alts := [], laidByText := true, laidKinds := [.data, .pinned], laidTests := true, laidLooks := .later }
def BufferPutsCardSaid : Prop := Claim7.holds Tryd.pinned (.plain (OpenSpec.ofChange bufferPutsSpec)) bufferPutsCard

/-- THE TIED CARD OF 'meetwaterlaw.BufferAlike'. -/
def bufferAlikeCard : Claim7 := { stood := { row := bufferAlikeRow, standIns := [], harness := (true, "70d331fee7db6f12613b4bc17ebc707658cd1ff30b51dc977f24b76b03e2c497"), looks := false }, kinds := [], alts := [], laidByText := true, laidKinds := [.data, .pinned], laidTests := true, laidLooks := .later }
def BufferAlikeCardSaid : Prop := Claim7.holds Tryd.pinned (.plain (OpenSpec.ofChange bufferAlikeSpec)) bufferAlikeCard

/-- THE SECOND FORM's CARD OF 'meetwaterlaw.BufferPuts'. -/
def bufferPutsUptoCard : Claim7 := { stood := { row := bufferPutsUptoRow, standIns := [], harness := (true, "70d331fee7db6f12613b4bc17ebc707658cd1ff30b51dc977f24b76b03e2c497"), looks := false }, kinds := [], alts := [], laidByText := true, laidKinds := [.data, .pinned], laidTests := true, laidLooks := .later }
def BufferPutsUptoCardSaid : Prop := Claim7.holds Tryd.pinned (.plain (OpenSpec.upto bufferPutsSpec)) bufferPutsUptoCard

/-- THE SECOND FORM's CARD OF 'meetwaterlaw.BufferAlike'. -/
def bufferAlikeUptoCard : Claim7 := { stood := { row := bufferAlikeUptoRow, standIns := [], harness := (true, "70d331fee7db6f12613b4bc17ebc707658cd1ff30b51dc977f24b76b03e2c497"), looks := false }, kinds := [], alts := [], laidByText := true, laidKinds := [.data, .pinned], laidTests := true, laidLooks := .later }
def BufferAlikeUptoCardSaid : Prop := Claim7.holds Tryd.pinned (.plain (OpenSpec.upto bufferAlikeSpec)) bufferAlikeUptoCard
end Rows
end Go.Proofs.YteabfalklgffmaaDoor
