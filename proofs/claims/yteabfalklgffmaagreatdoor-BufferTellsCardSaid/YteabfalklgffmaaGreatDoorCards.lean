/-
  DERIVED. GIVEN WITH THE SEED: THE CARDS: each row of YteabfalklgffmaaGreatDoorRows.lean that lists a variable, with what it lists TIED to the program's text (the seventh form; the later family's looks); each row that meets fmt, with fmt's text TOLD by the authors' own Lean function (tested against real Go, not proved from fmt's source: count such statements apart). THE CARD IS WHAT COUNTS. Prove the row's statement (the work); the ties are given (YteabfalklgffmaaGreatDoorTie.lean); close each card by the builder's one call (the guide's Derived/Test/ToyasCard.lean, 'card_holds'). Laid BY PROGRAM, IN A SANDBOX (cutbox-door.mjs). By AI agents, Wed Nov 11 2026. No macro, syntax, notation, axiom, sorry.
-/
import Derived.Test.YteabfalklgffmaaGreatDoorRows
import GoSem.ClaimSeven
namespace Go.Proofs.YteabfalklgffmaaGreatDoor
namespace Rows

/-- THE TIED CARD OF 'meetwaterlaw.BufferTurns'. -/
def bufferTurnsCard : Claim7 := { stood := { row := bufferTurnsRow, standIns := [], harness := (true, "81f29db49b58eac54bcc270979e463028199b981335d1f2b86f4e76119dae1a6"), looks := false }, kinds := [], alts := [], laidByText := true, laidKinds := [.data, .pinned], laidTests := true, laidLooks := .later }
def BufferTurnsCardSaid : Prop := Claim7.holds Tryz.pinned (.plain (OpenSpec.ofChange bufferTurnsSpec)) bufferTurnsCard

/-- THE TIED CARD OF 'meetwaterlaw.BufferTells'. -/
def bufferTellsCard : Claim7 := { stood := { row := bufferTellsRow, standIns := [], harness := (true, "81f29db49b58eac54bcc270979e463028199b981335d1f2b86f4e76119dae1a6"), looks := false }, kinds := [], alts := [], laidByText := true, laidKinds := [.data, .pinned], laidTests := true, laidLooks := .later }
def BufferTellsCardSaid : Prop := Claim7.holds Tryz.pinned (.plain (OpenSpec.ofChange bufferTellsSpec)) bufferTellsCard

/-- THE SECOND FORM's CARD OF 'meetwaterlaw.BufferTurns'. -/
def bufferTurnsUptoCard : Claim7 := { stood := { row := bufferTurnsUptoRow, standIns := [], harness := (true, "81f29db49b58eac54bcc270979e463028199b981335d1f2b86f4e76119dae1a6"), looks := false }, kinds := [], alts := [], laidByText := true, laidKinds := [.data, .pinned], laidTests := true, laidLooks := .later }
def BufferTurnsUptoCardSaid : Prop := Claim7.holds Tryz.pinned (.plain (OpenSpec.upto bufferTurnsSpec)) bufferTurnsUptoCard

/-- THE SECOND FORM's CARD OF 'meetwaterlaw.BufferTells'. -/
def bufferTellsUptoCard : Claim7 := { stood := { row := bufferTellsUptoRow, standIns := [], harness := (true, "81f29db49b58eac54bcc270979e463028199b981335d1f2b86f4e76119dae1a6"), looks := false }, kinds := [], alts := [], laidByText := true, laidKinds := [.data, .pinned], laidTests := true, laidLooks := .later }
def BufferTellsUptoCardSaid : Prop := Claim7.holds Tryz.pinned (.plain (OpenSpec.upto bufferTellsSpec)) bufferTellsUptoCard
end Rows
end Go.Proofs.YteabfalklgffmaaGreatDoor
