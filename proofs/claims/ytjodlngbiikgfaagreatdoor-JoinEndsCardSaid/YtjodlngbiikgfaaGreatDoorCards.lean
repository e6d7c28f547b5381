/-
  DERIVED. GIVEN WITH THE SEED: THE CARDS: each row of YtjodlngbiikgfaaGreatDoorRows.lean that lists a variable, with what it lists TIED to the program's text (the seventh form; the later family's looks); each row that meets fmt, with fmt's text TOLD by the authors' own Lean function (tested against real Go, not proved from fmt's source: count such statements apart). THE CARD IS WHAT COUNTS. Prove the row's statement (the work); the ties are given (YtjodlngbiikgfaaGreatDoorTie.lean); close each card by the builder's one call (the guide's Derived/Test/ToyasCard.lean, 'card_holds'). Laid BY PROGRAM, IN A SANDBOX (cutbox-door.mjs). By AI agents, Wed Nov 11 2026. No macro, syntax, notation, axiom, sorry.
-/
import Derived.Test.YtjodlngbiikgfaaGreatDoorRows
import GoSem.ClaimSeven
namespace Go.Proofs.YtjodlngbiikgfaaGreatDoor
namespace Rows

/-- THE TIED CARD OF 'meetwaterlaw.JoinChecks'. -/
def joinChecksCard : Claim7 := { stood := { row := joinChecksRow, standIns := [], harness := (true, "68ad5181f42c0d7a190b41d655419af232b5126ee5f36063b78c1f83ae41115f"), looks := false }, kinds := [], alts := [], laidByText := true, laidKinds := [.data, .pinned], laidTests := true, laidLooks := .later }
def JoinChecksCardSaid : Prop := Claim7.holds Tryz.pinned (.plain (OpenSpec.ofChange joinChecksSpec)) joinChecksCard

/-- THE TIED CARD OF 'meetwaterlaw.JoinSteps'. -/
def joinStepsCard : Claim7 := { stood := { row := joinStepsRow, standIns := [], harness := (true, "68ad5181f42c0d7a190b41d655419af232b5126ee5f36063b78c1f83ae41115f"), looks := false }, kinds := [], alts := [], laidByText := true, laidKinds := [.data, .pinned], laidTests := true, laidLooks := .later }
def JoinStepsCardSaid : Prop := Claim7.holds Tryz.pinned (.plain (OpenSpec.ofChange joinStepsSpec)) joinStepsCard

/-- THE TIED CARD OF 'meetwaterlaw.JoinPlays'. -/
def joinPlaysCard : Claim7 := { stood := { row := joinPlaysRow, standIns := [], harness := (true, "68ad5181f42c0d7a190b41d655419af232b5126ee5f36063b78c1f83ae41115f"), looks := false }, kinds := [], alts := [], laidByText := true, laidKinds := [.data, .pinned], laidTests := true, laidLooks := .later }
def JoinPlaysCardSaid : Prop := Claim7.holds Tryz.pinned (.plain (OpenSpec.ofChange joinPlaysSpec)) joinPlaysCard

/-- THE TIED CARD OF 'meetwaterlaw.JoinOnly'. -/
def joinOnlyCard : Claim7 := { stood := { row := joinOnlyRow, standIns := [], harness := (true, "68ad5181f42c0d7a190b41d655419af232b5126ee5f36063b78c1f83ae41115f"), looks := false }, kinds := [], alts := [], laidByText := true, laidKinds := [.data, .pinned], laidTests := true, laidLooks := .later }
def JoinOnlyCardSaid : Prop := Claim7.holds Tryz.pinned (.plain (OpenSpec.ofChange joinOnlySpec)) joinOnlyCard

/-- THE TIED CARD OF 'meetwaterlaw.JoinLean'. -/
def joinLeanCard : Claim7 := { stood := { row := joinLeanRow, standIns := [], harness := (true, "68ad5181f42c0d7a190b41d655419af232b5126ee5f36063b78c1f83ae41115f"), looks := false }, kinds := [], alts := [], laidByText := true, laidKinds := [.data, .pinned], laidTests := true, laidLooks := .later }
def JoinLeanCardSaid : Prop := Claim7.holds Tryz.pinned (.plain (OpenSpec.ofChange joinLeanSpec)) joinLeanCard

/-- THE TIED CARD OF 'meetwaterlaw.JoinEnds'. -/
def joinEndsCard : Claim7 := { stood := { row := joinEndsRow, standIns := [], harness := (true, "68ad5181f42c0d7a190b41d655419af232b5126ee5f36063b78c1f83ae41115f"), looks := false }, kinds := [], alts := [], laidByText := true, laidKinds := [.data, .pinned], laidTests := true, laidLooks := .later }
def JoinEndsCardSaid : Prop := Claim7.holds Tryz.pinned (.plain (OpenSpec.ofChange joinEndsSpec)) joinEndsCard

/-- THE TIED CARD OF 'meetwaterlaw.JoinAlways'. -/
def joinAlwaysCard : Claim7 := { stood := { row := joinAlwaysRow, standIns := [], harness := (true, "68ad5181f42c0d7a190b41d655419af232b5126ee5f36063b78c1f83ae41115f"), looks := false }, kinds := [], alts := [], laidByText := true, laidKinds := [.data, .pinned], laidTests := true, laidLooks := .later }
def JoinAlwaysCardSaid : Prop := Claim7.holds Tryz.pinned (.plain (OpenSpec.ofChange joinAlwaysSpec)) joinAlwaysCard

/-- THE SECOND FORM's CARD OF 'meetwaterlaw.JoinChecks'. -/
def joinChecksUptoCard : Claim7 := { stood := { row := joinChecksUptoRow, standIns := [], harness := (true, "68ad5181f42c0d7a190b41d655419af232b5126ee5f36063b78c1f83ae41115f"), looks := false }, kinds := [], alts := [], laidByText := true, laidKinds := [.data, .pinned], laidTests := true, laidLooks := .later }
def JoinChecksUptoCardSaid : Prop := Claim7.holds Tryz.pinned (.plain (OpenSpec.upto joinChecksSpec)) joinChecksUptoCard

/-- THE SECOND FORM's CARD OF 'meetwaterlaw.JoinSteps'. -/
def joinStepsUptoCard : Claim7 := { stood := { row := joinStepsUptoRow, standIns := [], harness := (true, "68ad5181f42c0d7a190b41d655419af232b5126ee5f36063b78c1f83ae41115f"), looks := false }, kinds := [], alts := [], laidByText := true, laidKinds := [.data, .pinned], laidTests := true, laidLooks := .later }
def JoinStepsUptoCardSaid : Prop := Claim7.holds Tryz.pinned (.plain (OpenSpec.upto joinStepsSpec)) joinStepsUptoCard

/-- THE SECOND FORM's CARD OF 'meetwaterlaw.JoinPlays'. -/
def joinPlaysUptoCard : Claim7 := { stood := { row := joinPlaysUptoRow, standIns := [], harness := (true, "68ad5181f42c0d7a190b41d655419af232b5126ee5f36063b78c1f83ae41115f"), looks := false }, kinds := [], alts := [], laidByText := true, laidKinds := [.data, .pinned], laidTests := true, laidLooks := .later }
def JoinPlaysUptoCardSaid : Prop := Claim7.holds Tryz.pinned (.plain (OpenSpec.upto joinPlaysSpec)) joinPlaysUptoCard

/-- THE SECOND FORM's CARD OF 'meetwaterlaw.JoinOnly'. -/
def joinOnlyUptoCard : Claim7 := { stood := { row := joinOnlyUptoRow, standIns := [], harness := (true, "68ad5181f42c0d7a190b41d655419af232b5126ee5f36063b78c1f83ae41115f"), looks := false }, kinds := [], alts := [], laidByText := true, laidKinds := [.data, .pinned], laidTests := true, laidLooks := .later }
def JoinOnlyUptoCardSaid : Prop := Claim7.holds Tryz.pinned (.plain (OpenSpec.upto joinOnlySpec)) joinOnlyUptoCard

/-- THE SECOND FORM's CARD OF 'meetwaterlaw.JoinLean'. -/
def joinLeanUptoCard : Claim7 := { stood := { row := joinLeanUptoRow, standIns := [], harness := (true, "68ad5181f42c0d7a190b41d655419af232b5126ee5f36063b78c1f83ae41115f"), looks := false }, kinds := [], alts := [], laidByText := true, laidKinds := [.data, .pinned], laidTests := true, laidLooks := .later }
def JoinLeanUptoCardSaid : Prop := Claim7.holds Tryz.pinned (.plain (OpenSpec.upto joinLeanSpec)) joinLeanUptoCard

/-- THE SECOND FORM's CARD OF 'meetwaterlaw.JoinEnds'. -/
def joinEndsUptoCard : Claim7 := { stood := { row := joinEndsUptoRow, standIns := [], harness := (true, "68ad5181f42c0d7a190b41d655419af232b5126ee5f36063b78c1f83ae41115f"), looks := false }, kinds := [], alts := [], laidByText := true, laidKinds := [.data, .pinned], laidTests := true, laidLooks := .later }
def JoinEndsUptoCardSaid : Prop := Claim7.holds Tryz.pinned (.plain (OpenSpec.upto joinEndsSpec)) joinEndsUptoCard

/-- THE SECOND FORM's CARD OF 'meetwaterlaw.JoinAlways'. -/
def joinAlwaysUptoCard : Claim7 := { stood := { row := joinAlwaysUptoRow, standIns := [], harness := (true, "68ad5181f42c0d7a190b41d655419af232b5126ee5f36063b78c1f83ae41115f"), looks := false }, kinds := [], alts := [], laidByText := true, laidKinds := [.data, .pinned], laidTests := true, laidLooks := .later }
def JoinAlwaysUptoCardSaid : Prop := Claim7.holds Tryz.pinned (.plain (OpenSpec.upto joinAlwaysSpec)) joinAlwaysUptoCard
end Rows
end Go.Proofs.YtjodlngbiikgfaaGreatDoor
