/-
  DERIVED. GIVEN WITH THE SEED: THE CARDS: each row of YtblhidmkalleoaaGreatDoorRows.lean that lists a variable, with what it lists TIED to the program's text (the seventh form; the later family's looks); each row that meets fmt, with fmt's text TOLD by the authors' own Lean function (tested against real Go, not proved from fmt's source: count such statements apart). THE CARD IS WHAT COUNTS. Prove the row's statement (the work); the ties are given (YtblhidmkalleoaaGreatDoorTie.lean); close each card by the builder's one call (the guide's Derived/Test/ToyasCard.lean, 'card_holds'). Laid BY PROGRAM, IN A SANDBOX (cutbox-door.mjs). By AI agents, Wed Nov 11 2026. No macro, syntax, notation, axiom, sorry.
-/
import Derived.Test.YtblhidmkalleoaaGreatDoorRows
import GoSem.ClaimSeven
namespace Go.Proofs.YtblhidmkalleoaaGreatDoor
namespace Rows

/-- THE TIED CARD OF 'meetwaterlaw.GroupChecks'. -/
def groupChecksCard : Claim7 := { stood := { row := groupChecksRow, standIns := [], harness := (true, "282a0ec4535e487912a109e4e787f6cc75ba3ad3a08b82be5f75e467eeaa2d19"), looks := false }, kinds := [], alts := [], laidByText := true, laidKinds := [.data, .pinned], laidTests := true, laidLooks := .later }
def GroupChecksCardSaid : Prop := Claim7.holds Tryz.pinned (.plain (OpenSpec.ofChange groupChecksSpec)) groupChecksCard

/-- THE TIED CARD OF 'meetwaterlaw.GroupSteps'. -/
def groupStepsCard : Claim7 := { stood := { row := groupStepsRow, standIns := [], harness := (true, "282a0ec4535e487912a109e4e787f6cc75ba3ad3a08b82be5f75e467eeaa2d19"), looks := false }, kinds := [], alts := [], laidByText := true, laidKinds := [.data, .pinned], laidTests := true, laidLooks := .later }
def GroupStepsCardSaid : Prop := Claim7.holds Tryz.pinned (.plain (OpenSpec.ofChange groupStepsSpec)) groupStepsCard

/-- THE TIED CARD OF 'meetwaterlaw.GroupAlways'. -/
def groupAlwaysCard : Claim7 := { stood := { row := groupAlwaysRow, standIns := [], harness := (true, "282a0ec4535e487912a109e4e787f6cc75ba3ad3a08b82be5f75e467eeaa2d19"), looks := false }, kinds := [], alts := [], laidByText := true, laidKinds := [.data, .pinned], laidTests := true, laidLooks := .later }
def GroupAlwaysCardSaid : Prop := Claim7.holds Tryz.pinned (.plain (OpenSpec.ofChange groupAlwaysSpec)) groupAlwaysCard

/-- THE TIED CARD OF 'meetwaterlaw.JoinChecks'. -/
def joinChecksCard : Claim7 := { stood := { row := joinChecksRow, standIns := [], harness := (true, "282a0ec4535e487912a109e4e787f6cc75ba3ad3a08b82be5f75e467eeaa2d19"), looks := false }, kinds := [], alts := [], laidByText := true, laidKinds := [.data, .pinned], laidTests := true, laidLooks := .later }
def JoinChecksCardSaid : Prop := Claim7.holds Tryz.pinned (.plain (OpenSpec.ofChange joinChecksSpec)) joinChecksCard

/-- THE TIED CARD OF 'meetwaterlaw.JoinSteps'. -/
def joinStepsCard : Claim7 := { stood := { row := joinStepsRow, standIns := [], harness := (true, "282a0ec4535e487912a109e4e787f6cc75ba3ad3a08b82be5f75e467eeaa2d19"), looks := false }, kinds := [], alts := [], laidByText := true, laidKinds := [.data, .pinned], laidTests := true, laidLooks := .later }
def JoinStepsCardSaid : Prop := Claim7.holds Tryz.pinned (.plain (OpenSpec.ofChange joinStepsSpec)) joinStepsCard

/-- THE TIED CARD OF 'meetwaterlaw.JoinPlays'. -/
def joinPlaysCard : Claim7 := { stood := { row := joinPlaysRow, standIns := [], harness := (true, "282a0ec4535e487912a109e4e787f6cc75ba3ad3a08b82be5f75e467eeaa2d19"), looks := false }, kinds := [], alts := [], laidByText := true, laidKinds := [.data, .pinned], laidTests := true, laidLooks := .later }
def JoinPlaysCardSaid : Prop := Claim7.holds Tryz.pinned (.plain (OpenSpec.ofChange joinPlaysSpec)) joinPlaysCard

/-- THE TIED CARD OF 'meetwaterlaw.JoinOnly'. -/
def joinOnlyCard : Claim7 := { stood := { row := joinOnlyRow, standIns := [], harness := (true, "282a0ec4535e487912a109e4e787f6cc75ba3ad3a08b82be5f75e467eeaa2d19"), looks := false }, kinds := [], alts := [], laidByText := true, laidKinds := [.data, .pinned], laidTests := true, laidLooks := .later }
def JoinOnlyCardSaid : Prop := Claim7.holds Tryz.pinned (.plain (OpenSpec.ofChange joinOnlySpec)) joinOnlyCard

/-- THE TIED CARD OF 'meetwaterlaw.JoinLean'. -/
def joinLeanCard : Claim7 := { stood := { row := joinLeanRow, standIns := [], harness := (true, "282a0ec4535e487912a109e4e787f6cc75ba3ad3a08b82be5f75e467eeaa2d19"), looks := false }, kinds := [], alts := [], laidByText := true, laidKinds := [.data, .pinned], laidTests := true, laidLooks := .later }
def JoinLeanCardSaid : Prop := Claim7.holds Tryz.pinned (.plain (OpenSpec.ofChange joinLeanSpec)) joinLeanCard

/-- THE TIED CARD OF 'meetwaterlaw.JoinEnds'. -/
def joinEndsCard : Claim7 := { stood := { row := joinEndsRow, standIns := [], harness := (true, "282a0ec4535e487912a109e4e787f6cc75ba3ad3a08b82be5f75e467eeaa2d19"), looks := false }, kinds := [], alts := [], laidByText := true, laidKinds := [.data, .pinned], laidTests := true, laidLooks := .later }
def JoinEndsCardSaid : Prop := Claim7.holds Tryz.pinned (.plain (OpenSpec.ofChange joinEndsSpec)) joinEndsCard

/-- THE TIED CARD OF 'meetwaterlaw.EngineChecks'. -/
def engineChecksCard : Claim7 := { stood := { row := engineChecksRow, standIns := [], harness := (true, "282a0ec4535e487912a109e4e787f6cc75ba3ad3a08b82be5f75e467eeaa2d19"), looks := false }, kinds := [], alts := [], laidByText := true, laidKinds := [.data, .pinned], laidTests := true, laidLooks := .later }
def EngineChecksCardSaid : Prop := Claim7.holds Tryz.pinned (.plain (OpenSpec.ofChange engineChecksSpec)) engineChecksCard

/-- THE TIED CARD OF 'meetwaterlaw.EngineSteps'. -/
def engineStepsCard : Claim7 := { stood := { row := engineStepsRow, standIns := [], harness := (true, "282a0ec4535e487912a109e4e787f6cc75ba3ad3a08b82be5f75e467eeaa2d19"), looks := false }, kinds := [], alts := [], laidByText := true, laidKinds := [.data, .pinned], laidTests := true, laidLooks := .later }
def EngineStepsCardSaid : Prop := Claim7.holds Tryz.pinned (.plain (OpenSpec.ofChange engineStepsSpec)) engineStepsCard

/-- THE TIED CARD OF 'meetwaterlaw.EnginePlays'. -/
def enginePlaysCard : Claim7 := { stood := { row := enginePlaysRow, standIns := [], harness := (true, "282a0ec4535e487912a109e4e787f6cc75ba3ad3a08b82be5f75e467eeaa2d19"), looks := false }, kinds := [], alts := [], laidByText := true, laidKinds := [.data, .pinned], laidTests := true, laidLooks := .later }
def EnginePlaysCardSaid : Prop := Claim7.holds Tryz.pinned (.plain (OpenSpec.ofChange enginePlaysSpec)) enginePlaysCard

/-- THE SECOND FORM's CARD OF 'meetwaterlaw.GroupChecks'. -/
def groupChecksUptoCard : Claim7 := { stood := { row := groupChecksUptoRow, standIns := [], harness := (true, "282a0ec4535e487912a109e4e787f6cc75ba3ad3a08b82be5f75e467eeaa2d19"), looks := false }, kinds := [], alts := [], laidByText := true, laidKinds := [.data, .pinned], laidTests := true, laidLooks := .later }
def GroupChecksUptoCardSaid : Prop := Claim7.holds Tryz.pinned (.plain (OpenSpec.upto groupChecksSpec)) groupChecksUptoCard

/-- THE SECOND FORM's CARD OF 'meetwaterlaw.GroupSteps'. -/
def groupStepsUptoCard : Claim7 := { stood := { row := groupStepsUptoRow, standIns := [], harness := (true, "282a0ec4535e487912a109e4e787f6cc75ba3ad3a08b82be5f75e467eeaa2d19"), looks := false }, kinds := [], alts := [], laidByText := true, laidKinds := [.data, .pinned], laidTests := true, laidLooks := .later }
def GroupStepsUptoCardSaid : Prop := Claim7.holds Tryz.pinned (.plain (OpenSpec.upto groupStepsSpec)) groupStepsUptoCard

/-- THE SECOND FORM's CARD OF 'meetwaterlaw.GroupAlways'. -/
def groupAlwaysUptoCard : Claim7 := { stood := { row := groupAlwaysUptoRow, standIns := [], harness := (true, "282a0ec4535e487912a109e4e787f6cc75ba3ad3a08b82be5f75e467eeaa2d19"), looks := false }, kinds := [], alts := [], laidByText := true, laidKinds := [.data, .pinned], laidTests := true, laidLooks := .later }
def GroupAlwaysUptoCardSaid : Prop := Claim7.holds Tryz.pinned (.plain (OpenSpec.upto groupAlwaysSpec)) groupAlwaysUptoCard

/-- THE SECOND FORM's CARD OF 'meetwaterlaw.JoinChecks'. -/
def joinChecksUptoCard : Claim7 := { stood := { row := joinChecksUptoRow, standIns := [], harness := (true, "282a0ec4535e487912a109e4e787f6cc75ba3ad3a08b82be5f75e467eeaa2d19"), looks := false }, kinds := [], alts := [], laidByText := true, laidKinds := [.data, .pinned], laidTests := true, laidLooks := .later }
def JoinChecksUptoCardSaid : Prop := Claim7.holds Tryz.pinned (.plain (OpenSpec.upto joinChecksSpec)) joinChecksUptoCard

/-- THE SECOND FORM's CARD OF 'meetwaterlaw.JoinSteps'. -/
def joinStepsUptoCard : Claim7 := { stood := { row := joinStepsUptoRow, standIns := [], harness := (true, "282a0ec4535e487912a109e4e787f6cc75ba3ad3a08b82be5f75e467eeaa2d19"), looks := false }, kinds := [], alts := [], laidByText := true, laidKinds := [.data, .pinned], laidTests := true, laidLooks := .later }
def JoinStepsUptoCardSaid : Prop := Claim7.holds Tryz.pinned (.plain (OpenSpec.upto joinStepsSpec)) joinStepsUptoCard

/-- THE SECOND FORM's CARD OF 'meetwaterlaw.JoinPlays'. -/
def joinPlaysUptoCard : Claim7 := { stood := { row := joinPlaysUptoRow, standIns := [], harness := (true, "282a0ec4535e487912a109e4e787f6cc75ba3ad3a08b82be5f75e467eeaa2d19"), looks := false }, kinds := [], alts := [], laidByText := true, laidKinds := [.data, .pinned], laidTests := true, laidLooks := .later }
def JoinPlaysUptoCardSaid : Prop := Claim7.holds Tryz.pinned (.plain (OpenSpec.upto joinPlaysSpec)) joinPlaysUptoCard

/-- THE SECOND FORM's CARD OF 'meetwaterlaw.JoinOnly'. -/
def joinOnlyUptoCard : Claim7 := { stood := { row := joinOnlyUptoRow, standIns := [], harness := (true, "282a0ec4535e487912a109e4e787f6cc75ba3ad3a08b82be5f75e467eeaa2d19"), looks := false }, kinds := [], alts := [], laidByText := true, laidKinds := [.data, .pinned], laidTests := true, laidLooks := .later }
def JoinOnlyUptoCardSaid : Prop := Claim7.holds Tryz.pinned (.plain (OpenSpec.upto joinOnlySpec)) joinOnlyUptoCard

/-- THE SECOND FORM's CARD OF 'meetwaterlaw.JoinLean'. -/
def joinLeanUptoCard : Claim7 := { stood := { row := joinLeanUptoRow, standIns := [], harness := (true, "282a0ec4535e487912a109e4e787f6cc75ba3ad3a08b82be5f75e467eeaa2d19"), looks := false }, kinds := [], alts := [], laidByText := true, laidKinds := [.data, .pinned], laidTests := true, laidLooks := .later }
def JoinLeanUptoCardSaid : Prop := Claim7.holds Tryz.pinned (.plain (OpenSpec.upto joinLeanSpec)) joinLeanUptoCard

/-- THE SECOND FORM's CARD OF 'meetwaterlaw.JoinEnds'. -/
def joinEndsUptoCard : Claim7 := { stood := { row := joinEndsUptoRow, standIns := [], harness := (true, "282a0ec4535e487912a109e4e787f6cc75ba3ad3a08b82be5f75e467eeaa2d19"), looks := false }, kinds := [], alts := [], laidByText := true, laidKinds := [.data, .pinned], laidTests := true, laidLooks := .later }
def JoinEndsUptoCardSaid : Prop := Claim7.holds Tryz.pinned (.plain (OpenSpec.upto joinEndsSpec)) joinEndsUptoCard

/-- THE SECOND FORM's CARD OF 'meetwaterlaw.EngineChecks'. -/
def engineChecksUptoCard : Claim7 := { stood := { row := engineChecksUptoRow, standIns := [], harness := (true, "282a0ec4535e487912a109e4e787f6cc75ba3ad3a08b82be5f75e467eeaa2d19"), looks := false }, kinds := [], alts := [], laidByText := true, laidKinds := [.data, .pinned], laidTests := true, laidLooks := .later }
def EngineChecksUptoCardSaid : Prop := Claim7.holds Tryz.pinned (.plain (OpenSpec.upto engineChecksSpec)) engineChecksUptoCard

/-- THE SECOND FORM's CARD OF 'meetwaterlaw.EngineSteps'. -/
def engineStepsUptoCard : Claim7 := { stood := { row := engineStepsUptoRow, standIns := [], harness := (true, "282a0ec4535e487912a109e4e787f6cc75ba3ad3a08b82be5f75e467eeaa2d19"), looks := false }, kinds := [], alts := [], laidByText := true, laidKinds := [.data, .pinned], laidTests := true, laidLooks := .later }
def EngineStepsUptoCardSaid : Prop := Claim7.holds Tryz.pinned (.plain (OpenSpec.upto engineStepsSpec)) engineStepsUptoCard

/-- THE SECOND FORM's CARD OF 'meetwaterlaw.EnginePlays'. -/
def enginePlaysUptoCard : Claim7 := { stood := { row := enginePlaysUptoRow, standIns := [], harness := (true, "282a0ec4535e487912a109e4e787f6cc75ba3ad3a08b82be5f75e467eeaa2d19"), looks := false }, kinds := [], alts := [], laidByText := true, laidKinds := [.data, .pinned], laidTests := true, laidLooks := .later }
def EnginePlaysUptoCardSaid : Prop := Claim7.holds Tryz.pinned (.plain (OpenSpec.upto enginePlaysSpec)) enginePlaysUptoCard
end Rows
end Go.Proofs.YtblhidmkalleoaaGreatDoor
