/-
  DERIVED. GIVEN WITH THE SEED: THE CARDS: each row of YtjhbeecmdgglgaaGreatDoorRows.lean that lists a variable, with what it lists TIED to the program's text (the seventh form; the later family's looks); each row that meets fmt, with fmt's text TOLD by the authors' own Lean function (tested against real Go, not proved from fmt's source: count such statements apart). THE CARD IS WHAT COUNTS. Prove the row's statement (the work); the ties are given (YtjhbeecmdgglgaaGreatDoorTie.lean); close each card by the builder's one call (the guide's Derived/Test/ToyasCard.lean, 'card_holds'). Laid BY PROGRAM, IN A SANDBOX (cutbox-door.mjs). By AI agents, Wed Nov 11 2026. No macro, syntax, notation, axiom, sorry.
-/
import Derived.Test.YtjhbeecmdgglgaaGreatDoorRows
import GoSem.ClaimSeven
namespace Go.Proofs.YtjhbeecmdgglgaaGreatDoor
namespace Rows

/-- THE TIED CARD OF 'meetwaterlaw.BatchJoins'. -/
def batchJoinsCard : Claim7 := { stood := { row := batchJoinsRow, standIns := [], harness := (true, "91544a017dd27f3f22599d50f226ed4291bcd5ef23b1798ea6b18ebe81931d51"), looks := false }, kinds := [], alts := [], laidByText := true, laidKinds := [.data, .pinned], laidTests := true, laidLooks := .later }
def BatchJoinsCardSaid : Prop := Claim7.holds Tryz.pinned (.plain (OpenSpec.ofChange batchJoinsSpec)) batchJoinsCard

/-- THE TIED CARD OF 'meetwaterlaw.BatchGroups'. -/
def batchGroupsCard : Claim7 := { stood := { row := batchGroupsRow, standIns := [], harness := (true, "91544a017dd27f3f22599d50f226ed4291bcd5ef23b1798ea6b18ebe81931d51"), looks := false }, kinds := [], alts := [], laidByText := true, laidKinds := [.data, .pinned], laidTests := true, laidLooks := .later }
def BatchGroupsCardSaid : Prop := Claim7.holds Tryz.pinned (.plain (OpenSpec.ofChange batchGroupsSpec)) batchGroupsCard

/-- THE TIED CARD OF 'meetwaterlaw.BatchTurns'. -/
def batchTurnsCard : Claim7 := { stood := { row := batchTurnsRow, standIns := [], harness := (true, "91544a017dd27f3f22599d50f226ed4291bcd5ef23b1798ea6b18ebe81931d51"), looks := false }, kinds := [], alts := [], laidByText := true, laidKinds := [.data, .pinned], laidTests := true, laidLooks := .later }
def BatchTurnsCardSaid : Prop := Claim7.holds Tryz.pinned (.plain (OpenSpec.ofChange batchTurnsSpec)) batchTurnsCard

/-- THE TIED CARD OF 'meetwaterlaw.BatchAll'. -/
def batchAllCard : Claim7 := { stood := { row := batchAllRow, standIns := [], harness := (true, "91544a017dd27f3f22599d50f226ed4291bcd5ef23b1798ea6b18ebe81931d51"), looks := false }, kinds := [], alts := [], laidByText := true, laidKinds := [.data, .pinned], laidTests := true, laidLooks := .later }
def BatchAllCardSaid : Prop := Claim7.holds Tryz.pinned (.plain (OpenSpec.ofChange batchAllSpec)) batchAllCard

/-- THE TIED CARD OF 'meetwaterlaw.BatchOrder'. -/
def batchOrderCard : Claim7 := { stood := { row := batchOrderRow, standIns := [], harness := (true, "91544a017dd27f3f22599d50f226ed4291bcd5ef23b1798ea6b18ebe81931d51"), looks := false }, kinds := [], alts := [], laidByText := true, laidKinds := [.data, .pinned], laidTests := true, laidLooks := .later }
def BatchOrderCardSaid : Prop := Claim7.holds Tryz.pinned (.plain (OpenSpec.ofChange batchOrderSpec)) batchOrderCard

/-- THE TIED CARD OF 'meetwaterlaw.BatchKeeps'. -/
def batchKeepsCard : Claim7 := { stood := { row := batchKeepsRow, standIns := [], harness := (true, "91544a017dd27f3f22599d50f226ed4291bcd5ef23b1798ea6b18ebe81931d51"), looks := false }, kinds := [], alts := [], laidByText := true, laidKinds := [.data, .pinned], laidTests := true, laidLooks := .later }
def BatchKeepsCardSaid : Prop := Claim7.holds Tryz.pinned (.plain (OpenSpec.ofChange batchKeepsSpec)) batchKeepsCard

/-- THE TIED CARD OF 'meetwaterlaw.GroupAlways'. -/
def groupAlwaysCard : Claim7 := { stood := { row := groupAlwaysRow, standIns := [], harness := (true, "91544a017dd27f3f22599d50f226ed4291bcd5ef23b1798ea6b18ebe81931d51"), looks := false }, kinds := [], alts := [], laidByText := true, laidKinds := [.data, .pinned], laidTests := true, laidLooks := .later }
def GroupAlwaysCardSaid : Prop := Claim7.holds Tryz.pinned (.plain (OpenSpec.ofChange groupAlwaysSpec)) groupAlwaysCard

/-- THE SECOND FORM's CARD OF 'meetwaterlaw.BatchJoins'. -/
def batchJoinsUptoCard : Claim7 := { stood := { row := batchJoinsUptoRow, standIns := [], harness := (true, "91544a017dd27f3f22599d50f226ed4291bcd5ef23b1798ea6b18ebe81931d51"), looks := false }, kinds := [], alts := [], laidByText := true, laidKinds := [.data, .pinned], laidTests := true, laidLooks := .later }
def BatchJoinsUptoCardSaid : Prop := Claim7.holds Tryz.pinned (.plain (OpenSpec.upto batchJoinsSpec)) batchJoinsUptoCard

/-- THE SECOND FORM's CARD OF 'meetwaterlaw.BatchGroups'. -/
def batchGroupsUptoCard : Claim7 := { stood := { row := batchGroupsUptoRow, standIns := [], harness := (true, "91544a017dd27f3f22599d50f226ed4291bcd5ef23b1798ea6b18ebe81931d51"), looks := false }, kinds := [], alts := [], laidByText := true, laidKinds := [.data, .pinned], laidTests := true, laidLooks := .later }
def BatchGroupsUptoCardSaid : Prop := Claim7.holds Tryz.pinned (.plain (OpenSpec.upto batchGroupsSpec)) batchGroupsUptoCard

/-- THE SECOND FORM's CARD OF 'meetwaterlaw.BatchTurns'. -/
def batchTurnsUptoCard : Claim7 := { stood := { row := batchTurnsUptoRow, standIns := [], harness := (true, "91544a017dd27f3f22599d50f226ed4291bcd5ef23b1798ea6b18ebe81931d51"), looks := false }, kinds := [], alts := [], laidByText := true, laidKinds := [.data, .pinned], laidTests := true, laidLooks := .later }
def BatchTurnsUptoCardSaid : Prop := Claim7.holds Tryz.pinned (.plain (OpenSpec.upto batchTurnsSpec)) batchTurnsUptoCard

/-- THE SECOND FORM's CARD OF 'meetwaterlaw.BatchAll'. -/
def batchAllUptoCard : Claim7 := { stood := { row := batchAllUptoRow, standIns := [], harness := (true, "91544a017dd27f3f22599d50f226ed4291bcd5ef23b1798ea6b18ebe81931d51"), looks := false }, kinds := [], alts := [], laidByText := true, laidKinds := [.data, .pinned], laidTests := true, laidLooks := .later }
def BatchAllUptoCardSaid : Prop := Claim7.holds Tryz.pinned (.plain (OpenSpec.upto batchAllSpec)) batchAllUptoCard

/-- THE SECOND FORM's CARD OF 'meetwaterlaw.BatchOrder'. -/
def batchOrderUptoCard : Claim7 := { stood := { row := batchOrderUptoRow, standIns := [], harness := (true, "91544a017dd27f3f22599d50f226ed4291bcd5ef23b1798ea6b18ebe81931d51"), looks := false }, kinds := [], alts := [], laidByText := true, laidKinds := [.data, .pinned], laidTests := true, laidLooks := .later }
def BatchOrderUptoCardSaid : Prop := Claim7.holds Tryz.pinned (.plain (OpenSpec.upto batchOrderSpec)) batchOrderUptoCard

/-- THE SECOND FORM's CARD OF 'meetwaterlaw.BatchKeeps'. -/
def batchKeepsUptoCard : Claim7 := { stood := { row := batchKeepsUptoRow, standIns := [], harness := (true, "91544a017dd27f3f22599d50f226ed4291bcd5ef23b1798ea6b18ebe81931d51"), looks := false }, kinds := [], alts := [], laidByText := true, laidKinds := [.data, .pinned], laidTests := true, laidLooks := .later }
def BatchKeepsUptoCardSaid : Prop := Claim7.holds Tryz.pinned (.plain (OpenSpec.upto batchKeepsSpec)) batchKeepsUptoCard

/-- THE SECOND FORM's CARD OF 'meetwaterlaw.GroupAlways'. -/
def groupAlwaysUptoCard : Claim7 := { stood := { row := groupAlwaysUptoRow, standIns := [], harness := (true, "91544a017dd27f3f22599d50f226ed4291bcd5ef23b1798ea6b18ebe81931d51"), looks := false }, kinds := [], alts := [], laidByText := true, laidKinds := [.data, .pinned], laidTests := true, laidLooks := .later }
def GroupAlwaysUptoCardSaid : Prop := Claim7.holds Tryz.pinned (.plain (OpenSpec.upto groupAlwaysSpec)) groupAlwaysUptoCard
end Rows
end Go.Proofs.YtjhbeecmdgglgaaGreatDoor
