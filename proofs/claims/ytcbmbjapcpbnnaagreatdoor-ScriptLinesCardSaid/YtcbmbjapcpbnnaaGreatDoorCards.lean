/-
  DERIVED. GIVEN WITH THE SEED: THE CARDS: each row of YtcbmbjapcpbnnaaGreatDoorRows.lean that lists a variable, with what it lists TIED to the program's text (the seventh form; the later family's looks); each row that meets fmt, with fmt's text TOLD by the authors' own Lean function (tested against real Go, not proved from fmt's source: count such statements apart). THE CARD IS WHAT COUNTS. Prove the row's statement (the work); the ties are given (YtcbmbjapcpbnnaaGreatDoorTie.lean); close each card by the builder's one call (the guide's Derived/Test/ToyasCard.lean, 'card_holds'). Laid BY PROGRAM, IN A SANDBOX (cutbox-door.mjs). By AI agents, Wed Nov 11 2026. No macro, syntax, notation, axiom, sorry.
-/
import Derived.Test.YtcbmbjapcpbnnaaGreatDoorRows
import GoSem.ClaimSeven
namespace Go.Proofs.YtcbmbjapcpbnnaaGreatDoor
namespace Rows

/-- THE TIED CARD OF 'dolmenlaw26.HistBack'. -/
def histBackCard : Claim7 := { stood := { row := histBackRow, standIns := [], harness := (true, "a22b5a09513eadfc8eb9f73b1712e3845209475275b62b912a518ae4474ad52f"), looks := true }, kinds := [], alts := [], laidByText := true, laidKinds := [.data, .data, .data, .data, .sentinel, .sentinel, .pinned], laidTests := true, laidLooks := .later }
def HistBackCardSaid : Prop := Claim7.holds Tryz.pinned (.plain (OpenSpec.ofChange histBackSpec)) histBackCard

/-- THE TIED CARD OF 'dolmenlaw26.HistLines'. -/
def histLinesCard : Claim7 := { stood := { row := histLinesRow, standIns := [], harness := (true, "a22b5a09513eadfc8eb9f73b1712e3845209475275b62b912a518ae4474ad52f"), looks := true }, kinds := [], alts := [], laidByText := true, laidKinds := [.data, .data, .data, .data, .sentinel, .sentinel, .pinned], laidTests := true, laidLooks := .later }
def HistLinesCardSaid : Prop := Claim7.holds Tryz.pinned (.plain (OpenSpec.ofChange histLinesSpec)) histLinesCard

/-- THE TIED CARD OF 'dolmenlaw29.ScriptBack'. -/
def scriptBackCard : Claim7 := { stood := { row := scriptBackRow, standIns := [], harness := (true, "a22b5a09513eadfc8eb9f73b1712e3845209475275b62b912a518ae4474ad52f"), looks := true }, kinds := [], alts := [], laidByText := true, laidKinds := [.data, .data, .data, .data, .sentinel, .sentinel, .pinned], laidTests := true, laidLooks := .later }
def ScriptBackCardSaid : Prop := Claim7.holds Tryz.pinned (.plain (OpenSpec.ofChange scriptBackSpec)) scriptBackCard

/-- THE TIED CARD OF 'dolmenlaw29.ScriptLines'. -/
def scriptLinesCard : Claim7 := { stood := { row := scriptLinesRow, standIns := [], harness := (true, "a22b5a09513eadfc8eb9f73b1712e3845209475275b62b912a518ae4474ad52f"), looks := true }, kinds := [], alts := [], laidByText := true, laidKinds := [.data, .data, .data, .data, .sentinel, .sentinel, .pinned], laidTests := true, laidLooks := .later }
def ScriptLinesCardSaid : Prop := Claim7.holds Tryz.pinned (.plain (OpenSpec.ofChange scriptLinesSpec)) scriptLinesCard

/-- THE TIED CARD OF 'dolmenlaw29.ScriptCrash'. -/
def scriptCrashCard : Claim7 := { stood := { row := scriptCrashRow, standIns := [], harness := (true, "a22b5a09513eadfc8eb9f73b1712e3845209475275b62b912a518ae4474ad52f"), looks := true }, kinds := [], alts := [], laidByText := true, laidKinds := [.data, .data, .data, .data, .sentinel, .sentinel, .pinned], laidTests := true, laidLooks := .later }
def ScriptCrashCardSaid : Prop := Claim7.holds Tryz.pinned (.plain (OpenSpec.ofChange scriptCrashSpec)) scriptCrashCard

/-- THE TIED CARD OF 'dolmenlaw29.ScriptNotes'. -/
def scriptNotesCard : Claim7 := { stood := { row := scriptNotesRow, standIns := [], harness := (true, "a22b5a09513eadfc8eb9f73b1712e3845209475275b62b912a518ae4474ad52f"), looks := true }, kinds := [], alts := [], laidByText := true, laidKinds := [.data, .data, .data, .data, .sentinel, .sentinel, .pinned], laidTests := true, laidLooks := .later }
def ScriptNotesCardSaid : Prop := Claim7.holds Tryz.pinned (.plain (OpenSpec.ofChange scriptNotesSpec)) scriptNotesCard

/-- THE SECOND FORM's CARD OF 'dolmenlaw26.HistBack'. -/
def histBackUptoCard : Claim7 := { stood := { row := histBackUptoRow, standIns := [], harness := (true, "a22b5a09513eadfc8eb9f73b1712e3845209475275b62b912a518ae4474ad52f"), looks := true }, kinds := [], alts := [], laidByText := true, laidKinds := [.data, .data, .data, .data, .sentinel, .sentinel, .pinned], laidTests := true, laidLooks := .later }
def HistBackUptoCardSaid : Prop := Claim7.holds Tryz.pinned (.plain (OpenSpec.upto histBackSpec)) histBackUptoCard

/-- THE SECOND FORM's CARD OF 'dolmenlaw26.HistLines'. -/
def histLinesUptoCard : Claim7 := { stood := { row := histLinesUptoRow, standIns := [], harness := (true, "a22b5a09513eadfc8eb9f73b1712e3845209475275b62b912a518ae4474ad52f"), looks := true }, kinds := [], alts := [], laidByText := true, laidKinds := [.data, .data, .data, .data, .sentinel, .sentinel, .pinned], laidTests := true, laidLooks := .later }
def HistLinesUptoCardSaid : Prop := Claim7.holds Tryz.pinned (.plain (OpenSpec.upto histLinesSpec)) histLinesUptoCard

/-- THE SECOND FORM's CARD OF 'dolmenlaw29.ScriptBack'. -/
def scriptBackUptoCard : Claim7 := { stood := { row := scriptBackUptoRow, standIns := [], harness := (true, "a22b5a09513eadfc8eb9f73b1712e3845209475275b62b912a518ae4474ad52f"), looks := true }, kinds := [], alts := [], laidByText := true, laidKinds := [.data, .data, .data, .data, .sentinel, .sentinel, .pinned], laidTests := true, laidLooks := .later }
def ScriptBackUptoCardSaid : Prop := Claim7.holds Tryz.pinned (.plain (OpenSpec.upto scriptBackSpec)) scriptBackUptoCard

/-- THE SECOND FORM's CARD OF 'dolmenlaw29.ScriptLines'. -/
def scriptLinesUptoCard : Claim7 := { stood := { row := scriptLinesUptoRow, standIns := [], harness := (true, "a22b5a09513eadfc8eb9f73b1712e3845209475275b62b912a518ae4474ad52f"), looks := true }, kinds := [], alts := [], laidByText := true, laidKinds := [.data, .data, .data, .data, .sentinel, .sentinel, .pinned], laidTests := true, laidLooks := .later }
def ScriptLinesUptoCardSaid : Prop := Claim7.holds Tryz.pinned (.plain (OpenSpec.upto scriptLinesSpec)) scriptLinesUptoCard

/-- THE SECOND FORM's CARD OF 'dolmenlaw29.ScriptCrash'. -/
def scriptCrashUptoCard : Claim7 := { stood := { row := scriptCrashUptoRow, standIns := [], harness := (true, "a22b5a09513eadfc8eb9f73b1712e3845209475275b62b912a518ae4474ad52f"), looks := true }, kinds := [], alts := [], laidByText := true, laidKinds := [.data, .data, .data, .data, .sentinel, .sentinel, .pinned], laidTests := true, laidLooks := .later }
def ScriptCrashUptoCardSaid : Prop := Claim7.holds Tryz.pinned (.plain (OpenSpec.upto scriptCrashSpec)) scriptCrashUptoCard

/-- THE SECOND FORM's CARD OF 'dolmenlaw29.ScriptNotes'. -/
def scriptNotesUptoCard : Claim7 := { stood := { row := scriptNotesUptoRow, standIns := [], harness := (true, "a22b5a09513eadfc8eb9f73b1712e3845209475275b62b912a518ae4474ad52f"), looks := true }, kinds := [], alts := [], laidByText := true, laidKinds := [.data, .data, .data, .data, .sentinel, .sentinel, .pinned], laidTests := true, laidLooks := .later }
def ScriptNotesUptoCardSaid : Prop := Claim7.holds Tryz.pinned (.plain (OpenSpec.upto scriptNotesSpec)) scriptNotesUptoCard
end Rows
end Go.Proofs.YtcbmbjapcpbnnaaGreatDoor
