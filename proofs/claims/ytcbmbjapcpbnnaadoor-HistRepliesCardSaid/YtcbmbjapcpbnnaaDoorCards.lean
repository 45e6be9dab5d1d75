/-
  DERIVED. GIVEN WITH THE SEED: THE CARDS: each row of YtcbmbjapcpbnnaaDoorRows.lean that lists a variable, with what it lists TIED to the program's text (the seventh form; the later family's looks); each row that meets fmt, with fmt's text TOLD by the authors' own Lean function (tested against real Go, not proved from fmt's source: count such statements apart). THE CARD IS WHAT COUNTS. Prove the row's statement (the work); the ties are given (YtcbmbjapcpbnnaaDoorTie.lean); close each card by the builder's one call (the guide's Derived/Test/ToyasCard.lean, 'card_holds'). Laid BY PROGRAM, IN A SANDBOX (cutbox-door.mjs). By AI agents, Wed Nov 11 2026. No macro, syntax, notation, axiom, sorry.
-/
import Derived.Test.YtcbmbjapcpbnnaaDoorRows
import GoSem.ClaimSeven
namespace Go.Proofs.YtcbmbjapcpbnnaaDoor
namespace Rows

/-- THE TIED CARD OF 'dolmenlaw26.HistSnaps'. -/
def histSnapsCard : Claim7 := { stood := { row := histSnapsRow, standIns := [], harness := (true, "466d69a3e9df11d99c5c0aba5dc1cc143949f5ebf04fc9c43a82be2fb57f9a42"), looks := true }, kinds := [], alts := [], laidByText := true, laidKinds := [.data, .data, .data, .data, .sentinel, .sentinel, .pinned], laidTests := true, laidLooks := .later }
def HistSnapsCardSaid : Prop := Claim7.holds Tryd.pinned (.plain (OpenSpec.ofChange histSnapsSpec)) histSnapsCard

/-- THE TIED CARD OF 'dolmenlaw26.HistReplies'. -/
def histRepliesCard : Claim7 := { stood := { row := histRepliesRow, standIns := [], harness := (true, "466d69a3e9df11d99c5c0aba5dc1cc143949f5ebf04fc9c43a82be2fb57f9a42"), looks := true }, kinds := [], alts := [], laidByText := true, laidKinds := [.data, .data, .data, .data, .sentinel, .sentinel, .pinned], laidTests := true, laidLooks := .later }
def HistRepliesCardSaid : Prop := Claim7.holds Tryd.pinned (.plain (OpenSpec.ofChange histRepliesSpec)) histRepliesCard

/-- THE SECOND FORM's CARD OF 'dolmenlaw26.HistSnaps'. -/
def histSnapsUptoCard : Claim7 := { stood := { row := histSnapsUptoRow, standIns := [], harness := (true, "466d69a3e9df11d99c5c0aba5dc1cc143949f5ebf04fc9c43a82be2fb57f9a42"), looks := true }, kinds := [], alts := [], laidByText := true, laidKinds := [.data, .data, .data, .data, .sentinel, .sentinel, .pinned], laidTests := true, laidLooks := .later }
def HistSnapsUptoCardSaid : Prop := Claim7.holds Tryd.pinned (.plain (OpenSpec.upto histSnapsSpec)) histSnapsUptoCard

/-- THE SECOND FORM's CARD OF 'dolmenlaw26.HistReplies'. -/
def histRepliesUptoCard : Claim7 := { stood := { row := histRepliesUptoRow, standIns := [], harness := (true, "466d69a3e9df11d99c5c0aba5dc1cc143949f5ebf04fc9c43a82be2fb57f9a42"), looks := true }, kinds := [], alts := [], laidByText := true, laidKinds := [.data, .data, .data, .data, .sentinel, .sentinel, .pinned], laidTests := true, laidLooks := .later }
def HistRepliesUptoCardSaid : Prop := Claim7.holds Tryd.pinned (.plain (OpenSpec.upto histRepliesSpec)) histRepliesUptoCard
end Rows
end Go.Proofs.YtcbmbjapcpbnnaaDoor
