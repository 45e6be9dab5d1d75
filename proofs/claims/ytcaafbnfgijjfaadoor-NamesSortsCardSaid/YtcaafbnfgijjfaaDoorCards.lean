/-
  DERIVED. GIVEN WITH THE SEED: THE CARDS: each row of YtcaafbnfgijjfaaDoorRows.lean that lists a variable, with what it lists TIED to the program's text (the seventh form; the later family's looks); each row that meets fmt, with fmt's text TOLD by the authors' own Lean function (tested against real Go, not proved from fmt's source: count such statements apart). THE CARD IS WHAT COUNTS. Prove the row's statement (the work); the ties are given (YtcaafbnfgijjfaaDoorTie.lean); close each card by the builder's one call (the guide's Derived/Test/ToyasCard.lean, 'card_holds'). Laid BY PROGRAM, IN A SANDBOX (cutbox-door.mjs). By AI agents, Wed Nov 11 2026. No macro, syntax, notation, axiom, sorry.
-/
import Derived.Test.YtcaafbnfgijjfaaDoorRows
import GoSem.ClaimSeven
namespace Go.Proofs.YtcaafbnfgijjfaaDoor
namespace Rows

/-- THE TIED CARD OF 'dolmenlaw4.NamesMatch'. -/
def namesMatchCard : Claim7 := { stood := { row := namesMatchRow, standIns := [], harness := (true, "8a37eff948516a9bec44d08d9f9ab2b51cfd09983327507ecbb15d0a04023904"), looks := true }, kinds := [], alts := [], laidByText := true, laidKinds := [.data, .pinned], laidTests := true, laidLooks := .later }
def NamesMatchCardSaid : Prop := Claim7.holds Tryd.pinned (.plain (OpenSpec.ofChange namesMatchSpec)) namesMatchCard

/-- THE TIED CARD OF 'dolmenlaw4.NamesErrors'. -/
def namesErrorsCard : Claim7 := { stood := { row := namesErrorsRow, standIns := [], harness := (true, "8a37eff948516a9bec44d08d9f9ab2b51cfd09983327507ecbb15d0a04023904"), looks := true }, kinds := [], alts := [], laidByText := true, laidKinds := [.data, .pinned], laidTests := true, laidLooks := .later }
def NamesErrorsCardSaid : Prop := Claim7.holds Tryd.pinned (.plain (OpenSpec.ofChange namesErrorsSpec)) namesErrorsCard

/-- THE TIED CARD OF 'dolmenlaw4.NamesUnder'. -/
def namesUnderCard : Claim7 := { stood := { row := namesUnderRow, standIns := [], harness := (true, "8a37eff948516a9bec44d08d9f9ab2b51cfd09983327507ecbb15d0a04023904"), looks := true }, kinds := [], alts := [], laidByText := true, laidKinds := [.data, .pinned], laidTests := true, laidLooks := .later }
def NamesUnderCardSaid : Prop := Claim7.holds Tryd.pinned (.plain (OpenSpec.ofChange namesUnderSpec)) namesUnderCard

/-- THE TIED CARD OF 'dolmenlaw4.NamesBack'. -/
def namesBackCard : Claim7 := { stood := { row := namesBackRow, standIns := [], harness := (true, "8a37eff948516a9bec44d08d9f9ab2b51cfd09983327507ecbb15d0a04023904"), looks := true }, kinds := [], alts := [], laidByText := true, laidKinds := [.data, .pinned], laidTests := true, laidLooks := .later }
def NamesBackCardSaid : Prop := Claim7.holds Tryd.pinned (.plain (OpenSpec.ofChange namesBackSpec)) namesBackCard

/-- THE TIED CARD OF 'dolmenlaw4.NamesAsks'. -/
def namesAsksCard : Claim7 := { stood := { row := namesAsksRow, standIns := [], harness := (true, "8a37eff948516a9bec44d08d9f9ab2b51cfd09983327507ecbb15d0a04023904"), looks := true }, kinds := [], alts := [], laidByText := true, laidKinds := [.data, .pinned], laidTests := true, laidLooks := .later }
def NamesAsksCardSaid : Prop := Claim7.holds Tryd.pinned (.plain (OpenSpec.ofChange namesAsksSpec)) namesAsksCard

/-- THE TIED CARD OF 'dolmenlaw4.NamesSorts'. -/
def namesSortsCard : Claim7 := { stood := { row := namesSortsRow, standIns := [], harness := (true, "8a37eff948516a9bec44d08d9f9ab2b51cfd09983327507ecbb15d0a04023904"), looks := true }, kinds := [], alts := [], laidByText := true, laidKinds := [.data, .pinned], laidTests := true, laidLooks := .later }
def NamesSortsCardSaid : Prop := Claim7.holds Tryd.pinned (.plain (OpenSpec.ofChange namesSortsSpec)) namesSortsCard

/-- THE TIED CARD OF 'dolmenlaw4.NamesSets'. -/
def namesSetsCard : Claim7 := { stood := { row := namesSetsRow, standIns := [], harness := (true, "8a37eff948516a9bec44d08d9f9ab2b51cfd09983327507ecbb15d0a04023904"), looks := true }, kinds := [], alts := [], laidByText := true, laidKinds := [.data, .pinned], laidTests := true, laidLooks := .later }
def NamesSetsCardSaid : Prop := Claim7.holds Tryd.pinned (.plain (OpenSpec.ofChange namesSetsSpec)) namesSetsCard

/-- THE SECOND FORM's CARD OF 'dolmenlaw4.NamesMatch'. -/
def namesMatchUptoCard : Claim7 := { stood := { row := namesMatchUptoRow, standIns := [], harness := (true, "8a37eff948516a9bec44d08d9f9ab2b51cfd09983327507ecbb15d0a04023904"), looks := true }, kinds := [], alts := [], laidByText := true, laidKinds := [.data, .pinned], laidTests := true, laidLooks := .later }
def NamesMatchUptoCardSaid : Prop := Claim7.holds Tryd.pinned (.plain (OpenSpec.upto namesMatchSpec)) namesMatchUptoCard

/-- THE SECOND FORM's CARD OF 'dolmenlaw4.NamesErrors'. -/
def namesErrorsUptoCard : Claim7 := { stood := { row := namesErrorsUptoRow, standIns := [], harness := (true, "8a37eff948516a9bec44d08d9f9ab2b51cfd09983327507ecbb15d0a04023904"), looks := true }, kinds := [], alts := [], laidByText := true, laidKinds := [.data, .pinned], laidTests := true, laidLooks := .later }
def NamesErrorsUptoCardSaid : Prop := Claim7.holds Tryd.pinned (.plain (OpenSpec.upto namesErrorsSpec)) namesErrorsUptoCard

/-- THE SECOND FORM's CARD OF 'dolmenlaw4.NamesUnder'. -/
def namesUnderUptoCard : Claim7 := { stood := { row := namesUnderUptoRow, standIns := [], harness := (true, "8a37eff948516a9bec44d08d9f9ab2b51cfd09983327507ecbb15d0a04023904"), looks := true }, kinds := [], alts := [], laidByText := true, laidKinds := [.data, .pinned], laidTests := true, laidLooks := .later }
def NamesUnderUptoCardSaid : Prop := Claim7.holds Tryd.pinned (.plain (OpenSpec.upto namesUnderSpec)) namesUnderUptoCard

/-- THE SECOND FORM's CARD OF 'dolmenlaw4.NamesBack'. -/
def namesBackUptoCard : Claim7 := { stood := { row := namesBackUptoRow, standIns := [], harness := (true, "8a37eff948516a9bec44d08d9f9ab2b51cfd09983327507ecbb15d0a04023904"), looks := true }, kinds := [], alts := [], laidByText := true, laidKinds := [.data, .pinned], laidTests := true, laidLooks := .later }
def NamesBackUptoCardSaid : Prop := Claim7.holds Tryd.pinned (.plain (OpenSpec.upto namesBackSpec)) namesBackUptoCard

/-- THE SECOND FORM's CARD OF 'dolmenlaw4.NamesAsks'. -/
def namesAsksUptoCard : Claim7 := { stood := { row := namesAsksUptoRow, standIns := [], harness := (true, "8a37eff948516a9bec44d08d9f9ab2b51cfd09983327507ecbb15d0a04023904"), looks := true }, kinds := [], alts := [], laidByText := true, laidKinds := [.data, .pinned], laidTests := true, laidLooks := .later }
def NamesAsksUptoCardSaid : Prop := Claim7.holds Tryd.pinned (.plain (OpenSpec.upto namesAsksSpec)) namesAsksUptoCard

/-- THE SECOND FORM's CARD OF 'dolmenlaw4.NamesSorts'. -/
def namesSortsUptoCard : Claim7 := { stood := { row := namesSortsUptoRow, standIns := [], harness := (true, "8a37eff948516a9bec44d08d9f9ab2b51cfd09983327507ecbb15d0a04023904"), looks := true }, kinds := [], alts := [], laidByText := true, laidKinds := [.data, .pinned], laidTests := true, laidLooks := .later }
def NamesSortsUptoCardSaid : Prop := Claim7.holds Tryd.pinned (.plain (OpenSpec.upto namesSortsSpec)) namesSortsUptoCard

/-- THE SECOND FORM's CARD OF 'dolmenlaw4.NamesSets'. -/
def namesSetsUptoCard : Claim7 := { stood := { row := namesSetsUptoRow, standIns := [], harness := (true, "8a37eff948516a9bec44d08d9f9ab2b51cfd09983327507ecbb15d0a04023904"), looks := true }, kinds := [], alts := [], laidByText := true, laidKinds := [.data, .pinned], laidTests := true, laidLooks := .later }
def NamesSetsUptoCardSaid : Prop := Claim7.holds Tryd.pinned (.plain (OpenSpec.upto namesSetsSpec)) namesSetsUptoCard
end Rows
end Go.Proofs.YtcaafbnfgijjfaaDoor
