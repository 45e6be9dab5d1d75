/-
  NARROWER THAN 'FOR EVERY INPUT', by the rows' own cells (each row's printed sentence says how): NamesMatch: laid · NamesErrors: laid · NamesUnder: laid · NamesBack: laid · NamesAsks: laid · NamesSorts: laid · NamesSets: laid.
  DERIVED. THE GIVEN ROWS OF THIS SEAT. 7 by the template 'for every input the law returns true; each argument reads behind the call as it read before'; 0 by the template 'total and deterministic' (their statements: YtcaafbnfgijjfaaDoorTotals.lean).
  GIVEN WITH THE SEED: the statements are not yours to turn. If you find one false, say at which input.
  Laid BY PROGRAM, IN A SANDBOX (cutbox-rows.mjs): the forced cells as the released guide's own fill.sh prints them over the translation a1a6428c1773aa13… (all of the seat's roots in one cut). By AI agents, Wed Nov 11 2026. No macro, syntax, notation, axiom, sorry.
-/
import Derived.Test.YtcaafbnfgijjfaaDoorChecked
import GoSem.PinnedTables
import GoSem.Claim
import GoSem.ClaimJoined
import GoSem.ClaimMapViews
import Derived.JoinedTies
import Derived.KernelRfl
namespace Go.Proofs.YtcaafbnfgijjfaaDoor
/- THE CELL 'sum', in the pinned program and in every row, IS THE sha256 OF THE DUMP (.gsa) THAT YtcaafbnfgijjfaaDoorProg.lean LOADS. Nothing in Lean hashes anything: it is a label: what it is worth is what the hold of that sum in a sandbox is worth. -/
noncomputable def Tryd.pinned : Pinned := { name := "ytcaafbnfgijjfaadoor", sum := "a1a6428c1773aa1377e40a61aa91dbbce3785079d4b99674cad86ba1dcc9d720", checked := Tryd.checked }
namespace Rows
def none {H : Type} : Left H := { results := [], args := [] }

/- WHAT THE LISTED PACKAGE-LEVEL VARIABLES READ AS WHEN THE CALL BEGINS. Each datum BY PROGRAM (the guide's laid-datum.mjs) off the statement by which the dump's own 'gosem.cut.vars' lays the variable. In a bare row this is a premise. The card (YtcaafbnfgijjfaaDoorCards.lean) ties it to the program's text. -/
def laid_unicode_utf8_acceptRanges {H : Type} : DataW H := .agg [.agg [.lit (.int .u8 128), .lit (.int .u8 191)], .agg [.lit (.int .u8 160), .lit (.int .u8 191)], .agg [.lit (.int .u8 128), .lit (.int .u8 159)], .agg [.lit (.int .u8 144), .lit (.int .u8 191)], .agg [.lit (.int .u8 128), .lit (.int .u8 143)], .agg [.lit (.int .u8 0), .lit (.int .u8 0)], .agg [.lit (.int .u8 0), .lit (.int .u8 0)], .agg [.lit (.int .u8 0), .lit (.int .u8 0)], .agg [.lit (.int .u8 0), .lit (.int .u8 0)], .agg [.lit (.int .u8 0), .lit (.int .u8 0)], .agg [.lit (.int .u8 0), .lit (.int .u8 0)], .agg [.lit (.int .u8 0), .lit (.int .u8 0)], .agg [.lit (.int .u8 0), .lit (.int .u8 0)], .agg [.lit (.int .u8 0), .lit (.int .u8 0)], .agg [.lit (.int .u8 0), .lit (.int .u8 0)], .agg [.lit (.int .u8 0), .lit (.int .u8 0)]]
/-- One of Go's own tables, pinned by name: the form's constant. -/
def laid_unicode_utf8_first : DataW Unit := Go.Pinned.utf8First

/-- 'dolmenlaw4.NamesMatch': WHATEVER THE INPUT: true; the input reads as it did. -/
def namesMatchSpec : ChangeSpec := { name := "namesMatch", fn := fun _ => fun
  | [d1, d2] => { results := [.lit (.bool true)], args := [d1, d2] }
  | _ => none }
def namesMatchRow : OpenClaim := { program := "ytcaafbnfgijjfaadoor", sum := "a1a6428c1773aa1377e40a61aa91dbbce3785079d4b99674cad86ba1dcc9d720", func := "dolmen/dolmenlaw4.NamesMatch", spec := "namesMatch", inPlace := ["internal/bytealg.CountString", "internal/bytealg.IndexByteString", "internal/bytealg.IndexString", "internal/reflectlite.TypeOf", "internal/abi.NoEscape", "internal/bytealg.MakeNoZero"], unfollowed := true, recurses := true, named := ["unicode/utf8.first", "unicode/utf8.acceptRanges", "internal/bytealg.MaxLen"], apart := false, laid := [("unicode/utf8.acceptRanges", laid_unicode_utf8_acceptRanges), ("unicode/utf8.first", laid_unicode_utf8_first)] }
def NamesMatchSaid : Prop := namesMatchRow.holds Tryd.pinned (OpenSpec.ofChange namesMatchSpec)

/-- ITS FALSE NEIGHBOUR: 'it returns false'. Refute it at one input. -/
def namesMatchWrong : ChangeSpec := { name := "namesMatch", fn := fun _ => fun
  | [d1, d2] => { results := [.lit (.bool false)], args := [d1, d2] }
  | _ => none }
def NamesMatchWrongFalsely : Prop := namesMatchRow.holds Tryd.pinned (OpenSpec.ofChange namesMatchWrong)

/-- 'dolmenlaw4.NamesErrors': WHATEVER THE INPUT: true; the input reads as it did. -/
def namesErrorsSpec : ChangeSpec := { name := "namesErrors", fn := fun _ => fun
  | [d1, d2, d3] => { results := [.lit (.bool true)], args := [d1, d2, d3] }
  | _ => none }
def namesErrorsRow : OpenClaim := { program := "ytcaafbnfgijjfaadoor", sum := "a1a6428c1773aa1377e40a61aa91dbbce3785079d4b99674cad86ba1dcc9d720", func := "dolmen/dolmenlaw4.NamesErrors", spec := "namesErrors", inPlace := ["internal/bytealg.CountString", "internal/bytealg.IndexByteString", "internal/bytealg.IndexString", "internal/reflectlite.TypeOf", "internal/abi.NoEscape", "internal/bytealg.MakeNoZero"], unfollowed := true, recurses := true, named := ["unicode/utf8.first", "unicode/utf8.acceptRanges", "internal/bytealg.MaxLen"], apart := false, laid := [("unicode/utf8.acceptRanges", laid_unicode_utf8_acceptRanges), ("unicode/utf8.first", laid_unicode_utf8_first)] }
def NamesErrorsSaid : Prop := namesErrorsRow.holds Tryd.pinned (OpenSpec.ofChange namesErrorsSpec)

/-- ITS FALSE NEIGHBOUR: 'it returns false'. Refute it at one input. -/
def namesErrorsWrong : ChangeSpec := { name := "namesErrors", fn := fun _ => fun
  | [d1, d2, d3] => { results := [.lit (.bool false)], args := [d1, d2, d3] }
  | _ => none }
def NamesErrorsWrongFalsely : Prop := namesErrorsRow.holds Tryd.pinned (OpenSpec.ofChange namesErrorsWrong)

/-- 'dolmenlaw4.NamesUnder': WHATEVER THE INPUT: true; the input reads as it did. -/
def namesUnderSpec : ChangeSpec := { name := "namesUnder", fn := fun _ => fun
  | [d1, d2, d3] => { results := [.lit (.bool true)], args := [d1, d2, d3] }
  | _ => none }
def namesUnderRow : OpenClaim := { program := "ytcaafbnfgijjfaadoor", sum := "a1a6428c1773aa1377e40a61aa91dbbce3785079d4b99674cad86ba1dcc9d720", func := "dolmen/dolmenlaw4.NamesUnder", spec := "namesUnder", inPlace := ["internal/bytealg.CountString", "internal/bytealg.IndexByteString", "internal/bytealg.IndexString", "internal/reflectlite.TypeOf", "internal/abi.NoEscape", "internal/bytealg.MakeNoZero"], unfollowed := true, recurses := true, named := ["unicode/utf8.first", "unicode/utf8.acceptRanges", "internal/bytealg.MaxLen"], apart := false, laid := [("unicode/utf8.acceptRanges", laid_unicode_utf8_acceptRanges), ("unicode/utf8.first", laid_unicode_utf8_first)] }
def NamesUnderSaid : Prop := namesUnderRow.holds Tryd.pinned (OpenSpec.ofChange namesUnderSpec)

/-- ITS FALSE NEIGHBOUR: 'it returns false'. Refute it at one input. -/
def namesUnderWrong : ChangeSpec := { name := "namesUnder", fn := fun _ => fun
  | [d1, d2, d3] => { results := [.lit (.bool false)], args := [d1, d2, d3] }
  | _ => none }
def NamesUnderWrongFalsely : Prop := namesUnderRow.holds Tryd.pinned (OpenSpec.ofChange namesUnderWrong)

/-- 'dolmenlaw4.NamesBack': WHATEVER THE INPUT: true; the input reads as it did. -/
def namesBackSpec : ChangeSpec := { name := "namesBack", fn := fun _ => fun
  | [d] => { results := [.lit (.bool true)], args := [d] }
  | _ => none }
def namesBackRow : OpenClaim := { program := "ytcaafbnfgijjfaadoor", sum := "a1a6428c1773aa1377e40a61aa91dbbce3785079d4b99674cad86ba1dcc9d720", func := "dolmen/dolmenlaw4.NamesBack", spec := "namesBack", inPlace := ["internal/bytealg.CountString", "internal/bytealg.IndexByteString", "internal/bytealg.IndexString", "internal/reflectlite.TypeOf", "internal/abi.NoEscape", "internal/bytealg.MakeNoZero"], unfollowed := true, recurses := true, named := ["unicode/utf8.first", "unicode/utf8.acceptRanges", "internal/bytealg.MaxLen"], apart := false, laid := [("unicode/utf8.acceptRanges", laid_unicode_utf8_acceptRanges), ("unicode/utf8.first", laid_unicode_utf8_first)] }
def NamesBackSaid : Prop := namesBackRow.holds Tryd.pinned (OpenSpec.ofChange namesBackSpec)

/-- ITS FALSE NEIGHBOUR: 'it returns false'. Refute it at one input. -/
def namesBackWrong : ChangeSpec := { name := "namesBack", fn := fun _ => fun
  | [d] => { results := [.lit (.bool false)], args := [d] }
  | _ => none }
def NamesBackWrongFalsely : Prop := namesBackRow.holds Tryd.pinned (OpenSpec.ofChange namesBackWrong)

/-- 'dolmenlaw4.NamesAsks': WHATEVER THE INPUT: true; the input reads as it did. -/
def namesAsksSpec : ChangeSpec := { name := "namesAsks", fn := fun _ => fun
  | [d1, d2] => { results := [.lit (.bool true)], args := [d1, d2] }
  | _ => none }
def namesAsksRow : OpenClaim := { program := "ytcaafbnfgijjfaadoor", sum := "a1a6428c1773aa1377e40a61aa91dbbce3785079d4b99674cad86ba1dcc9d720", func := "dolmen/dolmenlaw4.NamesAsks", spec := "namesAsks", inPlace := ["internal/bytealg.CountString", "internal/bytealg.IndexByteString", "internal/bytealg.IndexString", "internal/reflectlite.TypeOf", "internal/abi.NoEscape", "internal/bytealg.MakeNoZero"], unfollowed := true, recurses := true, named := ["unicode/utf8.first", "unicode/utf8.acceptRanges", "internal/bytealg.MaxLen"], apart := false, laid := [("unicode/utf8.acceptRanges", laid_unicode_utf8_acceptRanges), ("unicode/utf8.first", laid_unicode_utf8_first)] }
def NamesAsksSaid : Prop := namesAsksRow.holds Tryd.pinned (OpenSpec.ofChange namesAsksSpec)

/-- ITS FALSE NEIGHBOUR: 'it returns false'. Refute it at one input. -/
def namesAsksWrong : ChangeSpec := { name := "namesAsks", fn := fun _ => fun
  | [d1, d2] => { results := [.lit (.bool false)], args := [d1, d2] }
  | _ => none }
def NamesAsksWrongFalsely : Prop := namesAsksRow.holds Tryd.pinned (OpenSpec.ofChange namesAsksWrong)

/-- 'dolmenlaw4.NamesSorts': WHATEVER THE INPUT: true; the input reads as it did. -/
def namesSortsSpec : ChangeSpec := { name := "namesSorts", fn := fun _ => fun
  | [d1, d2, d3] => { results := [.lit (.bool true)], args := [d1, d2, d3] }
  | _ => none }
def namesSortsRow : OpenClaim := { program := "ytcaafbnfgijjfaadoor", sum := "a1a6428c1773aa1377e40a61aa91dbbce3785079d4b99674cad86ba1dcc9d720", func := "dolmen/dolmenlaw4.NamesSorts", spec := "namesSorts", inPlace := ["internal/bytealg.CountString", "internal/bytealg.IndexByteString", "internal/bytealg.IndexString", "internal/reflectlite.TypeOf", "internal/abi.NoEscape", "internal/bytealg.MakeNoZero"], unfollowed := true, recurses := true, named := ["unicode/utf8.first", "unicode/utf8.acceptRanges", "internal/bytealg.MaxLen"], apart := false, laid := [("unicode/utf8.acceptRanges", laid_unicode_utf8_acceptRanges), ("unicode/utf8.first", laid_unicode_utf8_first)] }
def NamesSortsSaid : Prop := namesSortsRow.holds Tryd.pinned (OpenSpec.ofChange namesSortsSpec)

/-- ITS FALSE NEIGHBOUR: 'it returns false'. Refute it at one input. -/
def namesSortsWrong : ChangeSpec := { name := "namesSorts", fn := fun _ => fun
  | [d1, d2, d3] => { results := [.lit (.bool false)], args := [d1, d2, d3] }
  | _ => none }
def NamesSortsWrongFalsely : Prop := namesSortsRow.holds Tryd.pinned (OpenSpec.ofChange namesSortsWrong)

/-- 'dolmenlaw4.NamesSets': WHATEVER THE INPUT: true; the input reads as it did. -/
def namesSetsSpec : ChangeSpec := { name := "namesSets", fn := fun _ => fun
  | [d1, d2] => { results := [.lit (.bool true)], args := [d1, d2] }
  | _ => none }
def namesSetsRow : OpenClaim := { program := "ytcaafbnfgijjfaadoor", sum := "a1a6428c1773aa1377e40a61aa91dbbce3785079d4b99674cad86ba1dcc9d720", func := "dolmen/dolmenlaw4.NamesSets", spec := "namesSets", inPlace := ["internal/bytealg.CountString", "internal/bytealg.IndexByteString", "internal/bytealg.IndexString", "internal/reflectlite.TypeOf", "internal/abi.NoEscape", "internal/bytealg.MakeNoZero"], unfollowed := true, recurses := true, named := ["unicode/utf8.first", "unicode/utf8.acceptRanges", "internal/bytealg.MaxLen"], apart := false, laid := [("unicode/utf8.acceptRanges", laid_unicode_utf8_acceptRanges), ("unicode/utf8.first", laid_unicode_utf8_first)] }
def NamesSetsSaid : Prop := namesSetsRow.holds Tryd.pinned (OpenSpec.ofChange namesSetsSpec)

/-- ITS FALSE NEIGHBOUR: 'it returns false'. Refute it at one input. -/
def namesSetsWrong : ChangeSpec := { name := "namesSets", fn := fun _ => fun
  | [d1, d2] => { results := [.lit (.bool false)], args := [d1, d2] }
  | _ => none }
def NamesSetsWrongFalsely : Prop := namesSetsRow.holds Tryd.pinned (OpenSpec.ofChange namesSetsWrong)

/- THE SECOND FORM. 'bulk': how many values and letters a reading holds, each counted each time it is reached (what is shared counts as often as it is met; a slice's spare places count too). A statement '..UptoSaid' is the law's where the arguments, and the package variables that the reading takes, are together of bulk at most 1048576: NARROWER than '..Said'. Prove '..Said' where nothing that the law and all that it calls make is longer than what came in: it says more and counts as full. Else prove '..UptoSaid'. A law counts once. -/
mutual
def uptoBulk {H : Type} : DataW H → Nat
  | .lit (.string bytes) => bytes.length + 1
  | .lit _ => 1
  | .nil => 1
  | .ptr d => uptoBulk d + 1
  | .slice elems spare => uptoBulkAll elems + uptoBulkAll spare + 1
  | .agg parts => uptoBulkAll parts + 1
  | .iface _ d => uptoBulk d + 1
  | .map entries => uptoBulkEntries entries + 1
  | .held _ => 1
def uptoBulkAll {H : Type} : List (DataW H) → Nat
  | [] => 0
  | d :: r => uptoBulk d + uptoBulkAll r
def uptoBulkEntries {H : Type} : List (Lit × DataW H) → Nat
  | [] => 0
  | x :: r => uptoBulkEntry x + uptoBulkEntries r
def uptoBulkEntry {H : Type} : Lit × DataW H → Nat
  | (.string bytes, d) => bytes.length + uptoBulk d + 1
  | (_, d) => uptoBulk d + 1
 end
def uptoSmall : (H : Type) → List (DataW H) → Bool := fun _ ds => decide (uptoBulkAll ds ≤ 1048576)
def OpenSpec.upto (s : _root_.Go.ChangeSpec) : _root_.Go.OpenSpec := { _root_.Go.OpenSpec.ofChange s with cond := some uptoSmall }

/-- 'dolmenlaw4.NamesMatch', WHERE WHAT IT READS IS OF BULK AT MOST 1048576: true; the input reads as it did. -/
def namesMatchUptoRow : OpenClaim := { program := "ytcaafbnfgijjfaadoor", sum := "a1a6428c1773aa1377e40a61aa91dbbce3785079d4b99674cad86ba1dcc9d720", func := "dolmen/dolmenlaw4.NamesMatch", spec := "namesMatch", inPlace := ["internal/bytealg.CountString", "internal/bytealg.IndexByteString", "internal/bytealg.IndexString", "internal/reflectlite.TypeOf", "internal/abi.NoEscape", "internal/bytealg.MakeNoZero"], unfollowed := true, recurses := true, named := ["unicode/utf8.first", "unicode/utf8.acceptRanges", "internal/bytealg.MaxLen"], apart := false, laid := [("unicode/utf8.acceptRanges", laid_unicode_utf8_acceptRanges), ("unicode/utf8.first", laid_unicode_utf8_first)], narrowed := true }
def NamesMatchUptoSaid : Prop := namesMatchUptoRow.holds Tryd.pinned (OpenSpec.upto namesMatchSpec)

/-- 'dolmenlaw4.NamesErrors', WHERE WHAT IT READS IS OF BULK AT MOST 1048576: true; the input reads as it did. -/
def namesErrorsUptoRow : OpenClaim := { program := "ytcaafbnfgijjfaadoor", sum := "a1a6428c1773aa1377e40a61aa91dbbce3785079d4b99674cad86ba1dcc9d720", func := "dolmen/dolmenlaw4.NamesErrors", spec := "namesErrors", inPlace := ["internal/bytealg.CountString", "internal/bytealg.IndexByteString", "internal/bytealg.IndexString", "internal/reflectlite.TypeOf", "internal/abi.NoEscape", "internal/bytealg.MakeNoZero"], unfollowed := true, recurses := true, named := ["unicode/utf8.first", "unicode/utf8.acceptRanges", "internal/bytealg.MaxLen"], apart := false, laid := [("unicode/utf8.acceptRanges", laid_unicode_utf8_acceptRanges), ("unicode/utf8.first", laid_unicode_utf8_first)], narrowed := true }
def NamesErrorsUptoSaid : Prop := namesErrorsUptoRow.holds Tryd.pinned (OpenSpec.upto namesErrorsSpec)

/-- 'dolmenlaw4.NamesUnder', WHERE WHAT IT READS IS OF BULK AT MOST 1048576: true; the input reads as it did. -/
def namesUnderUptoRow : OpenClaim := { program := "ytcaafbnfgijjfaadoor", sum := "a1a6428c1773aa1377e40a61aa91dbbce3785079d4b99674cad86ba1dcc9d720", func := "dolmen/dolmenlaw4.NamesUnder", spec := "namesUnder", inPlace := ["internal/bytealg.CountString", "internal/bytealg.IndexByteString", "internal/bytealg.IndexString", "internal/reflectlite.TypeOf", "internal/abi.NoEscape", "internal/bytealg.MakeNoZero"], unfollowed := true, recurses := true, named := ["unicode/utf8.first", "unicode/utf8.acceptRanges", "internal/bytealg.MaxLen"], apart := false, laid := [("unicode/utf8.acceptRanges", laid_unicode_utf8_acceptRanges), ("unicode/utf8.first", laid_unicode_utf8_first)], narrowed := true }
def NamesUnderUptoSaid : Prop := namesUnderUptoRow.holds Tryd.pinned (OpenSpec.upto namesUnderSpec)

/-- 'dolmenlaw4.NamesBack', WHERE WHAT IT READS IS OF BULK AT MOST 1048576: true; the input reads as it did. -/
def namesBackUptoRow : OpenClaim := { program := "ytcaafbnfgijjfaadoor", sum := "a1a6428c1773aa1377e40a61aa91dbbce3785079d4b99674cad86ba1dcc9d720", func := "dolmen/dolmenlaw4.NamesBack", spec := "namesBack", inPlace := ["internal/bytealg.CountString", "internal/bytealg.IndexByteString", "internal/bytealg.IndexString", "internal/reflectlite.TypeOf", "internal/abi.NoEscape", "internal/bytealg.MakeNoZero"], unfollowed := true, recurses := true, named := ["unicode/utf8.first", "unicode/utf8.acceptRanges", "internal/bytealg.MaxLen"], apart := false, laid := [("unicode/utf8.acceptRanges", laid_unicode_utf8_acceptRanges), ("unicode/utf8.first", laid_unicode_utf8_first)], narrowed := true }
def NamesBackUptoSaid : Prop := namesBackUptoRow.holds Tryd.pinned (OpenSpec.upto namesBackSpec)

/-- 'dolmenlaw4.NamesAsks', WHERE WHAT IT READS IS OF BULK AT MOST 1048576: true; the input reads as it did. -/
def namesAsksUptoRow : OpenClaim := { program := "ytcaafbnfgijjfaadoor", sum := "a1a6428c1773aa1377e40a61aa91dbbce3785079d4b99674cad86ba1dcc9d720", func := "dolmen/dolmenlaw4.NamesAsks", spec := "namesAsks", inPlace := ["internal/bytealg.CountString", "internal/bytealg.IndexByteString", "internal/bytealg.IndexString", "internal/reflectlite.TypeOf", "internal/abi.NoEscape", "internal/bytealg.MakeNoZero"], unfollowed := true, recurses := true, named := ["unicode/utf8.first", "unicode/utf8.acceptRanges", "internal/bytealg.MaxLen"], apart := false, laid := [("unicode/utf8.acceptRanges", laid_unicode_utf8_acceptRanges), ("unicode/utf8.first", laid_unicode_utf8_first)], narrowed := true }
def NamesAsksUptoSaid : Prop := namesAsksUptoRow.holds Tryd.pinned (OpenSpec.upto namesAsksSpec)

/-- 'dolmenlaw4.NamesSorts', WHERE WHAT IT READS IS OF BULK AT MOST 1048576: true; the input reads as it did. -/
def namesSortsUptoRow : OpenClaim := { program := "ytcaafbnfgijjfaadoor", sum := "a1a6428c1773aa1377e40a61aa91dbbce3785079d4b99674cad86ba1dcc9d720", func := "dolmen/dolmenlaw4.NamesSorts", spec := "namesSorts", inPlace := ["internal/bytealg.CountString", "internal/bytealg.IndexByteString", "internal/bytealg.IndexString", "internal/reflectlite.TypeOf", "internal/abi.NoEscape", "internal/bytealg.MakeNoZero"], unfollowed := true, recurses := true, named := ["unicode/utf8.first", "unicode/utf8.acceptRanges", "internal/bytealg.MaxLen"], apart := false, laid := [("unicode/utf8.acceptRanges", laid_unicode_utf8_acceptRanges), ("unicode/utf8.first", laid_unicode_utf8_first)], narrowed := true }
def NamesSortsUptoSaid : Prop := namesSortsUptoRow.holds Tryd.pinned (OpenSpec.upto namesSortsSpec)

/-- 'dolmenlaw4.NamesSets', WHERE WHAT IT READS IS OF BULK AT MOST 1048576: true; the input reads as it did. -/
def namesSetsUptoRow : OpenClaim := { program := "ytcaafbnfgijjfaadoor", sum := "a1a6428c1773aa1377e40a61aa91dbbce3785079d4b99674cad86ba1dcc9d720", func := "dolmen/dolmenlaw4.NamesSets", spec := "namesSets", inPlace := ["internal/bytealg.CountString", "internal/bytealg.IndexByteString", "internal/bytealg.IndexString", "internal/reflectlite.TypeOf", "internal/abi.NoEscape", "internal/bytealg.MakeNoZero"], unfollowed := true, recurses := true, named := ["unicode/utf8.first", "unicode/utf8.acceptRanges", "internal/bytealg.MaxLen"], apart := false, laid := [("unicode/utf8.acceptRanges", laid_unicode_utf8_acceptRanges), ("unicode/utf8.first", laid_unicode_utf8_first)], narrowed := true }
def NamesSetsUptoSaid : Prop := namesSetsUptoRow.holds Tryd.pinned (OpenSpec.upto namesSetsSpec)

end Rows
end Go.Proofs.YtcaafbnfgijjfaaDoor
