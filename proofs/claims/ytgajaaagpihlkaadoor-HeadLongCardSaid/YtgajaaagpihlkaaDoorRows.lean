/-
  NARROWER THAN 'FOR EVERY INPUT', by the rows' own cells (each row's printed sentence says how): HeadSame: laid · HeadSigns: laid · HeadValues: laid · HeadAll: laid · HeadOrder: laid · HeadFields: laid · HeadBack: laid · HeadLong: laid.
  DERIVED. THE GIVEN ROWS OF THIS SEAT. 8 by the template 'for every input the law returns true; each argument reads behind the call as it read before'; 0 by the template 'total and deterministic' (their statements: YtgajaaagpihlkaaDoorTotals.lean).
  GIVEN WITH THE SEED: the statements are not yours to turn. If you find one false, say at which input.
  Laid BY PROGRAM, IN A SANDBOX (cutbox-rows.mjs): the forced cells as the released guide's own fill.sh prints them over the translation 3cb50df573657cd5… (all of the seat's roots in one cut). By AI agents, Wed Nov 11 2026. No macro, syntax, notation, axiom, sorry.
-/
import Derived.Test.YtgajaaagpihlkaaDoorChecked
import GoSem.PinnedTables
import GoSem.Claim
import GoSem.ClaimJoined
import GoSem.ClaimMapViews
import Derived.JoinedTies
import Derived.KernelRfl
namespace Go.Proofs.YtgajaaagpihlkaaDoor
/- THE CELL 'sum', in the pinned program and in every row, IS THE sha256 OF THE DUMP (.gsa) THAT YtgajaaagpihlkaaDoorProg.lean LOADS. Nothing in Lean hashes anything: it is a label: what it is worth is what the hold of that sum in a sandbox is worth. -/
noncomputable def Tryd.pinned : Pinned := { name := "ytgajaaagpihlkaadoor", sum := "3cb50df573657cd59d6b4b77af90f73aa8b389f95887d7be88802960da3f708c", checked := Tryd.checked }
namespace Rows
def none {H : Type} : Left H := { results := [], args := [] }

/- WHAT THE LISTED PACKAGE-LEVEL VARIABLES READ AS WHEN THE CALL BEGINS. Each datum BY PROGRAM (the guide's laid-datum.mjs) off the statement by which the dump's own 'gosem.cut.vars' lays the variable. In a bare row this is a premise. The card (YtgajaaagpihlkaaDoorCards.lean) ties it to the program's text. -/
def laid_unicode_utf8_acceptRanges {H : Type} : DataW H := .agg [.agg [.lit (.int .u8 128), .lit (.int .u8 191)], .agg [.lit (.int .u8 160), .lit (.int .u8 191)], .agg [.lit (.int .u8 128), .lit (.int .u8 159)], .agg [.lit (.int .u8 144), .lit (.int .u8 191)], .agg [.lit (.int .u8 128), .lit (.int .u8 143)], .agg [.lit (.int .u8 0), .lit (.int .u8 0)], .agg [.lit (.int .u8 0), .lit (.int .u8 0)], .agg [.lit (.int .u8 0), .lit (.int .u8 0)], .agg [.lit (.int .u8 0), .lit (.int .u8 0)], .agg [.lit (.int .u8 0), .lit (.int .u8 0)], .agg [.lit (.int .u8 0), .lit (.int .u8 0)], .agg [.lit (.int .u8 0), .lit (.int .u8 0)], .agg [.lit (.int .u8 0), .lit (.int .u8 0)], .agg [.lit (.int .u8 0), .lit (.int .u8 0)], .agg [.lit (.int .u8 0), .lit (.int .u8 0)], .agg [.lit (.int .u8 0), .lit (.int .u8 0)]]
/-- One of Go's own tables, pinned by name: the form's constant. -/
def laid_unicode_utf8_first : DataW Unit := Go.Pinned.utf8First

/-- 'wicketmanlaw08.HeadSame': WHATEVER THE INPUT: true; the input reads as it did. -/
def headSameSpec : ChangeSpec := { name := "headSame", fn := fun _ => fun
  | [d1, d2, d3] => { results := [.lit (.bool true)], args := [d1, d2, d3] }
  | _ => none }
def headSameRow : OpenClaim := { program := "ytgajaaagpihlkaadoor", sum := "3cb50df573657cd59d6b4b77af90f73aa8b389f95887d7be88802960da3f708c", func := "wicketman/wicketmanlaw08.HeadSame", spec := "headSame", inPlace := ["internal/bytealg.IndexByteString", "internal/bytealg.IndexString"], named := ["internal/bytealg.MaxLen", "unicode/utf8.first", "unicode/utf8.acceptRanges"], apart := false, laid := [("unicode/utf8.acceptRanges", laid_unicode_utf8_acceptRanges), ("unicode/utf8.first", laid_unicode_utf8_first)] }
def HeadSameSaid : Prop := headSameRow.holds Tryd.pinned (OpenSpec.ofChange headSameSpec)

/-- ITS FALSE NEIGHBOUR: 'it returns false'. Refute it at one input. -/
def headSameWrong : ChangeSpec := { name := "headSame", fn := fun _ => fun
  | [d1, d2, d3] => { results := [.lit (.bool false)], args := [d1, d2, d3] }
  | _ => none }
def HeadSameWrongFalsely : Prop := headSameRow.holds Tryd.pinned (OpenSpec.ofChange headSameWrong)

/-- 'wicketmanlaw08.HeadSigns': WHATEVER THE INPUT: true; the input reads as it did. -/
def headSignsSpec : ChangeSpec := { name := "headSigns", fn := fun _ => fun
  | [d1, d2] => { results := [.lit (.bool true)], args := [d1, d2] }
  | _ => none }
def headSignsRow : OpenClaim := { program := "ytgajaaagpihlkaadoor", sum := "3cb50df573657cd59d6b4b77af90f73aa8b389f95887d7be88802960da3f708c", func := "wicketman/wicketmanlaw08.HeadSigns", spec := "headSigns", inPlace := ["internal/bytealg.IndexByteString", "internal/bytealg.IndexString"], named := ["internal/bytealg.MaxLen", "unicode/utf8.first", "unicode/utf8.acceptRanges"], apart := false, laid := [("unicode/utf8.acceptRanges", laid_unicode_utf8_acceptRanges), ("unicode/utf8.first", laid_unicode_utf8_first)] }
def HeadSignsSaid : Prop := headSignsRow.holds Tryd.pinned (OpenSpec.ofChange headSignsSpec)

/-- ITS FALSE NEIGHBOUR: 'it returns false'. Refute it at one input. -/
def headSignsWrong : ChangeSpec := { name := "headSigns", fn := fun _ => fun
  | [d1, d2] => { results := [.lit (.bool false)], args := [d1, d2] }
  | _ => none }
def HeadSignsWrongFalsely : Prop := headSignsRow.holds Tryd.pinned (OpenSpec.ofChange headSignsWrong)

/-- 'wicketmanlaw08.HeadValues': WHATEVER THE INPUT: true; the input reads as it did. -/
def headValuesSpec : ChangeSpec := { name := "headValues", fn := fun _ => fun
  | [d1, d2] => { results := [.lit (.bool true)], args := [d1, d2] }
  | _ => none }
def headValuesRow : OpenClaim := { program := "ytgajaaagpihlkaadoor", sum := "3cb50df573657cd59d6b4b77af90f73aa8b389f95887d7be88802960da3f708c", func := "wicketman/wicketmanlaw08.HeadValues", spec := "headValues", inPlace := ["internal/bytealg.IndexByteString", "internal/bytealg.IndexString"], named := ["internal/bytealg.MaxLen", "unicode/utf8.first", "unicode/utf8.acceptRanges"], apart := false, laid := [("unicode/utf8.acceptRanges", laid_unicode_utf8_acceptRanges), ("unicode/utf8.first", laid_unicode_utf8_first)] }
def HeadValuesSaid : Prop := headValuesRow.holds Tryd.pinned (OpenSpec.ofChange headValuesSpec)

/-- ITS FALSE NEIGHBOUR: 'it returns false'. Refute it at one input. -/
def headValuesWrong : ChangeSpec := { name := "headValues", fn := fun _ => fun
  | [d1, d2] => { results := [.lit (.bool false)], args := [d1, d2] }
  | _ => none }
def HeadValuesWrongFalsely : Prop := headValuesRow.holds Tryd.pinned (OpenSpec.ofChange headValuesWrong)

/-- 'wicketmanlaw08.HeadAll': WHATEVER THE INPUT: true; the input reads as it did. -/
def headAllSpec : ChangeSpec := { name := "headAll", fn := fun _ => fun
  | [d1, d2, d3, d4] => { results := [.lit (.bool true)], args := [d1, d2, d3, d4] }
  | _ => none }
def headAllRow : OpenClaim := { program := "ytgajaaagpihlkaadoor", sum := "3cb50df573657cd59d6b4b77af90f73aa8b389f95887d7be88802960da3f708c", func := "wicketman/wicketmanlaw08.HeadAll", spec := "headAll", inPlace := ["internal/bytealg.IndexByteString", "internal/bytealg.IndexString"], named := ["internal/bytealg.MaxLen", "unicode/utf8.first", "unicode/utf8.acceptRanges"], apart := false, laid := [("unicode/utf8.acceptRanges", laid_unicode_utf8_acceptRanges), ("unicode/utf8.first", laid_unicode_utf8_first)] }
def HeadAllSaid : Prop := headAllRow.holds Tryd.pinned (OpenSpec.ofChange headAllSpec)

/-- ITS FALSE NEIGHBOUR: 'it returns false'. Refute it at one input. -/
def headAllWrong : ChangeSpec := { name := "headAll", fn := fun _ => fun
  | [d1, d2, d3, d4] => { results := [.lit (.bool false)], args := [d1, d2, d3, d4] }
  | _ => none }
def HeadAllWrongFalsely : Prop := headAllRow.holds Tryd.pinned (OpenSpec.ofChange headAllWrong)

/-- 'wicketmanlaw08.HeadOrder': WHATEVER THE INPUT: true; the input reads as it did. -/
def headOrderSpec : ChangeSpec := { name := "headOrder", fn := fun _ => fun
  | [d1, d2] => { results := [.lit (.bool true)], args := [d1, d2] }
  | _ => none }
def headOrderRow : OpenClaim := { program := "ytgajaaagpihlkaadoor", sum := "3cb50df573657cd59d6b4b77af90f73aa8b389f95887d7be88802960da3f708c", func := "wicketman/wicketmanlaw08.HeadOrder", spec := "headOrder", inPlace := ["internal/bytealg.IndexByteString", "internal/bytealg.IndexString"], named := ["internal/bytealg.MaxLen", "unicode/utf8.first", "unicode/utf8.acceptRanges"], apart := false, laid := [("unicode/utf8.acceptRanges", laid_unicode_utf8_acceptRanges), ("unicode/utf8.first", laid_unicode_utf8_first)] }
def HeadOrderSaid : Prop := headOrderRow.holds Tryd.pinned (OpenSpec.ofChange headOrderSpec)

/-- ITS FALSE NEIGHBOUR: 'it returns false'. Refute it at one input. -/
def headOrderWrong : ChangeSpec := { name := "headOrder", fn := fun _ => fun
  | [d1, d2] => { results := [.lit (.bool false)], args := [d1, d2] }
  | _ => none }
def HeadOrderWrongFalsely : Prop := headOrderRow.holds Tryd.pinned (OpenSpec.ofChange headOrderWrong)

/-- 'wicketmanlaw08.HeadFields': WHATEVER THE INPUT: true; the input reads as it did. -/
def headFieldsSpec : ChangeSpec := { name := "headFields", fn := fun _ => fun
  | [d1, d2, d3, d4, d5] => { results := [.lit (.bool true)], args := [d1, d2, d3, d4, d5] }
  | _ => none }
def headFieldsRow : OpenClaim := { program := "ytgajaaagpihlkaadoor", sum := "3cb50df573657cd59d6b4b77af90f73aa8b389f95887d7be88802960da3f708c", func := "wicketman/wicketmanlaw08.HeadFields", spec := "headFields", inPlace := ["internal/bytealg.IndexByteString", "internal/bytealg.IndexString"], named := ["internal/bytealg.MaxLen", "unicode/utf8.first", "unicode/utf8.acceptRanges"], apart := false, laid := [("unicode/utf8.acceptRanges", laid_unicode_utf8_acceptRanges), ("unicode/utf8.first", laid_unicode_utf8_first)] }
def HeadFieldsSaid : Prop := headFieldsRow.holds Tryd.pinned (OpenSpec.ofChange headFieldsSpec)

/-- ITS FALSE NEIGHBOUR: 'it returns false'. Refute it at one input. -/
def headFieldsWrong : ChangeSpec := { name := "headFields", fn := fun _ => fun
  | [d1, d2, d3, d4, d5] => { results := [.lit (.bool false)], args := [d1, d2, d3, d4, d5] }
  | _ => none }
def HeadFieldsWrongFalsely : Prop := headFieldsRow.holds Tryd.pinned (OpenSpec.ofChange headFieldsWrong)

/-- 'wicketmanlaw08.HeadBack': WHATEVER THE INPUT: true; the input reads as it did. -/
def headBackSpec : ChangeSpec := { name := "headBack", fn := fun _ => fun
  | [d1, d2, d3, d4] => { results := [.lit (.bool true)], args := [d1, d2, d3, d4] }
  | _ => none }
def headBackRow : OpenClaim := { program := "ytgajaaagpihlkaadoor", sum := "3cb50df573657cd59d6b4b77af90f73aa8b389f95887d7be88802960da3f708c", func := "wicketman/wicketmanlaw08.HeadBack", spec := "headBack", inPlace := ["internal/bytealg.IndexByteString", "internal/bytealg.IndexString"], named := ["unicode/utf8.first", "unicode/utf8.acceptRanges", "internal/bytealg.MaxLen"], apart := false, laid := [("unicode/utf8.acceptRanges", laid_unicode_utf8_acceptRanges), ("unicode/utf8.first", laid_unicode_utf8_first)] }
def HeadBackSaid : Prop := headBackRow.holds Tryd.pinned (OpenSpec.ofChange headBackSpec)

/-- ITS FALSE NEIGHBOUR: 'it returns false'. Refute it at one input. -/
def headBackWrong : ChangeSpec := { name := "headBack", fn := fun _ => fun
  | [d1, d2, d3, d4] => { results := [.lit (.bool false)], args := [d1, d2, d3, d4] }
  | _ => none }
def HeadBackWrongFalsely : Prop := headBackRow.holds Tryd.pinned (OpenSpec.ofChange headBackWrong)

/-- 'wicketmanlaw08.HeadLong': WHATEVER THE INPUT: true; the input reads as it did. -/
def headLongSpec : ChangeSpec := { name := "headLong", fn := fun _ => fun
  | [d] => { results := [.lit (.bool true)], args := [d] }
  | _ => none }
def headLongRow : OpenClaim := { program := "ytgajaaagpihlkaadoor", sum := "3cb50df573657cd59d6b4b77af90f73aa8b389f95887d7be88802960da3f708c", func := "wicketman/wicketmanlaw08.HeadLong", spec := "headLong", inPlace := ["internal/bytealg.IndexByteString", "internal/bytealg.IndexString"], named := ["internal/bytealg.MaxLen", "unicode/utf8.first", "unicode/utf8.acceptRanges"], apart := false, laid := [("unicode/utf8.acceptRanges", laid_unicode_utf8_acceptRanges), ("unicode/utf8.first", laid_unicode_utf8_first)] }
def HeadLongSaid : Prop := headLongRow.holds Tryd.pinned (OpenSpec.ofChange headLongSpec)

/-- ITS FALSE NEIGHBOUR: 'it returns false'. Refute it at one input. -/
def headLongWrong : ChangeSpec := { name := "headLong", fn := fun _ => fun
  | [d] => { results := [.lit (.bool false)], args := [d] }
  | _ => none }
def HeadLongWrongFalsely : Prop := headLongRow.holds Tryd.pinned (OpenSpec.ofChange headLongWrong)

/- THE SECOND FORM. 'bulk': how many values and letters a reading holds, each counted each time it is reached (what is shared counts as often as it is met; a slice's spare places count too). A statement '..UptoSaid' is the law's where the arguments, and the package variables that the reading takes, are together of bulk at most 1048576: NARROWER than '..Said'. Prove '..Said' where nothing that the law and all that it calls make is longer than what came in: it says more and counts as full. Else prove '..UptoSaid'. A law counts once. -/
mutual
def uptoBulk {H : Type} : DataW H → Nat
  | .lit (.string bytes) => bytes.length + 1
  | .lit _ => 1
  | .nil => 1
  | .ptr d => uptoBulk d + 1
  | .slice elems spare => uptoBulkAll elems + uptoBulkAll spare + 1
  | .agg parts => uptoBulkAll parts + 1
  | .iface _ d => uptoBulk d + 1
  | .map entries => uptoBulkEntries entries + 1
  | .held _ => 1
def uptoBulkAll {H : Type} : List (DataW H) → Nat
  | [] => 0
  | d :: r => uptoBulk d + uptoBulkAll r
def uptoBulkEntries {H : Type} : List (Lit × DataW H) → Nat
  | [] => 0
  | x :: r => uptoBulkEntry x + uptoBulkEntries r
def uptoBulkEntry {H : Type} : Lit × DataW H → Nat
  | (.string bytes, d) => bytes.length + uptoBulk d + 1
  | (_, d) => uptoBulk d + 1
 end
def uptoSmall : (H : Type) → List (DataW H) → Bool := fun _ ds => decide (uptoBulkAll ds ≤ 1048576)
def OpenSpec.upto (s : _root_.Go.ChangeSpec) : _root_.Go.OpenSpec := { _root_.Go.OpenSpec.ofChange s with cond := some uptoSmall }

/-- 'wicketmanlaw08.HeadSame', WHERE WHAT IT READS IS OF BULK AT MOST 1048576: true; the input reads as it did. -/
def headSameUptoRow : OpenClaim := { program := "ytgajaaagpihlkaadoor", sum := "3cb50df573657cd59d6b4b77af90f73aa8b389f95887d7be88802960da3f708c", func := "wicketman/wicketmanlaw08.HeadSame", spec := "headSame", inPlace := ["internal/bytealg.IndexByteString", "internal/bytealg.IndexString"], named := ["internal/bytealg.MaxLen", "unicode/utf8.first", "unicode/utf8.acceptRanges"], apart := false, laid := [("unicode/utf8.acceptRanges", laid_unicode_utf8_acceptRanges), ("unicode/utf8.first", laid_unicode_utf8_first)], narrowed := true }
def HeadSameUptoSaid : Prop := headSameUptoRow.holds Tryd.pinned (OpenSpec.upto headSameSpec)

/-- 'wicketmanlaw08.HeadSigns', WHERE WHAT IT READS IS OF BULK AT MOST 1048576: true; the input reads as it did. -/
def headSignsUptoRow : OpenClaim := { program := "ytgajaaagpihlkaadoor", sum := "3cb50df573657cd59d6b4b77af90f73aa8b389f95887d7be88802960da3f708c", func := "wicketman/wicketmanlaw08.HeadSigns", spec := "headSigns", inPlace := ["internal/bytealg.IndexByteString", "internal/bytealg.IndexString"], named := ["internal/bytealg.MaxLen", "unicode/utf8.first", "unicode/utf8.acceptRanges"], apart := false, laid := [("unicode/utf8.acceptRanges", laid_unicode_utf8_acceptRanges), ("unicode/utf8.first", laid_unicode_utf8_first)], narrowed := true }
def HeadSignsUptoSaid : Prop := headSignsUptoRow.holds Tryd.pinned (OpenSpec.upto headSignsSpec)

/-- 'wicketmanlaw08.HeadValues', WHERE WHAT IT READS IS OF BULK AT MOST 1048576: true; the input reads as it did. -/
def headValuesUptoRow : OpenClaim := { program := "ytgajaaagpihlkaadoor", sum := "3cb50df573657cd59d6b4b77af90f73aa8b389f95887d7be88802960da3f708c", func := "wicketman/wicketmanlaw08.HeadValues", spec := "headValues", inPlace := ["internal/bytealg.IndexByteString", "internal/bytealg.IndexString"], named := ["internal/bytealg.MaxLen", "unicode/utf8.first", "unicode/utf8.acceptRanges"], apart := false, laid := [("unicode/utf8.acceptRanges", laid_unicode_utf8_acceptRanges), ("unicode/utf8.first", laid_unicode_utf8_first)], narrowed := true }
def HeadValuesUptoSaid : Prop := headValuesUptoRow.holds Tryd.pinned (OpenSpec.upto headValuesSpec)

/-- 'wicketmanlaw08.HeadAll', WHERE WHAT IT READS IS OF BULK AT MOST 1048576: true; the input reads as it did. -/
def headAllUptoRow : OpenClaim := { program := "ytgajaaagpihlkaadoor", sum := "3cb50df573657cd59d6b4b77af90f73aa8b389f95887d7be88802960da3f708c", func := "wicketman/wicketmanlaw08.HeadAll", spec := "headAll", inPlace := ["internal/bytealg.IndexByteString", "internal/bytealg.IndexString"], named := ["internal/bytealg.MaxLen", "unicode/utf8.first", "unicode/utf8.acceptRanges"], apart := false, laid := [("unicode/utf8.acceptRanges", laid_unicode_utf8_acceptRanges), ("unicode/utf8.first", laid_unicode_utf8_first)], narrowed := true }
def HeadAllUptoSaid : Prop := headAllUptoRow.holds Tryd.pinned (OpenSpec.upto headAllSpec)

/-- 'wicketmanlaw08.HeadOrder', WHERE WHAT IT READS IS OF BULK AT MOST 1048576: true; the input reads as it did. -/
def headOrderUptoRow : OpenClaim := { program := "ytgajaaagpihlkaadoor", sum := "3cb50df573657cd59d6b4b77af90f73aa8b389f95887d7be88802960da3f708c", func := "wicketman/wicketmanlaw08.HeadOrder", spec := "headOrder", inPlace := ["internal/bytealg.IndexByteString", "internal/bytealg.IndexString"], named := ["internal/bytealg.MaxLen", "unicode/utf8.first", "unicode/utf8.acceptRanges"], apart := false, laid := [("unicode/utf8.acceptRanges", laid_unicode_utf8_acceptRanges), ("unicode/utf8.first", laid_unicode_utf8_first)], narrowed := true }
def HeadOrderUptoSaid : Prop := headOrderUptoRow.holds Tryd.pinned (OpenSpec.upto headOrderSpec)

/-- 'wicketmanlaw08.HeadFields', WHERE WHAT IT READS IS OF BULK AT MOST 1048576: true; the input reads as it did. -/
def headFieldsUptoRow : OpenClaim := { program := "ytgajaaagpihlkaadoor", sum := "3cb50df573657cd59d6b4b77af90f73aa8b389f95887d7be88802960da3f708c", func := "wicketman/wicketmanlaw08.HeadFields", spec := "headFields", inPlace := ["internal/bytealg.IndexByteString", "internal/bytealg.IndexString"], named := ["internal/bytealg.MaxLen", "unicode/utf8.first", "unicode/utf8.acceptRanges"], apart := false, laid := [("unicode/utf8.acceptRanges", laid_unicode_utf8_acceptRanges), ("unicode/utf8.first", laid_unicode_utf8_first)], narrowed := true }
def HeadFieldsUptoSaid : Prop := headFieldsUptoRow.holds Tryd.pinned (OpenSpec.upto headFieldsSpec)

/-- 'wicketmanlaw08.HeadBack', WHERE WHAT IT READS IS OF BULK AT MOST 1048576: true; the input reads as it did. -/
def headBackUptoRow : OpenClaim := { program := "ytgajaaagpihlkaadoor", sum := "3cb50df573657cd59d6b4b77af90f73aa8b389f95887d7be88802960da3f708c", func := "wicketman/wicketmanlaw08.HeadBack", spec := "headBack", inPlace := ["internal/bytealg.IndexByteString", "internal/bytealg.IndexString"], named := ["unicode/utf8.first", "unicode/utf8.acceptRanges", "internal/bytealg.MaxLen"], apart := false, laid := [("unicode/utf8.acceptRanges", laid_unicode_utf8_acceptRanges), ("unicode/utf8.first", laid_unicode_utf8_first)], narrowed := true }
def HeadBackUptoSaid : Prop := headBackUptoRow.holds Tryd.pinned (OpenSpec.upto headBackSpec)

/-- 'wicketmanlaw08.HeadLong', WHERE WHAT IT READS IS OF BULK AT MOST 1048576: true; the input reads as it did. -/
def headLongUptoRow : OpenClaim := { program := "ytgajaaagpihlkaadoor", sum := "3cb50df573657cd59d6b4b77af90f73aa8b389f95887d7be88802960da3f708c", func := "wicketman/wicketmanlaw08.HeadLong", spec := "headLong", inPlace := ["internal/bytealg.IndexByteString", "internal/bytealg.IndexString"], named := ["internal/bytealg.MaxLen", "unicode/utf8.first", "unicode/utf8.acceptRanges"], apart := false, laid := [("unicode/utf8.acceptRanges", laid_unicode_utf8_acceptRanges), ("unicode/utf8.first", laid_unicode_utf8_first)], narrowed := true }
def HeadLongUptoSaid : Prop := headLongUptoRow.holds Tryd.pinned (OpenSpec.upto headLongSpec)

end Rows
end Go.Proofs.YtgajaaagpihlkaaDoor
