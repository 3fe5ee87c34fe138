/-
  DERIVED. GIVEN WITH THE SEED: THE CARDS: each row of YtgajaaagpihlkaaDoorRows.lean that lists a variable, with what it lists TIED to the program's text (the seventh form; the later family's looks); each row that meets fmt, with fmt's text TOLD by the authors' own Lean function (tested against real Go, not proved from fmt's source: count such statements apart). THE CARD IS WHAT COUNTS. Prove the row's statement (the work); the ties are given (YtgajaaagpihlkaaDoorTie.lean); close each card by the builder's one call (the guide's Derived/Test/ToyasCard.lean, 'card_holds'). Laid BY PROGRAM, IN A SANDBOX (cutbox-door.mjs). By AI agents, Wed Nov 11 2026. No macro, syntax, notation, axiom, sorry.
-/
import Derived.Test.YtgajaaagpihlkaaDoorRows
import GoSem.ClaimSeven
namespace Go.Proofs.YtgajaaagpihlkaaDoor
namespace Rows

/-- THE TIED CARD OF 'wicketmanlaw08.HeadSame'. -/
def headSameCard : Claim7 := { stood := { row := headSameRow, standIns := [], harness := (true, "354fb149afdaf3c4257d8e9b9bc27b1df5f32269821a08f6267663514def154d"), looks := false }, kinds := [], alts := [], laidByText := true, laidKinds := [.data, .pinned], laidTests := true, laidLooks := .later }
def HeadSameCardSaid : Prop := Claim7.holds Tryd.pinned (.plain (OpenSpec.ofChange headSameSpec)) headSameCard

/-- THE TIED CARD OF 'wicketmanlaw08.HeadSigns'. -/
def headSignsCard : Claim7 := { stood := { row := headSignsRow, standIns := [], harness := (true, "354fb149afdaf3c4257d8e9b9bc27b1df5f32269821a08f6267663514def154d"), looks := false }, kinds := [], alts := [], laidByText := true, laidKinds := [.data, .pinned], laidTests := true, laidLooks := .later }
def HeadSignsCardSaid : Prop := Claim7.holds Tryd.pinned (.plain (OpenSpec.ofChange headSignsSpec)) headSignsCard

/-- THE TIED CARD OF 'wicketmanlaw08.HeadValues'. -/
def headValuesCard : Claim7 := { stood := { row := headValuesRow, standIns := [], harness := (true, "354fb149afdaf3c4257d8e9b9bc27b1df5f32269821a08f6267663514def154d"), looks := false }, kinds := [], alts := [], laidByText := true, laidKinds := [.data, .pinned], laidTests := true, laidLooks := .later }
def HeadValuesCardSaid : Prop := Claim7.holds Tryd.pinned (.plain (OpenSpec.ofChange headValuesSpec)) headValuesCard

/-- THE TIED CARD OF 'wicketmanlaw08.HeadAll'. -/
def headAllCard : Claim7 := { stood := { row := headAllRow, standIns := [], harness := (true, "354fb149afdaf3c4257d8e9b9bc27b1df5f32269821a08f6267663514def154d"), looks := false }, kinds := [], alts := [], laidByText := true, laidKinds := [.data, .pinned], laidTests := true, laidLooks := .later }
def HeadAllCardSaid : Prop := Claim7.holds Tryd.pinned (.plain (OpenSpec.ofChange headAllSpec)) headAllCard

/-- THE TIED CARD OF 'wicketmanlaw08.HeadOrder'. -/
def headOrderCard : Claim7 := { stood := { row := headOrderRow, standIns := [], harness := (true, "354fb149afdaf3c4257d8e9b9bc27b1df5f32269821a08f6267663514def154d"), looks := false }, kinds := [], alts := [], laidByText := true, laidKinds := [.data, .pinned], laidTests := true, laidLooks := .later }
def HeadOrderCardSaid : Prop := Claim7.holds Tryd.pinned (.plain (OpenSpec.ofChange headOrderSpec)) headOrderCard

/-- THE TIED CARD OF 'wicketmanlaw08.HeadFields'. -/
def headFieldsCard : Claim7 := { stood := { row := headFieldsRow, standIns := [], harness := (true, "354fb149afdaf3c4257d8e9b9bc27b1df5f32269821a08f6267663514def154d"), looks := false }, kinds := [], alts := [], laidByText := true, laidKinds := [.data, .pinned], laidTests := true, laidLooks := .later }
def HeadFieldsCardSaid : Prop := Claim7.holds Tryd.pinned (.plain (OpenSpec.ofChange headFieldsSpec)) headFieldsCard

/-- THE TIED CARD OF 'wicketmanlaw08.HeadBack'. -/
def headBackCard : Claim7 := { stood := { row := headBackRow, standIns := [], harness := (true, "354fb149afdaf3c4257d8e9b9bc27b1df5f32269821a08f6267663514def154d"), looks := false }, kinds := [], alts := [], laidByText := true, laidKinds := [.data, .pinned], laidTests := true, laidLooks := .later }
def HeadBackCardSaid : Prop := Claim7.holds Tryd.pinned (.plain (OpenSpec.ofChange headBackSpec)) headBackCard

/-- THE TIED CARD OF 'wicketmanlaw08.HeadLong'. -/
def headLongCard : Claim7 := { stood := { row := headLongRow, standIns := [], harness := (true, "354fb149afdaf3c4257d8e9b9bc27b1df5f32269821a08f6267663514def154d"), looks := false }, kinds := [], alts := [], laidByText := true, laidKinds := [.data, .pinned], laidTests := true, laidLooks := .later }
def HeadLongCardSaid : Prop := Claim7.holds Tryd.pinned (.plain (OpenSpec.ofChange headLongSpec)) headLongCard

/-- THE SECOND FORM's CARD OF 'wicketmanlaw08.HeadSame'. -/
def headSameUptoCard : Claim7 := { stood := { row := headSameUptoRow, standIns := [], harness := (true, "354fb149afdaf3c4257d8e9b9bc27b1df5f32269821a08f6267663514def154d"), looks := false }, kinds := [], alts := [], laidByText := true, laidKinds := [.data, .pinned], laidTests := true, laidLooks := .later }
def HeadSameUptoCardSaid : Prop := Claim7.holds Tryd.pinned (.plain (OpenSpec.upto headSameSpec)) headSameUptoCard

/-- THE SECOND FORM's CARD OF 'wicketmanlaw08.HeadSigns'. -/
def headSignsUptoCard : Claim7 := { stood := { row := headSignsUptoRow, standIns := [], harness := (true, "354fb149afdaf3c4257d8e9b9bc27b1df5f32269821a08f6267663514def154d"), looks := false }, kinds := [], alts := [], laidByText := true, laidKinds := [.data, .pinned], laidTests := true, laidLooks := .later }
def HeadSignsUptoCardSaid : Prop := Claim7.holds Tryd.pinned (.plain (OpenSpec.upto headSignsSpec)) headSignsUptoCard

/-- THE SECOND FORM's CARD OF 'wicketmanlaw08.HeadValues'. -/
def headValuesUptoCard : Claim7 := { stood := { row := headValuesUptoRow, standIns := [], harness := (true, "354fb149afdaf3c4257d8e9b9bc27b1df5f32269821a08f6267663514def154d"), looks := false }, kinds := [], alts := [], laidByText := true, laidKinds := [.data, .pinned], laidTests := true, laidLooks := .later }
def HeadValuesUptoCardSaid : Prop := Claim7.holds Tryd.pinned (.plain (OpenSpec.upto headValuesSpec)) headValuesUptoCard

/-- THE SECOND FORM's CARD OF 'wicketmanlaw08.HeadAll'. -/
def headAllUptoCard : Claim7 := { stood := { row := headAllUptoRow, standIns := [], harness := (true, "354fb149afdaf3c4257d8e9b9bc27b1df5f32269821a08f6267663514def154d"), looks := false }, kinds := [], alts := [], laidByText := true, laidKinds := [.data, .pinned], laidTests := true, laidLooks := .later }
def HeadAllUptoCardSaid : Prop := Claim7.holds Tryd.pinned (.plain (OpenSpec.upto headAllSpec)) headAllUptoCard

/-- THE SECOND FORM's CARD OF 'wicketmanlaw08.HeadOrder'. -/
def headOrderUptoCard : Claim7 := { stood := { row := headOrderUptoRow, standIns := [], harness := (true, "354fb149afdaf3c4257d8e9b9bc27b1df5f32269821a08f6267663514def154d"), looks := false }, kinds := [], alts := [], laidByText := true, laidKinds := [.data, .pinned], laidTests := true, laidLooks := .later }
def HeadOrderUptoCardSaid : Prop := Claim7.holds Tryd.pinned (.plain (OpenSpec.upto headOrderSpec)) headOrderUptoCard

/-- THE SECOND FORM's CARD OF 'wicketmanlaw08.HeadFields'. -/
def headFieldsUptoCard : Claim7 := { stood := { row := headFieldsUptoRow, standIns := [], harness := (true, "354fb149afdaf3c4257d8e9b9bc27b1df5f32269821a08f6267663514def154d"), looks := false }, kinds := [], alts := [], laidByText := true, laidKinds := [.data, .pinned], laidTests := true, laidLooks := .later }
def HeadFieldsUptoCardSaid : Prop := Claim7.holds Tryd.pinned (.plain (OpenSpec.upto headFieldsSpec)) headFieldsUptoCard

/-- THE SECOND FORM's CARD OF 'wicketmanlaw08.HeadBack'. -/
def headBackUptoCard : Claim7 := { stood := { row := headBackUptoRow, standIns := [], harness := (true, "354fb149afdaf3c4257d8e9b9bc27b1df5f32269821a08f6267663514def154d"), looks := false }, kinds := [], alts := [], laidByText := true, laidKinds := [.data, .pinned], laidTests := true, laidLooks := .later }
def HeadBackUptoCardSaid : Prop := Claim7.holds Tryd.pinned (.plain (OpenSpec.upto headBackSpec)) headBackUptoCard

/-- THE SECOND FORM's CARD OF 'wicketmanlaw08.HeadLong'. -/
def headLongUptoCard : Claim7 := { stood := { row := headLongUptoRow, standIns := [], harness := (true, "354fb149afdaf3c4257d8e9b9bc27b1df5f32269821a08f6267663514def154d"), looks := false }, kinds := [], alts := [], laidByText := true, laidKinds := [.data, .pinned], laidTests := true, laidLooks := .later }
def HeadLongUptoCardSaid : Prop := Claim7.holds Tryd.pinned (.plain (OpenSpec.upto headLongSpec)) headLongUptoCard
end Rows
end Go.Proofs.YtgajaaagpihlkaaDoor
