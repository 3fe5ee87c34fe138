/-
  DERIVED. GIVEN WITH THE SEED: THE CARDS: each row of YthdiiiopjkaifaaGreatDoorRows.lean that lists a variable, with what it lists TIED to the program's text (the seventh form; the later family's looks); each row that meets fmt, with fmt's text TOLD by the authors' own Lean function (tested against real Go, not proved from fmt's source: count such statements apart). THE CARD IS WHAT COUNTS. Prove the row's statement (the work); the ties are given (YthdiiiopjkaifaaGreatDoorTie.lean); close each card by the builder's one call (the guide's Derived/Test/ToyasCard.lean, 'card_holds'). Laid BY PROGRAM, IN A SANDBOX (cutbox-door.mjs). By AI agents, Wed Nov 11 2026. No macro, syntax, notation, axiom, sorry.
-/
import Derived.Test.YthdiiiopjkaifaaGreatDoorRows
import GoSem.ClaimSeven
namespace Go.Proofs.YthdiiiopjkaifaaGreatDoor
namespace Rows

/-- THE TIED CARD OF 'wicketmanlaw19.GateAsks'. -/
def gateAsksCard : Claim7 := { stood := { row := gateAsksRow, standIns := [], harness := (true, "cbaf399387bbab5b2aa857cf5a388fc448ee37b6fc6eda4b010d0fadef5744a6"), looks := true }, kinds := [], alts := [], laidByText := true, laidKinds := [.data, .data, .data, .data, .sentinel, .data, .pinned], laidTests := true, laidLooks := .later }
def GateAsksCardSaid : Prop := Claim7.holds Tryz.pinned (.plain (OpenSpec.ofChange gateAsksSpec)) gateAsksCard

/-- THE TIED CARD OF 'wicketmanlaw19.GatePages'. -/
def gatePagesCard : Claim7 := { stood := { row := gatePagesRow, standIns := [], harness := (true, "cbaf399387bbab5b2aa857cf5a388fc448ee37b6fc6eda4b010d0fadef5744a6"), looks := true }, kinds := [], alts := [], laidByText := true, laidKinds := [.data, .data, .data, .data, .sentinel, .data, .pinned], laidTests := true, laidLooks := .later }
def GatePagesCardSaid : Prop := Claim7.holds Tryz.pinned (.plain (OpenSpec.ofChange gatePagesSpec)) gatePagesCard

/-- THE TIED CARD OF 'wicketmanlaw19.GateAnswers'. -/
def gateAnswersCard : Claim7 := { stood := { row := gateAnswersRow, standIns := [], harness := (true, "cbaf399387bbab5b2aa857cf5a388fc448ee37b6fc6eda4b010d0fadef5744a6"), looks := true }, kinds := [], alts := [], laidByText := true, laidKinds := [.data, .data, .data, .data, .sentinel, .data, .pinned], laidTests := true, laidLooks := .later }
def GateAnswersCardSaid : Prop := Claim7.holds Tryz.pinned (.plain (OpenSpec.ofChange gateAnswersSpec)) gateAnswersCard

/-- THE TIED CARD OF 'wicketmanlaw19.GateWhole'. -/
def gateWholeCard : Claim7 := { stood := { row := gateWholeRow, standIns := [], harness := (true, "cbaf399387bbab5b2aa857cf5a388fc448ee37b6fc6eda4b010d0fadef5744a6"), looks := true }, kinds := [], alts := [], laidByText := true, laidKinds := [.data, .data, .data, .data, .sentinel, .data, .pinned], laidTests := true, laidLooks := .later }
def GateWholeCardSaid : Prop := Claim7.holds Tryz.pinned (.plain (OpenSpec.ofChange gateWholeSpec)) gateWholeCard

/-- THE TIED CARD OF 'wicketmanlaw19.GateCookies'. -/
def gateCookiesCard : Claim7 := { stood := { row := gateCookiesRow, standIns := [], harness := (true, "cbaf399387bbab5b2aa857cf5a388fc448ee37b6fc6eda4b010d0fadef5744a6"), looks := true }, kinds := [], alts := [], laidByText := true, laidKinds := [.data, .data, .data, .data, .sentinel, .data, .pinned], laidTests := true, laidLooks := .later }
def GateCookiesCardSaid : Prop := Claim7.holds Tryz.pinned (.plain (OpenSpec.ofChange gateCookiesSpec)) gateCookiesCard

/-- THE TIED CARD OF 'wicketmanlaw19.GateTwice'. -/
def gateTwiceCard : Claim7 := { stood := { row := gateTwiceRow, standIns := [], harness := (true, "cbaf399387bbab5b2aa857cf5a388fc448ee37b6fc6eda4b010d0fadef5744a6"), looks := true }, kinds := [], alts := [], laidByText := true, laidKinds := [.data, .data, .data, .data, .sentinel, .data, .pinned], laidTests := true, laidLooks := .later }
def GateTwiceCardSaid : Prop := Claim7.holds Tryz.pinned (.plain (OpenSpec.ofChange gateTwiceSpec)) gateTwiceCard

/-- THE TIED CARD OF 'wicketmanlaw19.GatePaths'. -/
def gatePathsCard : Claim7 := { stood := { row := gatePathsRow, standIns := [], harness := (true, "cbaf399387bbab5b2aa857cf5a388fc448ee37b6fc6eda4b010d0fadef5744a6"), looks := true }, kinds := [], alts := [], laidByText := true, laidKinds := [.data, .data, .data, .data, .sentinel, .data, .pinned], laidTests := true, laidLooks := .later }
def GatePathsCardSaid : Prop := Claim7.holds Tryz.pinned (.plain (OpenSpec.ofChange gatePathsSpec)) gatePathsCard

/-- THE TIED CARD OF 'wicketmanlaw19.GateEscapes'. -/
def gateEscapesCard : Claim7 := { stood := { row := gateEscapesRow, standIns := [], harness := (true, "cbaf399387bbab5b2aa857cf5a388fc448ee37b6fc6eda4b010d0fadef5744a6"), looks := true }, kinds := [], alts := [], laidByText := true, laidKinds := [.data, .data, .data, .data, .sentinel, .data, .pinned], laidTests := true, laidLooks := .later }
def GateEscapesCardSaid : Prop := Claim7.holds Tryz.pinned (.plain (OpenSpec.ofChange gateEscapesSpec)) gateEscapesCard

/-- THE TIED CARD OF 'wicketmanlaw19.GateDraws'. -/
def gateDrawsCard : Claim7 := { stood := { row := gateDrawsRow, standIns := [], harness := (true, "cbaf399387bbab5b2aa857cf5a388fc448ee37b6fc6eda4b010d0fadef5744a6"), looks := true }, kinds := [], alts := [], laidByText := true, laidKinds := [.data, .data, .data, .data, .sentinel, .data, .pinned], laidTests := true, laidLooks := .later }
def GateDrawsCardSaid : Prop := Claim7.holds Tryz.pinned (.plain (OpenSpec.ofChange gateDrawsSpec)) gateDrawsCard

/-- THE SECOND FORM's CARD OF 'wicketmanlaw19.GateAsks'. -/
def gateAsksUptoCard : Claim7 := { stood := { row := gateAsksUptoRow, standIns := [], harness := (true, "cbaf399387bbab5b2aa857cf5a388fc448ee37b6fc6eda4b010d0fadef5744a6"), looks := true }, kinds := [], alts := [], laidByText := true, laidKinds := [.data, .data, .data, .data, .sentinel, .data, .pinned], laidTests := true, laidLooks := .later }
def GateAsksUptoCardSaid : Prop := Claim7.holds Tryz.pinned (.plain (OpenSpec.upto gateAsksSpec)) gateAsksUptoCard

/-- THE SECOND FORM's CARD OF 'wicketmanlaw19.GatePages'. -/
def gatePagesUptoCard : Claim7 := { stood := { row := gatePagesUptoRow, standIns := [], harness := (true, "cbaf399387bbab5b2aa857cf5a388fc448ee37b6fc6eda4b010d0fadef5744a6"), looks := true }, kinds := [], alts := [], laidByText := true, laidKinds := [.data, .data, .data, .data, .sentinel, .data, .pinned], laidTests := true, laidLooks := .later }
def GatePagesUptoCardSaid : Prop := Claim7.holds Tryz.pinned (.plain (OpenSpec.upto gatePagesSpec)) gatePagesUptoCard

/-- THE SECOND FORM's CARD OF 'wicketmanlaw19.GateAnswers'. -/
def gateAnswersUptoCard : Claim7 := { stood := { row := gateAnswersUptoRow, standIns := [], harness := (true, "cbaf399387bbab5b2aa857cf5a388fc448ee37b6fc6eda4b010d0fadef5744a6"), looks := true }, kinds := [], alts := [], laidByText := true, laidKinds := [.data, .data, .data, .data, .sentinel, .data, .pinned], laidTests := true, laidLooks := .later }
def GateAnswersUptoCardSaid : Prop := Claim7.holds Tryz.pinned (.plain (OpenSpec.upto gateAnswersSpec)) gateAnswersUptoCard

/-- THE SECOND FORM's CARD OF 'wicketmanlaw19.GateWhole'. -/
def gateWholeUptoCard : Claim7 := { stood := { row := gateWholeUptoRow, standIns := [], harness := (true, "cbaf399387bbab5b2aa857cf5a388fc448ee37b6fc6eda4b010d0fadef5744a6"), looks := true }, kinds := [], alts := [], laidByText := true, laidKinds := [.data, .data, .data, .data, .sentinel, .data, .pinned], laidTests := true, laidLooks := .later }
def GateWholeUptoCardSaid : Prop := Claim7.holds Tryz.pinned (.plain (OpenSpec.upto gateWholeSpec)) gateWholeUptoCard

/-- THE SECOND FORM's CARD OF 'wicketmanlaw19.GateCookies'. -/
def gateCookiesUptoCard : Claim7 := { stood := { row := gateCookiesUptoRow, standIns := [], harness := (true, "cbaf399387bbab5b2aa857cf5a388fc448ee37b6fc6eda4b010d0fadef5744a6"), looks := true }, kinds := [], alts := [], laidByText := true, laidKinds := [.data, .data, .data, .data, .sentinel, .data, .pinned], laidTests := true, laidLooks := .later }
def GateCookiesUptoCardSaid : Prop := Claim7.holds Tryz.pinned (.plain (OpenSpec.upto gateCookiesSpec)) gateCookiesUptoCard

/-- THE SECOND FORM's CARD OF 'wicketmanlaw19.GateTwice'. -/
def gateTwiceUptoCard : Claim7 := { stood := { row := gateTwiceUptoRow, standIns := [], harness := (true, "cbaf399387bbab5b2aa857cf5a388fc448ee37b6fc6eda4b010d0fadef5744a6"), looks := true }, kinds := [], alts := [], laidByText := true, laidKinds := [.data, .data, .data, .data, .sentinel, .data, .pinned], laidTests := true, laidLooks := .later }
def GateTwiceUptoCardSaid : Prop := Claim7.holds Tryz.pinned (.plain (OpenSpec.upto gateTwiceSpec)) gateTwiceUptoCard

/-- THE SECOND FORM's CARD OF 'wicketmanlaw19.GatePaths'. -/
def gatePathsUptoCard : Claim7 := { stood := { row := gatePathsUptoRow, standIns := [], harness := (true, "cbaf399387bbab5b2aa857cf5a388fc448ee37b6fc6eda4b010d0fadef5744a6"), looks := true }, kinds := [], alts := [], laidByText := true, laidKinds := [.data, .data, .data, .data, .sentinel, .data, .pinned], laidTests := true, laidLooks := .later }
def GatePathsUptoCardSaid : Prop := Claim7.holds Tryz.pinned (.plain (OpenSpec.upto gatePathsSpec)) gatePathsUptoCard

/-- THE SECOND FORM's CARD OF 'wicketmanlaw19.GateEscapes'. -/
def gateEscapesUptoCard : Claim7 := { stood := { row := gateEscapesUptoRow, standIns := [], harness := (true, "cbaf399387bbab5b2aa857cf5a388fc448ee37b6fc6eda4b010d0fadef5744a6"), looks := true }, kinds := [], alts := [], laidByText := true, laidKinds := [.data, .data, .data, .data, .sentinel, .data, .pinned], laidTests := true, laidLooks := .later }
def GateEscapesUptoCardSaid : Prop := Claim7.holds Tryz.pinned (.plain (OpenSpec.upto gateEscapesSpec)) gateEscapesUptoCard

/-- THE SECOND FORM's CARD OF 'wicketmanlaw19.GateDraws'. -/
def gateDrawsUptoCard : Claim7 := { stood := { row := gateDrawsUptoRow, standIns := [], harness := (true, "cbaf399387bbab5b2aa857cf5a388fc448ee37b6fc6eda4b010d0fadef5744a6"), looks := true }, kinds := [], alts := [], laidByText := true, laidKinds := [.data, .data, .data, .data, .sentinel, .data, .pinned], laidTests := true, laidLooks := .later }
def GateDrawsUptoCardSaid : Prop := Claim7.holds Tryz.pinned (.plain (OpenSpec.upto gateDrawsSpec)) gateDrawsUptoCard
end Rows
end Go.Proofs.YthdiiiopjkaifaaGreatDoor
