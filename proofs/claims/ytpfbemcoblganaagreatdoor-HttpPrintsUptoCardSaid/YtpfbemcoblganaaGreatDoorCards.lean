/-
  DERIVED. GIVEN WITH THE SEED: THE CARDS: each row of YtpfbemcoblganaaGreatDoorRows.lean that lists a variable, with what it lists TIED to the program's text (the seventh form; the later family's looks); each row that meets fmt, with fmt's text TOLD by the authors' own Lean function (tested against real Go, not proved from fmt's source: count such statements apart). THE CARD IS WHAT COUNTS. Prove the row's statement (the work); the ties are given (YtpfbemcoblganaaGreatDoorTie.lean); close each card by the builder's one call (the guide's Derived/Test/ToyasCard.lean, 'card_holds'). Laid BY PROGRAM, IN A SANDBOX (cutbox-door.mjs). By AI agents, Wed Nov 11 2026. No macro, syntax, notation, axiom, sorry.
-/
import Derived.Test.YtpfbemcoblganaaGreatDoorRows
import GoSem.ClaimSeven
namespace Go.Proofs.YtpfbemcoblganaaGreatDoor
namespace Rows

/-- THE TIED CARD OF 'wicketmanlaw09.HttpPrints'. -/
def httpPrintsCard : Claim7 := { stood := { row := httpPrintsRow, standIns := [], harness := (true, "b876c1a0e1a3a14b57b19db0465ff9f8fd19849d3cb0d274e8f8007ad21ad6f2"), looks := true }, kinds := [], alts := [], laidByText := true, laidKinds := [.data, .sentinel, .pinned], laidTests := true, laidLooks := .later }
def HttpPrintsCardSaid : Prop := Claim7.holds Tryz.pinned (.plain (OpenSpec.ofChange httpPrintsSpec)) httpPrintsCard

/-- THE SECOND FORM's CARD OF 'wicketmanlaw09.HttpPrints'. -/
def httpPrintsUptoCard : Claim7 := { stood := { row := httpPrintsUptoRow, standIns := [], harness := (true, "b876c1a0e1a3a14b57b19db0465ff9f8fd19849d3cb0d274e8f8007ad21ad6f2"), looks := true }, kinds := [], alts := [], laidByText := true, laidKinds := [.data, .sentinel, .pinned], laidTests := true, laidLooks := .later }
def HttpPrintsUptoCardSaid : Prop := Claim7.holds Tryz.pinned (.plain (OpenSpec.upto httpPrintsSpec)) httpPrintsUptoCard
end Rows
end Go.Proofs.YtpfbemcoblganaaGreatDoor
