/-
  DERIVED. GIVEN WITH THE SEED: THE CARDS: each row of YtipbgnhhmgljnaaDoorRows.lean that lists a variable, with what it lists TIED to the program's text (the seventh form; the later family's looks); each row that meets fmt, with fmt's text TOLD by the authors' own Lean function (tested against real Go, not proved from fmt's source: count such statements apart). THE CARD IS WHAT COUNTS. Prove the row's statement (the work); the ties are given (YtipbgnhhmgljnaaDoorTie.lean); close each card by the builder's one call (the guide's Derived/Test/ToyasCard.lean, 'card_holds'). Laid BY PROGRAM, IN A SANDBOX (cutbox-door.mjs). By AI agents, Wed Nov 11 2026. No macro, syntax, notation, axiom, sorry.
-/
import Derived.Test.YtipbgnhhmgljnaaDoorRows
import GoSem.ClaimSeven
namespace Go.Proofs.YtipbgnhhmgljnaaDoor
namespace Rows

/-- THE TIED CARD OF 'wicketmanlaw11.CookieParses'. -/
def cookieParsesCard : Claim7 := { stood := { row := cookieParsesRow, standIns := [], harness := (true, "82b5f123bb936d0beffd2142160fa2ce6c33d3fa771e2f017819932a8649ff2e"), looks := false }, kinds := [], alts := [], laidByText := true, laidKinds := [.data, .data, .data, .data, .pinned], laidTests := true, laidLooks := .later }
def CookieParsesCardSaid : Prop := Claim7.holds Tryd.pinned (.plain (OpenSpec.ofChange cookieParsesSpec)) cookieParsesCard

/-- THE TIED CARD OF 'wicketmanlaw11.CookieTwice'. -/
def cookieTwiceCard : Claim7 := { stood := { row := cookieTwiceRow, standIns := [], harness := (true, "82b5f123bb936d0beffd2142160fa2ce6c33d3fa771e2f017819932a8649ff2e"), looks := false }, kinds := [], alts := [], laidByText := true, laidKinds := [.data, .data, .data, .data, .pinned], laidTests := true, laidLooks := .later }
def CookieTwiceCardSaid : Prop := Claim7.holds Tryd.pinned (.plain (OpenSpec.ofChange cookieTwiceSpec)) cookieTwiceCard

/-- THE TIED CARD OF 'wicketmanlaw11.CookieQuotes'. -/
def cookieQuotesCard : Claim7 := { stood := { row := cookieQuotesRow, standIns := [], harness := (true, "82b5f123bb936d0beffd2142160fa2ce6c33d3fa771e2f017819932a8649ff2e"), looks := false }, kinds := [], alts := [], laidByText := true, laidKinds := [.data, .data, .data, .data, .pinned], laidTests := true, laidLooks := .later }
def CookieQuotesCardSaid : Prop := Claim7.holds Tryd.pinned (.plain (OpenSpec.ofChange cookieQuotesSpec)) cookieQuotesCard

/-- THE TIED CARD OF 'wicketmanlaw11.CookieAges'. -/
def cookieAgesCard : Claim7 := { stood := { row := cookieAgesRow, standIns := [], harness := (true, "82b5f123bb936d0beffd2142160fa2ce6c33d3fa771e2f017819932a8649ff2e"), looks := false }, kinds := [], alts := [], laidByText := true, laidKinds := [.data, .data, .data, .data, .pinned], laidTests := true, laidLooks := .later }
def CookieAgesCardSaid : Prop := Claim7.holds Tryd.pinned (.plain (OpenSpec.ofChange cookieAgesSpec)) cookieAgesCard

/-- THE TIED CARD OF 'wicketmanlaw11.CookieHost'. -/
def cookieHostCard : Claim7 := { stood := { row := cookieHostRow, standIns := [], harness := (true, "82b5f123bb936d0beffd2142160fa2ce6c33d3fa771e2f017819932a8649ff2e"), looks := false }, kinds := [], alts := [], laidByText := true, laidKinds := [.data, .data, .data, .data, .pinned], laidTests := true, laidLooks := .later }
def CookieHostCardSaid : Prop := Claim7.holds Tryd.pinned (.plain (OpenSpec.ofChange cookieHostSpec)) cookieHostCard

/-- THE TIED CARD OF 'wicketmanlaw11.CookieBack'. -/
def cookieBackCard : Claim7 := { stood := { row := cookieBackRow, standIns := [], harness := (true, "82b5f123bb936d0beffd2142160fa2ce6c33d3fa771e2f017819932a8649ff2e"), looks := false }, kinds := [], alts := [], laidByText := true, laidKinds := [.data, .data, .data, .data, .pinned], laidTests := true, laidLooks := .later }
def CookieBackCardSaid : Prop := Claim7.holds Tryd.pinned (.plain (OpenSpec.ofChange cookieBackSpec)) cookieBackCard

/-- THE TIED CARD OF 'wicketmanlaw11.CookieSets'. -/
def cookieSetsCard : Claim7 := { stood := { row := cookieSetsRow, standIns := [], harness := (true, "82b5f123bb936d0beffd2142160fa2ce6c33d3fa771e2f017819932a8649ff2e"), looks := false }, kinds := [], alts := [], laidByText := true, laidKinds := [.data, .data, .data, .data, .pinned], laidTests := true, laidLooks := .later }
def CookieSetsCardSaid : Prop := Claim7.holds Tryd.pinned (.plain (OpenSpec.ofChange cookieSetsSpec)) cookieSetsCard

/-- THE SECOND FORM's CARD OF 'wicketmanlaw11.CookieParses'. -/
def cookieParsesUptoCard : Claim7 := { stood := { row := cookieParsesUptoRow, standIns := [], harness := (true, "82b5f123bb936d0beffd2142160fa2ce6c33d3fa771e2f017819932a8649ff2e"), looks := false }, kinds := [], alts := [], laidByText := true, laidKinds := [.data, .data, .data, .data, .pinned], laidTests := true, laidLooks := .later }
def CookieParsesUptoCardSaid : Prop := Claim7.holds Tryd.pinned (.plain (OpenSpec.upto cookieParsesSpec)) cookieParsesUptoCard

/-- THE SECOND FORM's CARD OF 'wicketmanlaw11.CookieTwice'. -/
def cookieTwiceUptoCard : Claim7 := { stood := { row := cookieTwiceUptoRow, standIns := [], harness := (true, "82b5f123bb936d0beffd2142160fa2ce6c33d3fa771e2f017819932a8649ff2e"), looks := false }, kinds := [], alts := [], laidByText := true, laidKinds := [.data, .data, .data, .data, .pinned], laidTests := true, laidLooks := .later }
def CookieTwiceUptoCardSaid : Prop := Claim7.holds Tryd.pinned (.plain (OpenSpec.upto cookieTwiceSpec)) cookieTwiceUptoCard

/-- THE SECOND FORM's CARD OF 'wicketmanlaw11.CookieQuotes'. -/
def cookieQuotesUptoCard : Claim7 := { stood := { row := cookieQuotesUptoRow, standIns := [], harness := (true, "82b5f123bb936d0beffd2142160fa2ce6c33d3fa771e2f017819932a8649ff2e"), looks := false }, kinds := [], alts := [], laidByText := true, laidKinds := [.data, .data, .data, .data, .pinned], laidTests := true, laidLooks := .later }
def CookieQuotesUptoCardSaid : Prop := Claim7.holds Tryd.pinned (.plain (OpenSpec.upto cookieQuotesSpec)) cookieQuotesUptoCard

/-- THE SECOND FORM's CARD OF 'wicketmanlaw11.CookieAges'. -/
def cookieAgesUptoCard : Claim7 := { stood := { row := cookieAgesUptoRow, standIns := [], harness := (true, "82b5f123bb936d0beffd2142160fa2ce6c33d3fa771e2f017819932a8649ff2e"), looks := false }, kinds := [], alts := [], laidByText := true, laidKinds := [.data, .data, .data, .data, .pinned], laidTests := true, laidLooks := .later }
def CookieAgesUptoCardSaid : Prop := Claim7.holds Tryd.pinned (.plain (OpenSpec.upto cookieAgesSpec)) cookieAgesUptoCard

/-- THE SECOND FORM's CARD OF 'wicketmanlaw11.CookieHost'. -/
def cookieHostUptoCard : Claim7 := { stood := { row := cookieHostUptoRow, standIns := [], harness := (true, "82b5f123bb936d0beffd2142160fa2ce6c33d3fa771e2f017819932a8649ff2e"), looks := false }, kinds := [], alts := [], laidByText := true, laidKinds := [.data, .data, .data, .data, .pinned], laidTests := true, laidLooks := .later }
def CookieHostUptoCardSaid : Prop := Claim7.holds Tryd.pinned (.plain (OpenSpec.upto cookieHostSpec)) cookieHostUptoCard

/-- THE SECOND FORM's CARD OF 'wicketmanlaw11.CookieBack'. -/
def cookieBackUptoCard : Claim7 := { stood := { row := cookieBackUptoRow, standIns := [], harness := (true, "82b5f123bb936d0beffd2142160fa2ce6c33d3fa771e2f017819932a8649ff2e"), looks := false }, kinds := [], alts := [], laidByText := true, laidKinds := [.data, .data, .data, .data, .pinned], laidTests := true, laidLooks := .later }
def CookieBackUptoCardSaid : Prop := Claim7.holds Tryd.pinned (.plain (OpenSpec.upto cookieBackSpec)) cookieBackUptoCard

/-- THE SECOND FORM's CARD OF 'wicketmanlaw11.CookieSets'. -/
def cookieSetsUptoCard : Claim7 := { stood := { row := cookieSetsUptoRow, standIns := [], harness := (true, "82b5f123bb936d0beffd2142160fa2ce6c33d3fa771e2f017819932a8649ff2e"), looks := false }, kinds := [], alts := [], laidByText := true, laidKinds := [.data, .data, .data, .data, .pinned], laidTests := true, laidLooks := .later }
def CookieSetsUptoCardSaid : Prop := Claim7.holds Tryd.pinned (.plain (OpenSpec.upto cookieSetsSpec)) cookieSetsUptoCard
end Rows
end Go.Proofs.YtipbgnhhmgljnaaDoor
