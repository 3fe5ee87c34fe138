/-
  DERIVED. GIVEN WITH THE SEED: THE CARDS: each row of YtpfbemcoblganaaDoorRows.lean that lists a variable, with what it lists TIED to the program's text (the seventh form; the later family's looks); each row that meets fmt, with fmt's text TOLD by the authors' own Lean function (tested against real Go, not proved from fmt's source: count such statements apart). THE CARD IS WHAT COUNTS. Prove the row's statement (the work); the ties are given (YtpfbemcoblganaaDoorTie.lean); close each card by the builder's one call (the guide's Derived/Test/ToyasCard.lean, 'card_holds'). Laid BY PROGRAM, IN A SANDBOX (cutbox-door.mjs). By AI agents, Wed Nov 11 2026. No macro, syntax, notation, axiom, sorry.
-/
import Derived.Test.YtpfbemcoblganaaDoorRows
import GoSem.ClaimSeven
namespace Go.Proofs.YtpfbemcoblganaaDoor
namespace Rows

/-- THE TIED CARD OF 'wicketmanlaw09.HttpParses'. -/
def httpParsesCard : Claim7 := { stood := { row := httpParsesRow, standIns := [], harness := (true, "79a6d220dc140684a9dab3eb2f9ce24deda1b71e26dfa61c675eb49a4432bf09"), looks := true }, kinds := [], alts := [], laidByText := true, laidKinds := [.data, .pinned], laidTests := true, laidLooks := .later }
def HttpParsesCardSaid : Prop := Claim7.holds Tryd.pinned (.plain (OpenSpec.ofChange httpParsesSpec)) httpParsesCard

/-- THE TIED CARD OF 'wicketmanlaw09.HttpSmuggles'. -/
def httpSmugglesCard : Claim7 := { stood := { row := httpSmugglesRow, standIns := [], harness := (true, "79a6d220dc140684a9dab3eb2f9ce24deda1b71e26dfa61c675eb49a4432bf09"), looks := true }, kinds := [], alts := [], laidByText := true, laidKinds := [.data, .pinned], laidTests := true, laidLooks := .later }
def HttpSmugglesCardSaid : Prop := Claim7.holds Tryd.pinned (.plain (OpenSpec.ofChange httpSmugglesSpec)) httpSmugglesCard

/-- THE TIED CARD OF 'wicketmanlaw09.HttpMost'. -/
def httpMostCard : Claim7 := { stood := { row := httpMostRow, standIns := [], harness := (true, "79a6d220dc140684a9dab3eb2f9ce24deda1b71e26dfa61c675eb49a4432bf09"), looks := true }, kinds := [], alts := [], laidByText := true, laidKinds := [.data, .pinned], laidTests := true, laidLooks := .later }
def HttpMostCardSaid : Prop := Claim7.holds Tryd.pinned (.plain (OpenSpec.ofChange httpMostSpec)) httpMostCard

/-- THE TIED CARD OF 'wicketmanlaw09.HttpOrder'. -/
def httpOrderCard : Claim7 := { stood := { row := httpOrderRow, standIns := [], harness := (true, "79a6d220dc140684a9dab3eb2f9ce24deda1b71e26dfa61c675eb49a4432bf09"), looks := true }, kinds := [], alts := [], laidByText := true, laidKinds := [.data, .pinned], laidTests := true, laidLooks := .later }
def HttpOrderCardSaid : Prop := Claim7.holds Tryd.pinned (.plain (OpenSpec.ofChange httpOrderSpec)) httpOrderCard

/-- THE TIED CARD OF 'wicketmanlaw09.HttpLines'. -/
def httpLinesCard : Claim7 := { stood := { row := httpLinesRow, standIns := [], harness := (true, "79a6d220dc140684a9dab3eb2f9ce24deda1b71e26dfa61c675eb49a4432bf09"), looks := true }, kinds := [], alts := [], laidByText := true, laidKinds := [.data, .pinned], laidTests := true, laidLooks := .later }
def HttpLinesCardSaid : Prop := Claim7.holds Tryd.pinned (.plain (OpenSpec.ofChange httpLinesSpec)) httpLinesCard

/-- THE TIED CARD OF 'wicketmanlaw09.HttpAnswer'. -/
def httpAnswerCard : Claim7 := { stood := { row := httpAnswerRow, standIns := [], harness := (true, "79a6d220dc140684a9dab3eb2f9ce24deda1b71e26dfa61c675eb49a4432bf09"), looks := true }, kinds := [], alts := [], laidByText := true, laidKinds := [.data, .pinned], laidTests := true, laidLooks := .later }
def HttpAnswerCardSaid : Prop := Claim7.holds Tryd.pinned (.plain (OpenSpec.ofChange httpAnswerSpec)) httpAnswerCard

/-- THE TIED CARD OF 'wicketmanlaw10.RespMany'. -/
def respManyCard : Claim7 := { stood := { row := respManyRow, standIns := [], harness := (true, "79a6d220dc140684a9dab3eb2f9ce24deda1b71e26dfa61c675eb49a4432bf09"), looks := true }, kinds := [], alts := [], laidByText := true, laidKinds := [.data, .data, .data, .data, .sentinel, .pinned], laidTests := true, laidLooks := .later }
def RespManyCardSaid : Prop := Claim7.holds Tryd.pinned (.plain (OpenSpec.ofChange respManySpec)) respManyCard

/-- THE TIED CARD OF 'wicketmanlaw10.RespPages'. -/
def respPagesCard : Claim7 := { stood := { row := respPagesRow, standIns := [], harness := (true, "79a6d220dc140684a9dab3eb2f9ce24deda1b71e26dfa61c675eb49a4432bf09"), looks := true }, kinds := [], alts := [], laidByText := true, laidKinds := [.data, .data, .data, .data, .sentinel, .pinned], laidTests := true, laidLooks := .later }
def RespPagesCardSaid : Prop := Claim7.holds Tryd.pinned (.plain (OpenSpec.ofChange respPagesSpec)) respPagesCard

/-- THE TIED CARD OF 'wicketmanlaw10.RespFields'. -/
def respFieldsCard : Claim7 := { stood := { row := respFieldsRow, standIns := [], harness := (true, "79a6d220dc140684a9dab3eb2f9ce24deda1b71e26dfa61c675eb49a4432bf09"), looks := true }, kinds := [], alts := [], laidByText := true, laidKinds := [.data, .data, .data, .data, .sentinel, .pinned], laidTests := true, laidLooks := .later }
def RespFieldsCardSaid : Prop := Claim7.holds Tryd.pinned (.plain (OpenSpec.ofChange respFieldsSpec)) respFieldsCard

/-- THE TIED CARD OF 'wicketmanlaw10.RespBack'. -/
def respBackCard : Claim7 := { stood := { row := respBackRow, standIns := [], harness := (true, "79a6d220dc140684a9dab3eb2f9ce24deda1b71e26dfa61c675eb49a4432bf09"), looks := true }, kinds := [], alts := [], laidByText := true, laidKinds := [.data, .data, .data, .data, .sentinel, .pinned], laidTests := true, laidLooks := .later }
def RespBackCardSaid : Prop := Claim7.holds Tryd.pinned (.plain (OpenSpec.ofChange respBackSpec)) respBackCard

/-- THE TIED CARD OF 'wicketmanlaw10.RespOne'. -/
def respOneCard : Claim7 := { stood := { row := respOneRow, standIns := [], harness := (true, "79a6d220dc140684a9dab3eb2f9ce24deda1b71e26dfa61c675eb49a4432bf09"), looks := true }, kinds := [], alts := [], laidByText := true, laidKinds := [.data, .data, .data, .data, .sentinel, .pinned], laidTests := true, laidLooks := .later }
def RespOneCardSaid : Prop := Claim7.holds Tryd.pinned (.plain (OpenSpec.ofChange respOneSpec)) respOneCard

/-- THE TIED CARD OF 'wicketmanlaw10.RespPrints'. -/
def respPrintsCard : Claim7 := { stood := { row := respPrintsRow, standIns := [], harness := (true, "79a6d220dc140684a9dab3eb2f9ce24deda1b71e26dfa61c675eb49a4432bf09"), looks := true }, kinds := [], alts := [], laidByText := true, laidKinds := [.data, .data, .data, .data, .sentinel, .pinned], laidTests := true, laidLooks := .later }
def RespPrintsCardSaid : Prop := Claim7.holds Tryd.pinned (.plain (OpenSpec.ofChange respPrintsSpec)) respPrintsCard

/-- THE TIED CARD OF 'wicketmanlaw09.HttpBack'. -/
def httpBackCard : Claim7 := { stood := { row := httpBackRow, standIns := [], harness := (true, "79a6d220dc140684a9dab3eb2f9ce24deda1b71e26dfa61c675eb49a4432bf09"), looks := true }, kinds := [], alts := [], laidByText := true, laidKinds := [.data, .sentinel, .pinned], laidTests := true, laidLooks := .later }
def HttpBackCardSaid : Prop := Claim7.holds Tryd.pinned (.plain (OpenSpec.ofChange httpBackSpec)) httpBackCard

/-- THE SECOND FORM's CARD OF 'wicketmanlaw09.HttpParses'. -/
def httpParsesUptoCard : Claim7 := { stood := { row := httpParsesUptoRow, standIns := [], harness := (true, "79a6d220dc140684a9dab3eb2f9ce24deda1b71e26dfa61c675eb49a4432bf09"), looks := true }, kinds := [], alts := [], laidByText := true, laidKinds := [.data, .pinned], laidTests := true, laidLooks := .later }
def HttpParsesUptoCardSaid : Prop := Claim7.holds Tryd.pinned (.plain (OpenSpec.upto httpParsesSpec)) httpParsesUptoCard

/-- THE SECOND FORM's CARD OF 'wicketmanlaw09.HttpSmuggles'. -/
def httpSmugglesUptoCard : Claim7 := { stood := { row := httpSmugglesUptoRow, standIns := [], harness := (true, "79a6d220dc140684a9dab3eb2f9ce24deda1b71e26dfa61c675eb49a4432bf09"), looks := true }, kinds := [], alts := [], laidByText := true, laidKinds := [.data, .pinned], laidTests := true, laidLooks := .later }
def HttpSmugglesUptoCardSaid : Prop := Claim7.holds Tryd.pinned (.plain (OpenSpec.upto httpSmugglesSpec)) httpSmugglesUptoCard

/-- THE SECOND FORM's CARD OF 'wicketmanlaw09.HttpMost'. -/
def httpMostUptoCard : Claim7 := { stood := { row := httpMostUptoRow, standIns := [], harness := (true, "79a6d220dc140684a9dab3eb2f9ce24deda1b71e26dfa61c675eb49a4432bf09"), looks := true }, kinds := [], alts := [], laidByText := true, laidKinds := [.data, .pinned], laidTests := true, laidLooks := .later }
def HttpMostUptoCardSaid : Prop := Claim7.holds Tryd.pinned (.plain (OpenSpec.upto httpMostSpec)) httpMostUptoCard

/-- THE SECOND FORM's CARD OF 'wicketmanlaw09.HttpOrder'. -/
def httpOrderUptoCard : Claim7 := { stood := { row := httpOrderUptoRow, standIns := [], harness := (true, "79a6d220dc140684a9dab3eb2f9ce24deda1b71e26dfa61c675eb49a4432bf09"), looks := true }, kinds := [], alts := [], laidByText := true, laidKinds := [.data, .pinned], laidTests := true, laidLooks := .later }
def HttpOrderUptoCardSaid : Prop := Claim7.holds Tryd.pinned (.plain (OpenSpec.upto httpOrderSpec)) httpOrderUptoCard

/-- THE SECOND FORM's CARD OF 'wicketmanlaw09.HttpLines'. -/
def httpLinesUptoCard : Claim7 := { stood := { row := httpLinesUptoRow, standIns := [], harness := (true, "79a6d220dc140684a9dab3eb2f9ce24deda1b71e26dfa61c675eb49a4432bf09"), looks := true }, kinds := [], alts := [], laidByText := true, laidKinds := [.data, .pinned], laidTests := true, laidLooks := .later }
def HttpLinesUptoCardSaid : Prop := Claim7.holds Tryd.pinned (.plain (OpenSpec.upto httpLinesSpec)) httpLinesUptoCard

/-- THE SECOND FORM's CARD OF 'wicketmanlaw09.HttpAnswer'. -/
def httpAnswerUptoCard : Claim7 := { stood := { row := httpAnswerUptoRow, standIns := [], harness := (true, "79a6d220dc140684a9dab3eb2f9ce24deda1b71e26dfa61c675eb49a4432bf09"), looks := true }, kinds := [], alts := [], laidByText := true, laidKinds := [.data, .pinned], laidTests := true, laidLooks := .later }
def HttpAnswerUptoCardSaid : Prop := Claim7.holds Tryd.pinned (.plain (OpenSpec.upto httpAnswerSpec)) httpAnswerUptoCard

/-- THE SECOND FORM's CARD OF 'wicketmanlaw10.RespMany'. -/
def respManyUptoCard : Claim7 := { stood := { row := respManyUptoRow, standIns := [], harness := (true, "79a6d220dc140684a9dab3eb2f9ce24deda1b71e26dfa61c675eb49a4432bf09"), looks := true }, kinds := [], alts := [], laidByText := true, laidKinds := [.data, .data, .data, .data, .sentinel, .pinned], laidTests := true, laidLooks := .later }
def RespManyUptoCardSaid : Prop := Claim7.holds Tryd.pinned (.plain (OpenSpec.upto respManySpec)) respManyUptoCard

/-- THE SECOND FORM's CARD OF 'wicketmanlaw10.RespPages'. -/
def respPagesUptoCard : Claim7 := { stood := { row := respPagesUptoRow, standIns := [], harness := (true, "79a6d220dc140684a9dab3eb2f9ce24deda1b71e26dfa61c675eb49a4432bf09"), looks := true }, kinds := [], alts := [], laidByText := true, laidKinds := [.data, .data, .data, .data, .sentinel, .pinned], laidTests := true, laidLooks := .later }
def RespPagesUptoCardSaid : Prop := Claim7.holds Tryd.pinned (.plain (OpenSpec.upto respPagesSpec)) respPagesUptoCard

/-- THE SECOND FORM's CARD OF 'wicketmanlaw10.RespFields'. -/
def respFieldsUptoCard : Claim7 := { stood := { row := respFieldsUptoRow, standIns := [], harness := (true, "79a6d220dc140684a9dab3eb2f9ce24deda1b71e26dfa61c675eb49a4432bf09"), looks := true }, kinds := [], alts := [], laidByText := true, laidKinds := [.data, .data, .data, .data, .sentinel, .pinned], laidTests := true, laidLooks := .later }
def RespFieldsUptoCardSaid : Prop := Claim7.holds Tryd.pinned (.plain (OpenSpec.upto respFieldsSpec)) respFieldsUptoCard

/-- THE SECOND FORM's CARD OF 'wicketmanlaw10.RespBack'. -/
def respBackUptoCard : Claim7 := { stood := { row := respBackUptoRow, standIns := [], harness := (true, "79a6d220dc140684a9dab3eb2f9ce24deda1b71e26dfa61c675eb49a4432bf09"), looks := true }, kinds := [], alts := [], laidByText := true, laidKinds := [.data, .data, .data, .data, .sentinel, .pinned], laidTests := true, laidLooks := .later }
def RespBackUptoCardSaid : Prop := Claim7.holds Tryd.pinned (.plain (OpenSpec.upto respBackSpec)) respBackUptoCard

/-- THE SECOND FORM's CARD OF 'wicketmanlaw10.RespOne'. -/
def respOneUptoCard : Claim7 := { stood := { row := respOneUptoRow, standIns := [], harness := (true, "79a6d220dc140684a9dab3eb2f9ce24deda1b71e26dfa61c675eb49a4432bf09"), looks := true }, kinds := [], alts := [], laidByText := true, laidKinds := [.data, .data, .data, .data, .sentinel, .pinned], laidTests := true, laidLooks := .later }
def RespOneUptoCardSaid : Prop := Claim7.holds Tryd.pinned (.plain (OpenSpec.upto respOneSpec)) respOneUptoCard

/-- THE SECOND FORM's CARD OF 'wicketmanlaw10.RespPrints'. -/
def respPrintsUptoCard : Claim7 := { stood := { row := respPrintsUptoRow, standIns := [], harness := (true, "79a6d220dc140684a9dab3eb2f9ce24deda1b71e26dfa61c675eb49a4432bf09"), looks := true }, kinds := [], alts := [], laidByText := true, laidKinds := [.data, .data, .data, .data, .sentinel, .pinned], laidTests := true, laidLooks := .later }
def RespPrintsUptoCardSaid : Prop := Claim7.holds Tryd.pinned (.plain (OpenSpec.upto respPrintsSpec)) respPrintsUptoCard

/-- THE SECOND FORM's CARD OF 'wicketmanlaw09.HttpBack'. -/
def httpBackUptoCard : Claim7 := { stood := { row := httpBackUptoRow, standIns := [], harness := (true, "79a6d220dc140684a9dab3eb2f9ce24deda1b71e26dfa61c675eb49a4432bf09"), looks := true }, kinds := [], alts := [], laidByText := true, laidKinds := [.data, .sentinel, .pinned], laidTests := true, laidLooks := .later }
def HttpBackUptoCardSaid : Prop := Claim7.holds Tryd.pinned (.plain (OpenSpec.upto httpBackSpec)) httpBackUptoCard
end Rows
end Go.Proofs.YtpfbemcoblganaaDoor
