/-
  NARROWER THAN 'FOR EVERY INPUT', by the rows' own cells (each row's printed sentence says how): HttpParses: laid · HttpSmuggles: laid · HttpMost: laid · HttpOrder: laid · HttpLines: laid · HttpAnswer: laid · RespMany: laid · RespPages: laid · RespFields: laid · RespBack: laid · RespOne: laid · RespPrints: laid · HttpBack: laid.
  DERIVED. THE GIVEN ROWS OF THIS SEAT. 13 by the template 'for every input the law returns true; each argument reads behind the call as it read before'; 0 by the template 'total and deterministic' (their statements: YtpfbemcoblganaaDoorTotals.lean).
  GIVEN WITH THE SEED: the statements are not yours to turn. If you find one false, say at which input.
  Laid BY PROGRAM, IN A SANDBOX (cutbox-rows.mjs): the forced cells as the released guide's own fill.sh prints them over the translation de07844425e0d9c8… (all of the seat's roots in one cut). By AI agents, Wed Nov 11 2026. No macro, syntax, notation, axiom, sorry.
-/
import Derived.Test.YtpfbemcoblganaaDoorChecked
import GoSem.PinnedTables
import GoSem.Claim
import GoSem.ClaimJoined
import GoSem.ClaimMapViews
import Derived.JoinedTies
import Derived.KernelRfl
namespace Go.Proofs.YtpfbemcoblganaaDoor
/- THE CELL 'sum', in the pinned program and in every row, IS THE sha256 OF THE DUMP (.gsa) THAT YtpfbemcoblganaaDoorProg.lean LOADS. Nothing in Lean hashes anything: it is a label: what it is worth is what the hold of that sum in a sandbox is worth. -/
noncomputable def Tryd.pinned : Pinned := { name := "ytpfbemcoblganaadoor", sum := "de07844425e0d9c8fe7c20fb1c54be316e450b4e35f3f7225fbeba5b43ba63b1", checked := Tryd.checked }
namespace Rows
def none {H : Type} : Left H := { results := [], args := [] }

/- WHAT THE LISTED PACKAGE-LEVEL VARIABLES READ AS WHEN THE CALL BEGINS. Each datum BY PROGRAM (the guide's laid-datum.mjs) off the statement by which the dump's own 'gosem.cut.vars' lays the variable. In a bare row this is a premise. The card (YtpfbemcoblganaaDoorCards.lean) ties it to the program's text. -/
def laid_unicode_utf8_acceptRanges {H : Type} : DataW H := .agg [.agg [.lit (.int .u8 128), .lit (.int .u8 191)], .agg [.lit (.int .u8 160), .lit (.int .u8 191)], .agg [.lit (.int .u8 128), .lit (.int .u8 159)], .agg [.lit (.int .u8 144), .lit (.int .u8 191)], .agg [.lit (.int .u8 128), .lit (.int .u8 143)], .agg [.lit (.int .u8 0), .lit (.int .u8 0)], .agg [.lit (.int .u8 0), .lit (.int .u8 0)], .agg [.lit (.int .u8 0), .lit (.int .u8 0)], .agg [.lit (.int .u8 0), .lit (.int .u8 0)], .agg [.lit (.int .u8 0), .lit (.int .u8 0)], .agg [.lit (.int .u8 0), .lit (.int .u8 0)], .agg [.lit (.int .u8 0), .lit (.int .u8 0)], .agg [.lit (.int .u8 0), .lit (.int .u8 0)], .agg [.lit (.int .u8 0), .lit (.int .u8 0)], .agg [.lit (.int .u8 0), .lit (.int .u8 0)], .agg [.lit (.int .u8 0), .lit (.int .u8 0)]]
/-- One of Go's own tables, pinned by name: the form's constant. -/
def laid_unicode_utf8_first : DataW Unit := Go.Pinned.utf8First
def laid_math_bits_deBruijn32tab {H : Type} : DataW H := .agg [.lit (.int .u8 0), .lit (.int .u8 1), .lit (.int .u8 28), .lit (.int .u8 2), .lit (.int .u8 29), .lit (.int .u8 14), .lit (.int .u8 24), .lit (.int .u8 3), .lit (.int .u8 30), .lit (.int .u8 22), .lit (.int .u8 20), .lit (.int .u8 15), .lit (.int .u8 25), .lit (.int .u8 17), .lit (.int .u8 4), .lit (.int .u8 8), .lit (.int .u8 31), .lit (.int .u8 27), .lit (.int .u8 13), .lit (.int .u8 23), .lit (.int .u8 21), .lit (.int .u8 19), .lit (.int .u8 16), .lit (.int .u8 7), .lit (.int .u8 26), .lit (.int .u8 12), .lit (.int .u8 18), .lit (.int .u8 6), .lit (.int .u8 11), .lit (.int .u8 5), .lit (.int .u8 10), .lit (.int .u8 9)]
def laid_math_bits_deBruijn64tab {H : Type} : DataW H := .agg [.lit (.int .u8 0), .lit (.int .u8 1), .lit (.int .u8 56), .lit (.int .u8 2), .lit (.int .u8 57), .lit (.int .u8 49), .lit (.int .u8 28), .lit (.int .u8 3), .lit (.int .u8 61), .lit (.int .u8 58), .lit (.int .u8 42), .lit (.int .u8 50), .lit (.int .u8 38), .lit (.int .u8 29), .lit (.int .u8 17), .lit (.int .u8 4), .lit (.int .u8 62), .lit (.int .u8 47), .lit (.int .u8 59), .lit (.int .u8 36), .lit (.int .u8 45), .lit (.int .u8 43), .lit (.int .u8 51), .lit (.int .u8 22), .lit (.int .u8 53), .lit (.int .u8 39), .lit (.int .u8 33), .lit (.int .u8 30), .lit (.int .u8 24), .lit (.int .u8 18), .lit (.int .u8 12), .lit (.int .u8 5), .lit (.int .u8 63), .lit (.int .u8 55), .lit (.int .u8 48), .lit (.int .u8 27), .lit (.int .u8 60), .lit (.int .u8 41), .lit (.int .u8 37), .lit (.int .u8 16), .lit (.int .u8 46), .lit (.int .u8 35), .lit (.int .u8 44), .lit (.int .u8 21), .lit (.int .u8 52), .lit (.int .u8 32), .lit (.int .u8 23), .lit (.int .u8 11), .lit (.int .u8 54), .lit (.int .u8 26), .lit (.int .u8 40), .lit (.int .u8 15), .lit (.int .u8 34), .lit (.int .u8 20), .lit (.int .u8 31), .lit (.int .u8 10), .lit (.int .u8 25), .lit (.int .u8 14), .lit (.int .u8 19), .lit (.int .u8 9), .lit (.int .u8 13), .lit (.int .u8 8), .lit (.int .u8 7), .lit (.int .u8 6)]
def laid_internal_strconv_uint64pow10 {H : Type} : DataW H := .agg [.lit (.int .u64 1), .lit (.int .u64 10), .lit (.int .u64 100), .lit (.int .u64 1000), .lit (.int .u64 10000), .lit (.int .u64 100000), .lit (.int .u64 1000000), .lit (.int .u64 10000000), .lit (.int .u64 100000000), .lit (.int .u64 1000000000), .lit (.int .u64 10000000000), .lit (.int .u64 100000000000), .lit (.int .u64 1000000000000), .lit (.int .u64 10000000000000), .lit (.int .u64 100000000000000), .lit (.int .u64 1000000000000000), .lit (.int .u64 10000000000000000), .lit (.int .u64 100000000000000000), .lit (.int .u64 1000000000000000000), .lit (.int .u64 10000000000000000000)]
def laid_bytes_ErrTooLarge {H : Type} : DataW H := .iface "*errors.errorString" (.ptr (.agg [.lit (.string [98, 121, 116, 101, 115, 46, 66, 117, 102, 102, 101, 114, 58, 32, 116, 111, 111, 32, 108, 97, 114, 103, 101])]))

/-- 'wicketmanlaw09.HttpParses': WHATEVER THE INPUT: true; the input reads as it did. -/
def httpParsesSpec : ChangeSpec := { name := "httpParses", fn := fun _ => fun
  | [d1, d2, d3, d4, d5, d6] => { results := [.lit (.bool true)], args := [d1, d2, d3, d4, d5, d6] }
  | _ => none }
def httpParsesRow : OpenClaim := { program := "ytpfbemcoblganaadoor", sum := "de07844425e0d9c8fe7c20fb1c54be316e450b4e35f3f7225fbeba5b43ba63b1", func := "wicketman/wicketmanlaw09.HttpParses", spec := "httpParses", inPlace := ["internal/bytealg.IndexByteString", "internal/bytealg.IndexString", "internal/bytealg.CountString"], unfollowed := true, recurses := true, named := ["internal/bytealg.MaxLen", "unicode/utf8.first", "unicode/utf8.acceptRanges"], apart := false, laid := [("unicode/utf8.acceptRanges", laid_unicode_utf8_acceptRanges), ("unicode/utf8.first", laid_unicode_utf8_first)] }
def HttpParsesSaid : Prop := httpParsesRow.holds Tryd.pinned (OpenSpec.ofChange httpParsesSpec)

/-- ITS FALSE NEIGHBOUR: 'it returns false'. Refute it at one input. -/
def httpParsesWrong : ChangeSpec := { name := "httpParses", fn := fun _ => fun
  | [d1, d2, d3, d4, d5, d6] => { results := [.lit (.bool false)], args := [d1, d2, d3, d4, d5, d6] }
  | _ => none }
def HttpParsesWrongFalsely : Prop := httpParsesRow.holds Tryd.pinned (OpenSpec.ofChange httpParsesWrong)

/-- 'wicketmanlaw09.HttpSmuggles': WHATEVER THE INPUT: true; the input reads as it did. -/
def httpSmugglesSpec : ChangeSpec := { name := "httpSmuggles", fn := fun _ => fun
  | [d1, d2, d3] => { results := [.lit (.bool true)], args := [d1, d2, d3] }
  | _ => none }
def httpSmugglesRow : OpenClaim := { program := "ytpfbemcoblganaadoor", sum := "de07844425e0d9c8fe7c20fb1c54be316e450b4e35f3f7225fbeba5b43ba63b1", func := "wicketman/wicketmanlaw09.HttpSmuggles", spec := "httpSmuggles", inPlace := ["internal/bytealg.IndexByteString", "internal/bytealg.IndexString", "internal/bytealg.CountString"], unfollowed := true, recurses := true, named := ["internal/bytealg.MaxLen", "unicode/utf8.first", "unicode/utf8.acceptRanges"], apart := false, laid := [("unicode/utf8.acceptRanges", laid_unicode_utf8_acceptRanges), ("unicode/utf8.first", laid_unicode_utf8_first)] }
def HttpSmugglesSaid : Prop := httpSmugglesRow.holds Tryd.pinned (OpenSpec.ofChange httpSmugglesSpec)

/-- ITS FALSE NEIGHBOUR: 'it returns false'. Refute it at one input. -/
def httpSmugglesWrong : ChangeSpec := { name := "httpSmuggles", fn := fun _ => fun
  | [d1, d2, d3] => { results := [.lit (.bool false)], args := [d1, d2, d3] }
  | _ => none }
def HttpSmugglesWrongFalsely : Prop := httpSmugglesRow.holds Tryd.pinned (OpenSpec.ofChange httpSmugglesWrong)

/-- 'wicketmanlaw09.HttpMost': WHATEVER THE INPUT: true; the input reads as it did. -/
def httpMostSpec : ChangeSpec := { name := "httpMost", fn := fun _ => fun
  | [d1, d2] => { results := [.lit (.bool true)], args := [d1, d2] }
  | _ => none }
def httpMostRow : OpenClaim := { program := "ytpfbemcoblganaadoor", sum := "de07844425e0d9c8fe7c20fb1c54be316e450b4e35f3f7225fbeba5b43ba63b1", func := "wicketman/wicketmanlaw09.HttpMost", spec := "httpMost", inPlace := ["internal/bytealg.IndexByteString", "internal/bytealg.IndexString", "internal/bytealg.CountString"], unfollowed := true, recurses := true, named := ["internal/bytealg.MaxLen", "unicode/utf8.first", "unicode/utf8.acceptRanges"], apart := false, laid := [("unicode/utf8.acceptRanges", laid_unicode_utf8_acceptRanges), ("unicode/utf8.first", laid_unicode_utf8_first)] }
def HttpMostSaid : Prop := httpMostRow.holds Tryd.pinned (OpenSpec.ofChange httpMostSpec)

/-- ITS FALSE NEIGHBOUR: 'it returns false'. Refute it at one input. -/
def httpMostWrong : ChangeSpec := { name := "httpMost", fn := fun _ => fun
  | [d1, d2] => { results := [.lit (.bool false)], args := [d1, d2] }
  | _ => none }
def HttpMostWrongFalsely : Prop := httpMostRow.holds Tryd.pinned (OpenSpec.ofChange httpMostWrong)

/-- 'wicketmanlaw09.HttpOrder': WHATEVER THE INPUT: true; the input reads as it did. -/
def httpOrderSpec : ChangeSpec := { name := "httpOrder", fn := fun _ => fun
  | [d1, d2] => { results := [.lit (.bool true)], args := [d1, d2] }
  | _ => none }
def httpOrderRow : OpenClaim := { program := "ytpfbemcoblganaadoor", sum := "de07844425e0d9c8fe7c20fb1c54be316e450b4e35f3f7225fbeba5b43ba63b1", func := "wicketman/wicketmanlaw09.HttpOrder", spec := "httpOrder", inPlace := ["internal/bytealg.IndexByteString", "internal/bytealg.IndexString", "internal/bytealg.CountString"], unfollowed := true, recurses := true, named := ["internal/bytealg.MaxLen", "unicode/utf8.first", "unicode/utf8.acceptRanges"], apart := false, laid := [("unicode/utf8.acceptRanges", laid_unicode_utf8_acceptRanges), ("unicode/utf8.first", laid_unicode_utf8_first)] }
def HttpOrderSaid : Prop := httpOrderRow.holds Tryd.pinned (OpenSpec.ofChange httpOrderSpec)

/-- ITS FALSE NEIGHBOUR: 'it returns false'. Refute it at one input. -/
def httpOrderWrong : ChangeSpec := { name := "httpOrder", fn := fun _ => fun
  | [d1, d2] => { results := [.lit (.bool false)], args := [d1, d2] }
  | _ => none }
def HttpOrderWrongFalsely : Prop := httpOrderRow.holds Tryd.pinned (OpenSpec.ofChange httpOrderWrong)

/-- 'wicketmanlaw09.HttpLines': WHATEVER THE INPUT: true; the input reads as it did. -/
def httpLinesSpec : ChangeSpec := { name := "httpLines", fn := fun _ => fun
  | [d1, d2] => { results := [.lit (.bool true)], args := [d1, d2] }
  | _ => none }
def httpLinesRow : OpenClaim := { program := "ytpfbemcoblganaadoor", sum := "de07844425e0d9c8fe7c20fb1c54be316e450b4e35f3f7225fbeba5b43ba63b1", func := "wicketman/wicketmanlaw09.HttpLines", spec := "httpLines", inPlace := ["internal/bytealg.IndexByteString", "internal/bytealg.IndexString", "internal/bytealg.CountString"], unfollowed := true, recurses := true, named := ["internal/bytealg.MaxLen", "unicode/utf8.first", "unicode/utf8.acceptRanges"], apart := false, laid := [("unicode/utf8.acceptRanges", laid_unicode_utf8_acceptRanges), ("unicode/utf8.first", laid_unicode_utf8_first)] }
def HttpLinesSaid : Prop := httpLinesRow.holds Tryd.pinned (OpenSpec.ofChange httpLinesSpec)

/-- ITS FALSE NEIGHBOUR: 'it returns false'. Refute it at one input. -/
def httpLinesWrong : ChangeSpec := { name := "httpLines", fn := fun _ => fun
  | [d1, d2] => { results := [.lit (.bool false)], args := [d1, d2] }
  | _ => none }
def HttpLinesWrongFalsely : Prop := httpLinesRow.holds Tryd.pinned (OpenSpec.ofChange httpLinesWrong)

/-- 'wicketmanlaw09.HttpAnswer': WHATEVER THE INPUT: true; the input reads as it did. -/
def httpAnswerSpec : ChangeSpec := { name := "httpAnswer", fn := fun _ => fun
  | [d1, d2] => { results := [.lit (.bool true)], args := [d1, d2] }
  | _ => none }
def httpAnswerRow : OpenClaim := { program := "ytpfbemcoblganaadoor", sum := "de07844425e0d9c8fe7c20fb1c54be316e450b4e35f3f7225fbeba5b43ba63b1", func := "wicketman/wicketmanlaw09.HttpAnswer", spec := "httpAnswer", inPlace := ["internal/bytealg.IndexByteString", "internal/bytealg.IndexString", "internal/bytealg.CountString"], unfollowed := true, recurses := true, named := ["internal/bytealg.MaxLen", "unicode/utf8.first", "unicode/utf8.acceptRanges"], apart := false, laid := [("unicode/utf8.acceptRanges", laid_unicode_utf8_acceptRanges), ("unicode/utf8.first", laid_unicode_utf8_first)] }
def HttpAnswerSaid : Prop := httpAnswerRow.holds Tryd.pinned (OpenSpec.ofChange httpAnswerSpec)

/-- ITS FALSE NEIGHBOUR: 'it returns false'. Refute it at one input. -/
def httpAnswerWrong : ChangeSpec := { name := "httpAnswer", fn := fun _ => fun
  | [d1, d2] => { results := [.lit (.bool false)], args := [d1, d2] }
  | _ => none }
def HttpAnswerWrongFalsely : Prop := httpAnswerRow.holds Tryd.pinned (OpenSpec.ofChange httpAnswerWrong)

/-- 'wicketmanlaw10.RespMany': WHATEVER THE INPUT: true; the input reads as it did. -/
def respManySpec : ChangeSpec := { name := "respMany", fn := fun _ => fun
  | [d1, d2, d3] => { results := [.lit (.bool true)], args := [d1, d2, d3] }
  | _ => none }
def respManyRow : OpenClaim := { program := "ytpfbemcoblganaadoor", sum := "de07844425e0d9c8fe7c20fb1c54be316e450b4e35f3f7225fbeba5b43ba63b1", func := "wicketman/wicketmanlaw10.RespMany", spec := "respMany", inPlace := ["internal/bytealg.IndexByteString", "internal/bytealg.IndexString"], unfollowed := true, recurses := true, named := ["bytes.ErrTooLarge", "internal/strconv.uint64pow10", "math/bits.deBruijn32tab", "math/bits.deBruijn64tab", "unicode/utf8.first", "unicode/utf8.acceptRanges", "internal/bytealg.MaxLen"], apart := false, laid := [("math/bits.deBruijn32tab", laid_math_bits_deBruijn32tab), ("math/bits.deBruijn64tab", laid_math_bits_deBruijn64tab), ("internal/strconv.uint64pow10", laid_internal_strconv_uint64pow10), ("unicode/utf8.acceptRanges", laid_unicode_utf8_acceptRanges), ("bytes.ErrTooLarge", laid_bytes_ErrTooLarge), ("unicode/utf8.first", laid_unicode_utf8_first)] }
def RespManySaid : Prop := respManyRow.holds Tryd.pinned (OpenSpec.ofChange respManySpec)

/-- ITS FALSE NEIGHBOUR: 'it returns false'. Refute it at one input. -/
def respManyWrong : ChangeSpec := { name := "respMany", fn := fun _ => fun
  | [d1, d2, d3] => { results := [.lit (.bool false)], args := [d1, d2, d3] }
  | _ => none }
def RespManyWrongFalsely : Prop := respManyRow.holds Tryd.pinned (OpenSpec.ofChange respManyWrong)

/-- 'wicketmanlaw10.RespPages': WHATEVER THE INPUT: true; the input reads as it did. -/
def respPagesSpec : ChangeSpec := { name := "respPages", fn := fun _ => fun
  | [d1, d2, d3, d4] => { results := [.lit (.bool true)], args := [d1, d2, d3, d4] }
  | _ => none }
def respPagesRow : OpenClaim := { program := "ytpfbemcoblganaadoor", sum := "de07844425e0d9c8fe7c20fb1c54be316e450b4e35f3f7225fbeba5b43ba63b1", func := "wicketman/wicketmanlaw10.RespPages", spec := "respPages", inPlace := ["internal/bytealg.IndexByteString", "internal/bytealg.IndexString"], unfollowed := true, recurses := true, named := ["bytes.ErrTooLarge", "internal/strconv.uint64pow10", "math/bits.deBruijn32tab", "math/bits.deBruijn64tab", "unicode/utf8.first", "unicode/utf8.acceptRanges", "internal/bytealg.MaxLen"], apart := false, laid := [("math/bits.deBruijn32tab", laid_math_bits_deBruijn32tab), ("math/bits.deBruijn64tab", laid_math_bits_deBruijn64tab), ("internal/strconv.uint64pow10", laid_internal_strconv_uint64pow10), ("unicode/utf8.acceptRanges", laid_unicode_utf8_acceptRanges), ("bytes.ErrTooLarge", laid_bytes_ErrTooLarge), ("unicode/utf8.first", laid_unicode_utf8_first)] }
def RespPagesSaid : Prop := respPagesRow.holds Tryd.pinned (OpenSpec.ofChange respPagesSpec)

/-- ITS FALSE NEIGHBOUR: 'it returns false'. Refute it at one input. -/
def respPagesWrong : ChangeSpec := { name := "respPages", fn := fun _ => fun
  | [d1, d2, d3, d4] => { results := [.lit (.bool false)], args := [d1, d2, d3, d4] }
  | _ => none }
def RespPagesWrongFalsely : Prop := respPagesRow.holds Tryd.pinned (OpenSpec.ofChange respPagesWrong)

/-- 'wicketmanlaw10.RespFields': WHATEVER THE INPUT: true; the input reads as it did. -/
def respFieldsSpec : ChangeSpec := { name := "respFields", fn := fun _ => fun
  | [d1, d2] => { results := [.lit (.bool true)], args := [d1, d2] }
  | _ => none }
def respFieldsRow : OpenClaim := { program := "ytpfbemcoblganaadoor", sum := "de07844425e0d9c8fe7c20fb1c54be316e450b4e35f3f7225fbeba5b43ba63b1", func := "wicketman/wicketmanlaw10.RespFields", spec := "respFields", inPlace := ["internal/bytealg.IndexByteString", "internal/bytealg.IndexString"], unfollowed := true, recurses := true, named := ["bytes.ErrTooLarge", "internal/strconv.uint64pow10", "math/bits.deBruijn32tab", "math/bits.deBruijn64tab", "unicode/utf8.first", "unicode/utf8.acceptRanges", "internal/bytealg.MaxLen"], apart := false, laid := [("math/bits.deBruijn32tab", laid_math_bits_deBruijn32tab), ("math/bits.deBruijn64tab", laid_math_bits_deBruijn64tab), ("internal/strconv.uint64pow10", laid_internal_strconv_uint64pow10), ("unicode/utf8.acceptRanges", laid_unicode_utf8_acceptRanges), ("bytes.ErrTooLarge", laid_bytes_ErrTooLarge), ("unicode/utf8.first", laid_unicode_utf8_first)] }
def RespFieldsSaid : Prop := respFieldsRow.holds Tryd.pinned (OpenSpec.ofChange respFieldsSpec)

/-- ITS FALSE NEIGHBOUR: 'it returns false'. Refute it at one input. -/
def respFieldsWrong : ChangeSpec := { name := "respFields", fn := fun _ => fun
  | [d1, d2] => { results := [.lit (.bool false)], args := [d1, d2] }
  | _ => none }
def RespFieldsWrongFalsely : Prop := respFieldsRow.holds Tryd.pinned (OpenSpec.ofChange respFieldsWrong)

/-- 'wicketmanlaw10.RespBack': WHATEVER THE INPUT: true; the input reads as it did. -/
def respBackSpec : ChangeSpec := { name := "respBack", fn := fun _ => fun
  | [d1, d2, d3, d4] => { results := [.lit (.bool true)], args := [d1, d2, d3, d4] }
  | _ => none }
def respBackRow : OpenClaim := { program := "ytpfbemcoblganaadoor", sum := "de07844425e0d9c8fe7c20fb1c54be316e450b4e35f3f7225fbeba5b43ba63b1", func := "wicketman/wicketmanlaw10.RespBack", spec := "respBack", inPlace := ["internal/bytealg.IndexByteString", "internal/bytealg.IndexString"], unfollowed := true, recurses := true, named := ["bytes.ErrTooLarge", "internal/strconv.uint64pow10", "math/bits.deBruijn32tab", "math/bits.deBruijn64tab", "unicode/utf8.first", "unicode/utf8.acceptRanges", "internal/bytealg.MaxLen"], apart := false, laid := [("math/bits.deBruijn32tab", laid_math_bits_deBruijn32tab), ("math/bits.deBruijn64tab", laid_math_bits_deBruijn64tab), ("internal/strconv.uint64pow10", laid_internal_strconv_uint64pow10), ("unicode/utf8.acceptRanges", laid_unicode_utf8_acceptRanges), ("bytes.ErrTooLarge", laid_bytes_ErrTooLarge), ("unicode/utf8.first", laid_unicode_utf8_first)] }
def RespBackSaid : Prop := respBackRow.holds Tryd.pinned (OpenSpec.ofChange respBackSpec)

/-- ITS FALSE NEIGHBOUR: 'it returns false'. Refute it at one input. -/
def respBackWrong : ChangeSpec := { name := "respBack", fn := fun _ => fun
  | [d1, d2, d3, d4] => { results := [.lit (.bool false)], args := [d1, d2, d3, d4] }
  | _ => none }
def RespBackWrongFalsely : Prop := respBackRow.holds Tryd.pinned (OpenSpec.ofChange respBackWrong)

/-- 'wicketmanlaw10.RespOne': WHATEVER THE INPUT: true; the input reads as it did. -/
def respOneSpec : ChangeSpec := { name := "respOne", fn := fun _ => fun
  | [d1, d2, d3] => { results := [.lit (.bool true)], args := [d1, d2, d3] }
  | _ => none }
def respOneRow : OpenClaim := { program := "ytpfbemcoblganaadoor", sum := "de07844425e0d9c8fe7c20fb1c54be316e450b4e35f3f7225fbeba5b43ba63b1", func := "wicketman/wicketmanlaw10.RespOne", spec := "respOne", inPlace := ["internal/bytealg.IndexByteString", "internal/bytealg.IndexString"], unfollowed := true, recurses := true, named := ["bytes.ErrTooLarge", "internal/strconv.uint64pow10", "math/bits.deBruijn32tab", "math/bits.deBruijn64tab", "unicode/utf8.first", "unicode/utf8.acceptRanges", "internal/bytealg.MaxLen"], apart := false, laid := [("math/bits.deBruijn32tab", laid_math_bits_deBruijn32tab), ("math/bits.deBruijn64tab", laid_math_bits_deBruijn64tab), ("internal/strconv.uint64pow10", laid_internal_strconv_uint64pow10), ("unicode/utf8.acceptRanges", laid_unicode_utf8_acceptRanges), ("bytes.ErrTooLarge", laid_bytes_ErrTooLarge), ("unicode/utf8.first", laid_unicode_utf8_first)] }
def RespOneSaid : Prop := respOneRow.holds Tryd.pinned (OpenSpec.ofChange respOneSpec)

/-- ITS FALSE NEIGHBOUR: 'it returns false'. Refute it at one input. -/
def respOneWrong : ChangeSpec := { name := "respOne", fn := fun _ => fun
  | [d1, d2, d3] => { results := [.lit (.bool false)], args := [d1, d2, d3] }
  | _ => none }
def RespOneWrongFalsely : Prop := respOneRow.holds Tryd.pinned (OpenSpec.ofChange respOneWrong)

/-- 'wicketmanlaw10.RespPrints': WHATEVER THE INPUT: true; the input reads as it did. -/
def respPrintsSpec : ChangeSpec := { name := "respPrints", fn := fun _ => fun
  | [d1, d2, d3, d4, d5, d6, d7, d8] => { results := [.lit (.bool true)], args := [d1, d2, d3, d4, d5, d6, d7, d8] }
  | _ => none }
def respPrintsRow : OpenClaim := { program := "ytpfbemcoblganaadoor", sum := "de07844425e0d9c8fe7c20fb1c54be316e450b4e35f3f7225fbeba5b43ba63b1", func := "wicketman/wicketmanlaw10.RespPrints", spec := "respPrints", inPlace := ["internal/bytealg.IndexByteString", "internal/bytealg.IndexString"], unfollowed := true, recurses := true, named := ["bytes.ErrTooLarge", "internal/strconv.uint64pow10", "math/bits.deBruijn32tab", "math/bits.deBruijn64tab", "unicode/utf8.first", "unicode/utf8.acceptRanges", "internal/bytealg.MaxLen"], apart := false, laid := [("math/bits.deBruijn32tab", laid_math_bits_deBruijn32tab), ("math/bits.deBruijn64tab", laid_math_bits_deBruijn64tab), ("internal/strconv.uint64pow10", laid_internal_strconv_uint64pow10), ("unicode/utf8.acceptRanges", laid_unicode_utf8_acceptRanges), ("bytes.ErrTooLarge", laid_bytes_ErrTooLarge), ("unicode/utf8.first", laid_unicode_utf8_first)] }
def RespPrintsSaid : Prop := respPrintsRow.holds Tryd.pinned (OpenSpec.ofChange respPrintsSpec)

/-- ITS FALSE NEIGHBOUR: 'it returns false'. Refute it at one input. -/
def respPrintsWrong : ChangeSpec := { name := "respPrints", fn := fun _ => fun
  | [d1, d2, d3, d4, d5, d6, d7, d8] => { results := [.lit (.bool false)], args := [d1, d2, d3, d4, d5, d6, d7, d8] }
  | _ => none }
def RespPrintsWrongFalsely : Prop := respPrintsRow.holds Tryd.pinned (OpenSpec.ofChange respPrintsWrong)

/-- 'wicketmanlaw09.HttpBack': WHATEVER THE INPUT: true; the input reads as it did. -/
def httpBackSpec : ChangeSpec := { name := "httpBack", fn := fun _ => fun
  | [d1, d2, d3, d4] => { results := [.lit (.bool true)], args := [d1, d2, d3, d4] }
  | _ => none }
def httpBackRow : OpenClaim := { program := "ytpfbemcoblganaadoor", sum := "de07844425e0d9c8fe7c20fb1c54be316e450b4e35f3f7225fbeba5b43ba63b1", func := "wicketman/wicketmanlaw09.HttpBack", spec := "httpBack", inPlace := ["internal/bytealg.IndexByteString", "internal/bytealg.IndexString", "internal/bytealg.CountString", "internal/abi.NoEscape", "internal/bytealg.MakeNoZero"], unfollowed := true, recurses := true, named := ["internal/bytealg.MaxLen", "unicode/utf8.first", "unicode/utf8.acceptRanges", "bytes.ErrTooLarge"], apart := false, laid := [("unicode/utf8.acceptRanges", laid_unicode_utf8_acceptRanges), ("bytes.ErrTooLarge", laid_bytes_ErrTooLarge), ("unicode/utf8.first", laid_unicode_utf8_first)] }
def HttpBackSaid : Prop := httpBackRow.holds Tryd.pinned (OpenSpec.ofChange httpBackSpec)

/-- ITS FALSE NEIGHBOUR: 'it returns false'. Refute it at one input. -/
def httpBackWrong : ChangeSpec := { name := "httpBack", fn := fun _ => fun
  | [d1, d2, d3, d4] => { results := [.lit (.bool false)], args := [d1, d2, d3, d4] }
  | _ => none }
def HttpBackWrongFalsely : Prop := httpBackRow.holds Tryd.pinned (OpenSpec.ofChange httpBackWrong)

/- THE SECOND FORM. 'bulk': how many values and letters a reading holds, each counted each time it is reached (what is shared counts as often as it is met; a slice's spare places count too). A statement '..UptoSaid' is the law's where the arguments, and the package variables that the reading takes, are together of bulk at most 1048576: NARROWER than '..Said'. Prove '..Said' where nothing that the law and all that it calls make is longer than what came in: it says more and counts as full. Else prove '..UptoSaid'. A law counts once. -/
mutual
def uptoBulk {H : Type} : DataW H → Nat
  | .lit (.string bytes) => bytes.length + 1
  | .lit _ => 1
  | .nil => 1
  | .ptr d => uptoBulk d + 1
  | .slice elems spare => uptoBulkAll elems + uptoBulkAll spare + 1
  | .agg parts => uptoBulkAll parts + 1
  | .iface _ d => uptoBulk d + 1
  | .map entries => uptoBulkEntries entries + 1
  | .held _ => 1
def uptoBulkAll {H : Type} : List (DataW H) → Nat
  | [] => 0
  | d :: r => uptoBulk d + uptoBulkAll r
def uptoBulkEntries {H : Type} : List (Lit × DataW H) → Nat
  | [] => 0
  | x :: r => uptoBulkEntry x + uptoBulkEntries r
def uptoBulkEntry {H : Type} : Lit × DataW H → Nat
  | (.string bytes, d) => bytes.length + uptoBulk d + 1
  | (_, d) => uptoBulk d + 1
 end
def uptoSmall : (H : Type) → List (DataW H) → Bool := fun _ ds => decide (uptoBulkAll ds ≤ 1048576)
def OpenSpec.upto (s : _root_.Go.ChangeSpec) : _root_.Go.OpenSpec := { _root_.Go.OpenSpec.ofChange s with cond := some uptoSmall }

/-- 'wicketmanlaw09.HttpParses', WHERE WHAT IT READS IS OF BULK AT MOST 1048576: true; the input reads as it did. -/
def httpParsesUptoRow : OpenClaim := { program := "ytpfbemcoblganaadoor", sum := "de07844425e0d9c8fe7c20fb1c54be316e450b4e35f3f7225fbeba5b43ba63b1", func := "wicketman/wicketmanlaw09.HttpParses", spec := "httpParses", inPlace := ["internal/bytealg.IndexByteString", "internal/bytealg.IndexString", "internal/bytealg.CountString"], unfollowed := true, recurses := true, named := ["internal/bytealg.MaxLen", "unicode/utf8.first", "unicode/utf8.acceptRanges"], apart := false, laid := [("unicode/utf8.acceptRanges", laid_unicode_utf8_acceptRanges), ("unicode/utf8.first", laid_unicode_utf8_first)], narrowed := true }
def HttpParsesUptoSaid : Prop := httpParsesUptoRow.holds Tryd.pinned (OpenSpec.upto httpParsesSpec)

/-- 'wicketmanlaw09.HttpSmuggles', WHERE WHAT IT READS IS OF BULK AT MOST 1048576: true; the input reads as it did. -/
def httpSmugglesUptoRow : OpenClaim := { program := "ytpfbemcoblganaadoor", sum := "de07844425e0d9c8fe7c20fb1c54be316e450b4e35f3f7225fbeba5b43ba63b1", func := "wicketman/wicketmanlaw09.HttpSmuggles", spec := "httpSmuggles", inPlace := ["internal/bytealg.IndexByteString", "internal/bytealg.IndexString", "internal/bytealg.CountString"], unfollowed := true, recurses := true, named := ["internal/bytealg.MaxLen", "unicode/utf8.first", "unicode/utf8.acceptRanges"], apart := false, laid := [("unicode/utf8.acceptRanges", laid_unicode_utf8_acceptRanges), ("unicode/utf8.first", laid_unicode_utf8_first)], narrowed := true }
def HttpSmugglesUptoSaid : Prop := httpSmugglesUptoRow.holds Tryd.pinned (OpenSpec.upto httpSmugglesSpec)

/-- 'wicketmanlaw09.HttpMost', WHERE WHAT IT READS IS OF BULK AT MOST 1048576: true; the input reads as it did. -/
def httpMostUptoRow : OpenClaim := { program := "ytpfbemcoblganaadoor", sum := "de07844425e0d9c8fe7c20fb1c54be316e450b4e35f3f7225fbeba5b43ba63b1", func := "wicketman/wicketmanlaw09.HttpMost", spec := "httpMost", inPlace := ["internal/bytealg.IndexByteString", "internal/bytealg.IndexString", "internal/bytealg.CountString"], unfollowed := true, recurses := true, named := ["internal/bytealg.MaxLen", "unicode/utf8.first", "unicode/utf8.acceptRanges"], apart := false, laid := [("unicode/utf8.acceptRanges", laid_unicode_utf8_acceptRanges), ("unicode/utf8.first", laid_unicode_utf8_first)], narrowed := true }
def HttpMostUptoSaid : Prop := httpMostUptoRow.holds Tryd.pinned (OpenSpec.upto httpMostSpec)

/-- 'wicketmanlaw09.HttpOrder', WHERE WHAT IT READS IS OF BULK AT MOST 1048576: true; the input reads as it did. -/
def httpOrderUptoRow : OpenClaim := { program := "ytpfbemcoblganaadoor", sum := "de07844425e0d9c8fe7c20fb1c54be316e450b4e35f3f7225fbeba5b43ba63b1", func := "wicketman/wicketmanlaw09.HttpOrder", spec := "httpOrder", inPlace := ["internal/bytealg.IndexByteString", "internal/bytealg.IndexString", "internal/bytealg.CountString"], unfollowed := true, recurses := true, named := ["internal/bytealg.MaxLen", "unicode/utf8.first", "unicode/utf8.acceptRanges"], apart := false, laid := [("unicode/utf8.acceptRanges", laid_unicode_utf8_acceptRanges), ("unicode/utf8.first", laid_unicode_utf8_first)], narrowed := true }
def HttpOrderUptoSaid : Prop := httpOrderUptoRow.holds Tryd.pinned (OpenSpec.upto httpOrderSpec)

/-- 'wicketmanlaw09.HttpLines', WHERE WHAT IT READS IS OF BULK AT MOST 1048576: true; the input reads as it did. -/
def httpLinesUptoRow : OpenClaim := { program := "ytpfbemcoblganaadoor", sum := "de07844425e0d9c8fe7c20fb1c54be316e450b4e35f3f7225fbeba5b43ba63b1", func := "wicketman/wicketmanlaw09.HttpLines", spec := "httpLines", inPlace := ["internal/bytealg.IndexByteString", "internal/bytealg.IndexString", "internal/bytealg.CountString"], unfollowed := true, recurses := true, named := ["internal/bytealg.MaxLen", "unicode/utf8.first", "unicode/utf8.acceptRanges"], apart := false, laid := [("unicode/utf8.acceptRanges", laid_unicode_utf8_acceptRanges), ("unicode/utf8.first", laid_unicode_utf8_first)], narrowed := true }
def HttpLinesUptoSaid : Prop := httpLinesUptoRow.holds Tryd.pinned (OpenSpec.upto httpLinesSpec)

/-- 'wicketmanlaw09.HttpAnswer', WHERE WHAT IT READS IS OF BULK AT MOST 1048576: true; the input reads as it did. -/
def httpAnswerUptoRow : OpenClaim := { program := "ytpfbemcoblganaadoor", sum := "de07844425e0d9c8fe7c20fb1c54be316e450b4e35f3f7225fbeba5b43ba63b1", func := "wicketman/wicketmanlaw09.HttpAnswer", spec := "httpAnswer", inPlace := ["internal/bytealg.IndexByteString", "internal/bytealg.IndexString", "internal/bytealg.CountString"], unfollowed := true, recurses := true, named := ["internal/bytealg.MaxLen", "unicode/utf8.first", "unicode/utf8.acceptRanges"], apart := false, laid := [("unicode/utf8.acceptRanges", laid_unicode_utf8_acceptRanges), ("unicode/utf8.first", laid_unicode_utf8_first)], narrowed := true }
def HttpAnswerUptoSaid : Prop := httpAnswerUptoRow.holds Tryd.pinned (OpenSpec.upto httpAnswerSpec)

/-- 'wicketmanlaw10.RespMany', WHERE WHAT IT READS IS OF BULK AT MOST 1048576: true; the input reads as it did. -/
def respManyUptoRow : OpenClaim := { program := "ytpfbemcoblganaadoor", sum := "de07844425e0d9c8fe7c20fb1c54be316e450b4e35f3f7225fbeba5b43ba63b1", func := "wicketman/wicketmanlaw10.RespMany", spec := "respMany", inPlace := ["internal/bytealg.IndexByteString", "internal/bytealg.IndexString"], unfollowed := true, recurses := true, named := ["bytes.ErrTooLarge", "internal/strconv.uint64pow10", "math/bits.deBruijn32tab", "math/bits.deBruijn64tab", "unicode/utf8.first", "unicode/utf8.acceptRanges", "internal/bytealg.MaxLen"], apart := false, laid := [("math/bits.deBruijn32tab", laid_math_bits_deBruijn32tab), ("math/bits.deBruijn64tab", laid_math_bits_deBruijn64tab), ("internal/strconv.uint64pow10", laid_internal_strconv_uint64pow10), ("unicode/utf8.acceptRanges", laid_unicode_utf8_acceptRanges), ("bytes.ErrTooLarge", laid_bytes_ErrTooLarge), ("unicode/utf8.first", laid_unicode_utf8_first)], narrowed := true }
def RespManyUptoSaid : Prop := respManyUptoRow.holds Tryd.pinned (OpenSpec.upto respManySpec)

/-- 'wicketmanlaw10.RespPages', WHERE WHAT IT READS IS OF BULK AT MOST 1048576: true; the input reads as it did. -/
def respPagesUptoRow : OpenClaim := { program := "ytpfbemcoblganaadoor", sum := "de07844425e0d9c8fe7c20fb1c54be316e450b4e35f3f7225fbeba5b43ba63b1", func := "wicketman/wicketmanlaw10.RespPages", spec := "respPages", inPlace := ["internal/bytealg.IndexByteString", "internal/bytealg.IndexString"], unfollowed := true, recurses := true, named := ["bytes.ErrTooLarge", "internal/strconv.uint64pow10", "math/bits.deBruijn32tab", "math/bits.deBruijn64tab", "unicode/utf8.first", "unicode/utf8.acceptRanges", "internal/bytealg.MaxLen"], apart := false, laid := [("math/bits.deBruijn32tab", laid_math_bits_deBruijn32tab), ("math/bits.deBruijn64tab", laid_math_bits_deBruijn64tab), ("internal/strconv.uint64pow10", laid_internal_strconv_uint64pow10), ("unicode/utf8.acceptRanges", laid_unicode_utf8_acceptRanges), ("bytes.ErrTooLarge", laid_bytes_ErrTooLarge), ("unicode/utf8.first", laid_unicode_utf8_first)], narrowed := true }
def RespPagesUptoSaid : Prop := respPagesUptoRow.holds Tryd.pinned (OpenSpec.upto respPagesSpec)

/-- 'wicketmanlaw10.RespFields', WHERE WHAT IT READS IS OF BULK AT MOST 1048576: true; the input reads as it did. -/
def respFieldsUptoRow : OpenClaim := { program := "ytpfbemcoblganaadoor", sum := "de07844425e0d9c8fe7c20fb1c54be316e450b4e35f3f7225fbeba5b43ba63b1", func := "wicketman/wicketmanlaw10.RespFields", spec := "respFields", inPlace := ["internal/bytealg.IndexByteString", "internal/bytealg.IndexString"], unfollowed := true, recurses := true, named := ["bytes.ErrTooLarge", "internal/strconv.uint64pow10", "math/bits.deBruijn32tab", "math/bits.deBruijn64tab", "unicode/utf8.first", "unicode/utf8.acceptRanges", "internal/bytealg.MaxLen"], apart := false, laid := [("math/bits.deBruijn32tab", laid_math_bits_deBruijn32tab), ("math/bits.deBruijn64tab", laid_math_bits_deBruijn64tab), ("internal/strconv.uint64pow10", laid_internal_strconv_uint64pow10), ("unicode/utf8.acceptRanges", laid_unicode_utf8_acceptRanges), ("bytes.ErrTooLarge", laid_bytes_ErrTooLarge), ("unicode/utf8.first", laid_unicode_utf8_first)], narrowed := true }
def RespFieldsUptoSaid : Prop := respFieldsUptoRow.holds Tryd.pinned (OpenSpec.upto respFieldsSpec)

/-- 'wicketmanlaw10.RespBack', WHERE WHAT IT READS IS OF BULK AT MOST 1048576: true; the input reads as it did. -/
def respBackUptoRow : OpenClaim := { program := "ytpfbemcoblganaadoor", sum := "de07844425e0d9c8fe7c20fb1c54be316e450b4e35f3f7225fbeba5b43ba63b1", func := "wicketman/wicketmanlaw10.RespBack", spec := "respBack", inPlace := ["internal/bytealg.IndexByteString", "internal/bytealg.IndexString"], unfollowed := true, recurses := true, named := ["bytes.ErrTooLarge", "internal/strconv.uint64pow10", "math/bits.deBruijn32tab", "math/bits.deBruijn64tab", "unicode/utf8.first", "unicode/utf8.acceptRanges", "internal/bytealg.MaxLen"], apart := false, laid := [("math/bits.deBruijn32tab", laid_math_bits_deBruijn32tab), ("math/bits.deBruijn64tab", laid_math_bits_deBruijn64tab), ("internal/strconv.uint64pow10", laid_internal_strconv_uint64pow10), ("unicode/utf8.acceptRanges", laid_unicode_utf8_acceptRanges), ("bytes.ErrTooLarge", laid_bytes_ErrTooLarge), ("unicode/utf8.first", laid_unicode_utf8_first)], narrowed := true }
def RespBackUptoSaid : Prop := respBackUptoRow.holds Tryd.pinned (OpenSpec.upto respBackSpec)

/-- 'wicketmanlaw10.RespOne', WHERE WHAT IT READS IS OF BULK AT MOST 1048576: true; the input reads as it did. -/
def respOneUptoRow : OpenClaim := { program := "ytpfbemcoblganaadoor", sum := "de07844425e0d9c8fe7c20fb1c54be316e450b4e35f3f7225fbeba5b43ba63b1", func := "wicketman/wicketmanlaw10.RespOne", spec := "respOne", inPlace := ["internal/bytealg.IndexByteString", "internal/bytealg.IndexString"], unfollowed := true, recurses := true, named := ["bytes.ErrTooLarge", "internal/strconv.uint64pow10", "math/bits.deBruijn32tab", "math/bits.deBruijn64tab", "unicode/utf8.first", "unicode/utf8.acceptRanges", "internal/bytealg.MaxLen"], apart := false, laid := [("math/bits.deBruijn32tab", laid_math_bits_deBruijn32tab), ("math/bits.deBruijn64tab", laid_math_bits_deBruijn64tab), ("internal/strconv.uint64pow10", laid_internal_strconv_uint64pow10), ("unicode/utf8.acceptRanges", laid_unicode_utf8_acceptRanges), ("bytes.ErrTooLarge", laid_bytes_ErrTooLarge), ("unicode/utf8.first", laid_unicode_utf8_first)], narrowed := true }
def RespOneUptoSaid : Prop := respOneUptoRow.holds Tryd.pinned (OpenSpec.upto respOneSpec)

/-- 'wicketmanlaw10.RespPrints', WHERE WHAT IT READS IS OF BULK AT MOST 1048576: true; the input reads as it did. -/
def respPrintsUptoRow : OpenClaim := { program := "ytpfbemcoblganaadoor", sum := "de07844425e0d9c8fe7c20fb1c54be316e450b4e35f3f7225fbeba5b43ba63b1", func := "wicketman/wicketmanlaw10.RespPrints", spec := "respPrints", inPlace := ["internal/bytealg.IndexByteString", "internal/bytealg.IndexString"], unfollowed := true, recurses := true, named := ["bytes.ErrTooLarge", "internal/strconv.uint64pow10", "math/bits.deBruijn32tab", "math/bits.deBruijn64tab", "unicode/utf8.first", "unicode/utf8.acceptRanges", "internal/bytealg.MaxLen"], apart := false, laid := [("math/bits.deBruijn32tab", laid_math_bits_deBruijn32tab), ("math/bits.deBruijn64tab", laid_math_bits_deBruijn64tab), ("internal/strconv.uint64pow10", laid_internal_strconv_uint64pow10), ("unicode/utf8.acceptRanges", laid_unicode_utf8_acceptRanges), ("bytes.ErrTooLarge", laid_bytes_ErrTooLarge), ("unicode/utf8.first", laid_unicode_utf8_first)], narrowed := true }
def RespPrintsUptoSaid : Prop := respPrintsUptoRow.holds Tryd.pinned (OpenSpec.upto respPrintsSpec)

/-- 'wicketmanlaw09.HttpBack', WHERE WHAT IT READS IS OF BULK AT MOST 1048576: true; the input reads as it did. -/
def httpBackUptoRow : OpenClaim := { program := "ytpfbemcoblganaadoor", sum := "de07844425e0d9c8fe7c20fb1c54be316e450b4e35f3f7225fbeba5b43ba63b1", func := "wicketman/wicketmanlaw09.HttpBack", spec := "httpBack", inPlace := ["internal/bytealg.IndexByteString", "internal/bytealg.IndexString", "internal/bytealg.CountString", "internal/abi.NoEscape", "internal/bytealg.MakeNoZero"], unfollowed := true, recurses := true, named := ["internal/bytealg.MaxLen", "unicode/utf8.first", "unicode/utf8.acceptRanges", "bytes.ErrTooLarge"], apart := false, laid := [("unicode/utf8.acceptRanges", laid_unicode_utf8_acceptRanges), ("bytes.ErrTooLarge", laid_bytes_ErrTooLarge), ("unicode/utf8.first", laid_unicode_utf8_first)], narrowed := true }
def HttpBackUptoSaid : Prop := httpBackUptoRow.holds Tryd.pinned (OpenSpec.upto httpBackSpec)

end Rows
end Go.Proofs.YtpfbemcoblganaaDoor
