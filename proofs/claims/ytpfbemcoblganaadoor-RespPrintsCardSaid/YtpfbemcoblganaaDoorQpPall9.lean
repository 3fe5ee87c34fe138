/-
Package http: Parse, by its parts.
http.Parse as the printed functions call it.

-/
import Derived.Test.YtpfbemcoblganaaDoorQpHttpD
import Derived.Tactics
import Derived.Laws.Pointers
import Derived.Test.YtpfbemcoblganaaDoorQpPall2
import Derived.Test.YtpfbemcoblganaaDoorQpLines
import Derived.Test.YtpfbemcoblganaaDoorQpPall0
import Derived.Test.YtpfbemcoblganaaDoorQpPall5
import Derived.Test.YtpfbemcoblganaaDoorQpPall6
import Derived.Test.YtpfbemcoblganaaDoorQpPall8
section
namespace Go.Proofs.YtpfbemcoblganaaDoor.Pl
open Go.RowKit Go.Proofs.YtpfbemcoblganaaDoor.Pall Go.Proofs.YtpfbemcoblganaaDoorW.PrintWords Go.Proofs.YtpfbemcoblganaaDoorW.PrintLast
set_option linter.unusedVariables false
set_option linter.unusedSimpArgs false
/-- the two results' variables, as they were laid -/
structure Door (w W : World) : Prop where
  bel : Below w.heap.size w W
  q : W.heap[w.heap.size]? = some (.cells #[.string ⟨#[]⟩, .string ⟨#[]⟩, .slice none 0 0, .slice none 0 0] 36 (0, 0))
  e : W.heap[w.heap.size + 1]? = some (.cells #[.int .u16 0] 24 (0, 0))
theorem Door.lt {w W : World} (h : Door w W) : w.heap.size + 2 ≤ W.heap.size := (Array.getElem?_eq_some_iff.1 h.e).1
theorem Door.below {w W W' : World} {b : Nat} (h : Door w W) (hb : Below b W W') (hlt : w.heap.size + 2 ≤ b) : Door w W' :=
  ⟨h.bel.trans (hb.mono (by omega)), (hb.block _ (by omega)).trans h.q, (hb.block _ (by omega)).trans h.e⟩
/-- the reader is made: what stands then -/
structure Made (w W1 W2 : World) (b g c : Nat) (x : ByteArray) (rest : List ByteArray) : Prop where
  door : Door w W2
  bel : Below W1.heap.size W1 W2
  rd : Rd W2 b ⟨#[]⟩ ⟨#[]⟩ (.slice none 0 0) (.slice none 0 0) (.slice (some ⟨g, 0, none⟩) (rest.length + 1) c)
  eq : b = W1.heap.size
  gl : g < b
  ge : w.heap.size + 2 ≤ b
  cap : rest.length + 1 ≤ c
  fst : W2.cell? ⟨g, 0, none⟩ = some (.string x)
  nxt : ∀ j, j < rest.length → W2.cell? ⟨g, 1 + j, none⟩ = some (.string (rest.getD j ByteArray.empty))
def fstW (x : ByteArray) : ByteArray := (wordsL x).getD 0 ByteArray.empty
def sndW (x : ByteArray) : ByteArray := (wordsL x).getD 1 ByteArray.empty
def okW : List ByteArray → Bool
  | [a, b, c] => tokL a.data.toList && (pathL b.data.toList && (c.toList == [72, 84, 84, 80, 47, 49, 46, 49]))
  | _ => false
/-- what is wrong with a first line -/
def fstE (x : ByteArray) : Int := if 2000 < x.size then 3 else if okW (wordsL x) = true then 0 else 11
/-- behind the first line -/
structure Gone (w W : World) (b g c : Nat) (m p : ByteArray) (rest : List ByteArray) : Prop where
  door : Door w W
  rd : Rd W b m p (.slice none 0 0) (.slice none 0 0) (.slice (some ⟨g, 0, none⟩) (rest.length + 1) c)
  gl : g < b
  ge : w.heap.size + 2 ≤ b
  cap : rest.length + 1 ≤ c
  nxt : ∀ j, j < rest.length → W.cell? ⟨g, 1 + j, none⟩ = some (.string (rest.getD j ByteArray.empty))
end Go.Proofs.YtpfbemcoblganaaDoor.Pl
end
section
namespace Go.Proofs.YtpfbemcoblganaaDoor.Pl
open Go.RowKit Go.Proofs.YtpfbemcoblganaaDoor.Pall Go.Proofs.YtpfbemcoblganaaDoorW.PrintWords Go.Proofs.YtpfbemcoblganaaDoorW.PrintLast
set_option linter.unusedVariables false
set_option linter.unusedSimpArgs false
abbrev Req := ByteArray × ByteArray × List S43 × List Int × Int
def noReq (e : Int) : Req := (⟨#[]⟩, ⟨#[]⟩, [], [], e)
/-- a request of lines, and so many bytes behind them -/
def parseL (ls : List ByteArray) (bs : List Int) : Req :=
  match ls with
  | [] => noReq 10
  | x :: rest => if fstE x ≠ 0 then noReq (fstE x) else if 40 < rest.length then noReq 3 else if fldsE rest ≠ 0 then noReq (fldsE rest) else if bodyE (rest.map fldS) bs.length ≠ 0 then noReq (bodyE (rest.map fldS) bs.length) else (fstW x, sndW x, rest.map fldS, bs, 0)
def parseQ (l0 : List Int) : Req :=
  if (linesS (strOfNums l0).data.toList).2.2 = true then parseL (linesS (strOfNums l0).data.toList).1 (l0.drop (l0.length - (linesS (strOfNums l0).data.toList).2.1)) else noReq 10
end Go.Proofs.YtpfbemcoblganaaDoor.Pl
namespace Go.Proofs.YtpfbemcoblganaaDoor.Pall
open Go.RowKit Go.Proofs.YtpfbemcoblganaaDoor.Pl Go.Proofs.YtpfbemcoblganaaDoorW.PrintWords
def http_Parse.f (l0 : List Int) : Option (ByteArray × ByteArray × List S43 × List Int × Int) := if l0.length < 4294967281 then some (parseQ l0) else none
end Go.Proofs.YtpfbemcoblganaaDoor.Pall
end
section
namespace Go.Proofs.YtpfbemcoblganaaDoor.Pall
open Go.RowKit Go.Proofs.YtpfbemcoblganaaDoorW.PrintWords Go.Proofs.YtpfbemcoblganaaDoorW.PrintLast
set_option linter.unusedVariables false
set_option linter.unusedSimpArgs false
def wicketmanref09_Parse.j0 : Nat → List Int → List ByteArray → Int → Bool → Option (ByteArray × ByteArray × (List (S43)) × List Int × Int)
 | 0, _, _, _, _ => none
 | k + 1, x0, x4, x5, x24 => if x24 = true then (some ((⟨#[]⟩ : ByteArray), (⟨#[]⟩ : ByteArray), ([] : List (S43)), ([] : List Int), 10)) else (if 0 < (x4.length : Int) then ((wicketmanref09_first.f k (rdOf ByteArray.empty x4 0)).bind fun bt240 => (if bt240.2.2.2.2 = 0 then (if 1 ≤ (x4.length : Int) then ((wicketmanref09_fields.f k (x4.drop 1)).bind fun bt254 => (if bt254.2 = 0 then ((wicketmanref09_body.f k bt254.1 (wrap64 ((x0.length : Int) - x5))).bind fun t258 => (if t258 = 0 then (if 0 ≤ x5 then (if x5 ≤ (x0.length : Int) then (some (bt240.1, bt240.2.1, bt254.1, (x0.drop (x5 : Int).toNat), 0)) else (none)) else (none)) else (some ((⟨#[]⟩ : ByteArray), (⟨#[]⟩ : ByteArray), ([] : List (S43)), ([] : List Int), t258)))) else (some ((⟨#[]⟩ : ByteArray), (⟨#[]⟩ : ByteArray), ([] : List (S43)), ([] : List Int), bt254.2)))) else (none)) else (some ((⟨#[]⟩ : ByteArray), (⟨#[]⟩ : ByteArray), ([] : List (S43)), ([] : List Int), bt240.2.2.2.2)))) else (none))
def wicketmanref09_Parse.f (k : Nat) (l0 : List Int) : Option (ByteArray × ByteArray × (List (S43)) × List Int × Int) := (wicketmanref09_Lines.f k l0).bind fun bt234 => (if bt234.2.2 = true then (wicketmanref09_Parse.j0 k l0 bt234.1 bt234.2.1 ((bt234.1.length : Int) == 0)) else (wicketmanref09_Parse.j0 k l0 bt234.1 bt234.2.1 true))
theorem wicketmanref09_Parse.mono_l : ∀ k, (∀ y0 y1 y2 y3, LeO (wicketmanref09_Parse.j0 k y0 y1 y2 y3) (wicketmanref09_Parse.j0 (k + 1) y0 y1 y2 y3))
 | 0 => fun _ _ _ _ r h => by simp [wicketmanref09_Parse.j0] at h
 | k + 1 => by
  have ih0 := wicketmanref09_Parse.mono_l k
  ·intro y0 y1 y2 y3
   unfold wicketmanref09_Parse.j0
   repeat' first
   | (with_reducible exact ih0 _ _ _ _)
   | (with_reducible exact wicketmanref09_Lines.mono _ _)
   | (with_reducible exact wicketmanref09_body.mono _ _ _)
   | (with_reducible exact wicketmanref09_fields.mono _ _)
   | (with_reducible exact wicketmanref09_first.mono _ _)
   | (with_reducible exact LeO.refl _)
   | (with_reducible exact LeO.none _)
   | (with_reducible refine LeO.ite ?_ ?_)
   | (with_reducible refine LeO.bind ?_ (fun _ => ?_))
   | exact ih0 _ _ _ _
   | exact wicketmanref09_Lines.mono _ _
   | exact wicketmanref09_body.mono _ _ _
   | exact wicketmanref09_fields.mono _ _
   | exact wicketmanref09_first.mono _ _
   | exact LeO.none _
   | refine LeO.ite ?_ ?_
   | refine LeO.bind ?_ (fun _ => ?_)
theorem wicketmanref09_Parse.mono : ∀ a0 k, LeO (wicketmanref09_Parse.f k a0) (wicketmanref09_Parse.f (k + 1) a0) := by
 intro a0 k
 have ih0 := wicketmanref09_Parse.mono_l k
 unfold wicketmanref09_Parse.f
 repeat' first
   | (with_reducible exact ih0 _ _ _ _)
   | (with_reducible exact wicketmanref09_Lines.mono _ _)
   | (with_reducible exact wicketmanref09_body.mono _ _ _)
   | (with_reducible exact wicketmanref09_fields.mono _ _)
   | (with_reducible exact wicketmanref09_first.mono _ _)
   | (with_reducible exact LeO.refl _)
   | (with_reducible exact LeO.none _)
   | (with_reducible refine LeO.ite ?_ ?_)
   | (with_reducible refine LeO.bind ?_ (fun _ => ?_))
   | exact ih0 _ _ _ _
   | exact wicketmanref09_Lines.mono _ _
   | exact wicketmanref09_body.mono _ _ _
   | exact wicketmanref09_fields.mono _ _
   | exact wicketmanref09_first.mono _ _
   | exact LeO.none _
   | refine LeO.ite ?_ ?_
   | refine LeO.bind ?_ (fun _ => ?_)
def wicketmanref08_SameTexts.l0 : Nat → List ByteArray → List ByteArray → Int → Option (Bool)
 | 0, _, _, _ => none
 | k + 1, x0, x1, x5 => if x5 < (x0.length : Int) then (if 0 ≤ x5 then (if x5 < (x1.length : Int) then (if (rdOf ByteArray.empty x0 x5).toList = (rdOf ByteArray.empty x1 x5).toList then (wicketmanref08_SameTexts.l0 k x0 x1 (wrap64 (x5 + 1))) else (some false)) else (none)) else (none)) else (some true)
def wicketmanref08_SameTexts.f (k : Nat) (l0 : List ByteArray) (l1 : List ByteArray) : Option (Bool) := if (l0.length : Int) = (l1.length : Int) then (wicketmanref08_SameTexts.l0 k l0 l1 0) else (some false)
theorem wicketmanref08_SameTexts.mono_l : ∀ k, (∀ y0 y1 y2, LeO (wicketmanref08_SameTexts.l0 k y0 y1 y2) (wicketmanref08_SameTexts.l0 (k + 1) y0 y1 y2))
 | 0 => fun _ _ _ r h => by simp [wicketmanref08_SameTexts.l0] at h
 | k + 1 => by
  have ih0 := wicketmanref08_SameTexts.mono_l k
  ·intro y0 y1 y2
   unfold wicketmanref08_SameTexts.l0
   repeat' first
   | (with_reducible exact ih0 _ _ _)
   | (with_reducible exact LeO.refl _)
   | (with_reducible exact LeO.none _)
   | (with_reducible refine LeO.ite ?_ ?_)
   | (with_reducible refine LeO.bind ?_ (fun _ => ?_))
   | exact ih0 _ _ _
   | exact LeO.none _
   | refine LeO.ite ?_ ?_
   | refine LeO.bind ?_ (fun _ => ?_)
theorem wicketmanref08_SameTexts.mono : ∀ a0 a1 k, LeO (wicketmanref08_SameTexts.f k a0 a1) (wicketmanref08_SameTexts.f (k + 1) a0 a1) := by
 intro a0 a1 k
 have ih0 := wicketmanref08_SameTexts.mono_l k
 unfold wicketmanref08_SameTexts.f
 repeat' first
   | (with_reducible exact ih0 _ _ _)
   | (with_reducible exact LeO.refl _)
   | (with_reducible exact LeO.none _)
   | (with_reducible refine LeO.ite ?_ ?_)
   | (with_reducible refine LeO.bind ?_ (fun _ => ?_))
   | exact ih0 _ _ _
   | exact LeO.none _
   | refine LeO.ite ?_ ?_
   | refine LeO.bind ?_ (fun _ => ?_)
end Go.Proofs.YtpfbemcoblganaaDoor.Pall
end
