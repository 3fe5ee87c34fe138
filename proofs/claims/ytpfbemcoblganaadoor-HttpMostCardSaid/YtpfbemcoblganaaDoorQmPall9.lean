import Derived.Test.YtpfbemcoblganaaDoorQmPall0
import Derived.Test.YtpfbemcoblganaaDoorQmPall5
import Derived.Test.YtpfbemcoblganaaDoorQmPall6
import Derived.Test.YtpfbemcoblganaaDoorQmPall8
namespace Go.Proofs.YtpfbemcoblganaaDoor.Pall
open Go.RowKit Go.Proofs.YtpfbemcoblganaaDoorW.PrintWords Go.Proofs.YtpfbemcoblganaaDoorW.PrintLast
set_option linter.unusedVariables false
set_option linter.unusedSimpArgs false
def wicketmanref09_Parse.j0 : Nat → List Int → List ByteArray → Int → Bool → Option (ByteArray × ByteArray × (List (S43)) × List Int × Int)
 | 0, _, _, _, _ => none
 | k + 1, x0, x4, x5, x24 => if x24 = true then (some ((⟨#[]⟩ : ByteArray), (⟨#[]⟩ : ByteArray), ([] : List (S43)), ([] : List Int), 10)) else (if 0 < (x4.length : Int) then ((wicketmanref09_first.f k (rdOf ByteArray.empty x4 0)).bind fun bt240 => (if bt240.2.2.2.2 = 0 then (if 1 ≤ (x4.length : Int) then ((wicketmanref09_fields.f k (x4.drop 1)).bind fun bt254 => (if bt254.2 = 0 then ((wicketmanref09_body.f k bt254.1 (wrap64 ((x0.length : Int) - x5))).bind fun t258 => (if t258 = 0 then (if 0 ≤ x5 then (if x5 ≤ (x0.length : Int) then (some (bt240.1, bt240.2.1, bt254.1, (x0.drop (x5 : Int).toNat), 0)) else (none)) else (none)) else (some ((⟨#[]⟩ : ByteArray), (⟨#[]⟩ : ByteArray), ([] : List (S43)), ([] : List Int), t258)))) else (some ((⟨#[]⟩ : ByteArray), (⟨#[]⟩ : ByteArray), ([] : List (S43)), ([] : List Int), bt254.2)))) else (none)) else (some ((⟨#[]⟩ : ByteArray), (⟨#[]⟩ : ByteArray), ([] : List (S43)), ([] : List Int), bt240.2.2.2.2)))) else (none))
def wicketmanref09_Parse.f (k : Nat) (l0 : List Int) : Option (ByteArray × ByteArray × (List (S43)) × List Int × Int) := (wicketmanref09_Lines.f k l0).bind fun bt234 => (if bt234.2.2 = true then (wicketmanref09_Parse.j0 k l0 bt234.1 bt234.2.1 ((bt234.1.length : Int) == 0)) else (wicketmanref09_Parse.j0 k l0 bt234.1 bt234.2.1 true))
theorem wicketmanref09_Parse.mono_l : ∀ k, (∀ y0 y1 y2 y3, LeO (wicketmanref09_Parse.j0 k y0 y1 y2 y3) (wicketmanref09_Parse.j0 (k + 1) y0 y1 y2 y3))
 | 0 => fun _ _ _ _ r h => by simp [wicketmanref09_Parse.j0] at h
 | k + 1 => by
  have ih0 := wicketmanref09_Parse.mono_l k
  ·intro y0 y1 y2 y3
   unfold wicketmanref09_Parse.j0
   repeat' first
   | (with_reducible exact ih0 _ _ _ _)
   | (with_reducible exact wicketmanref09_Lines.mono _ _)
   | (with_reducible exact wicketmanref09_body.mono _ _ _)
   | (with_reducible exact wicketmanref09_fields.mono _ _)
   | (with_reducible exact wicketmanref09_first.mono _ _)
   | (with_reducible exact LeO.refl _)
   | (with_reducible exact LeO.none _)
   | (with_reducible refine LeO.ite ?_ ?_)
   | (with_reducible refine LeO.bind ?_ (fun _ => ?_))
   | exact ih0 _ _ _ _
   | exact wicketmanref09_Lines.mono _ _
   | exact wicketmanref09_body.mono _ _ _
   | exact wicketmanref09_fields.mono _ _
   | exact wicketmanref09_first.mono _ _
   | exact LeO.none _
   | refine LeO.ite ?_ ?_
   | refine LeO.bind ?_ (fun _ => ?_)
theorem wicketmanref09_Parse.mono : ∀ a0 k, LeO (wicketmanref09_Parse.f k a0) (wicketmanref09_Parse.f (k + 1) a0) := by
 intro a0 k
 have ih0 := wicketmanref09_Parse.mono_l k
 unfold wicketmanref09_Parse.f
 repeat' first
   | (with_reducible exact ih0 _ _ _ _)
   | (with_reducible exact wicketmanref09_Lines.mono _ _)
   | (with_reducible exact wicketmanref09_body.mono _ _ _)
   | (with_reducible exact wicketmanref09_fields.mono _ _)
   | (with_reducible exact wicketmanref09_first.mono _ _)
   | (with_reducible exact LeO.refl _)
   | (with_reducible exact LeO.none _)
   | (with_reducible refine LeO.ite ?_ ?_)
   | (with_reducible refine LeO.bind ?_ (fun _ => ?_))
   | exact ih0 _ _ _ _
   | exact wicketmanref09_Lines.mono _ _
   | exact wicketmanref09_body.mono _ _ _
   | exact wicketmanref09_fields.mono _ _
   | exact wicketmanref09_first.mono _ _
   | exact LeO.none _
   | refine LeO.ite ?_ ?_
   | refine LeO.bind ?_ (fun _ => ?_)
def wicketmanref08_SameTexts.l0 : Nat → List ByteArray → List ByteArray → Int → Option (Bool)
 | 0, _, _, _ => none
 | k + 1, x0, x1, x5 => if x5 < (x0.length : Int) then (if 0 ≤ x5 then (if x5 < (x1.length : Int) then (if (rdOf ByteArray.empty x0 x5).toList = (rdOf ByteArray.empty x1 x5).toList then (wicketmanref08_SameTexts.l0 k x0 x1 (wrap64 (x5 + 1))) else (some false)) else (none)) else (none)) else (some true)
def wicketmanref08_SameTexts.f (k : Nat) (l0 : List ByteArray) (l1 : List ByteArray) : Option (Bool) := if (l0.length : Int) = (l1.length : Int) then (wicketmanref08_SameTexts.l0 k l0 l1 0) else (some false)
theorem wicketmanref08_SameTexts.mono_l : ∀ k, (∀ y0 y1 y2, LeO (wicketmanref08_SameTexts.l0 k y0 y1 y2) (wicketmanref08_SameTexts.l0 (k + 1) y0 y1 y2))
 | 0 => fun _ _ _ r h => by simp [wicketmanref08_SameTexts.l0] at h
 | k + 1 => by
  have ih0 := wicketmanref08_SameTexts.mono_l k
  ·intro y0 y1 y2
   unfold wicketmanref08_SameTexts.l0
   repeat' first
   | (with_reducible exact ih0 _ _ _)
   | (with_reducible exact LeO.refl _)
   | (with_reducible exact LeO.none _)
   | (with_reducible refine LeO.ite ?_ ?_)
   | (with_reducible refine LeO.bind ?_ (fun _ => ?_))
   | exact ih0 _ _ _
   | exact LeO.none _
   | refine LeO.ite ?_ ?_
   | refine LeO.bind ?_ (fun _ => ?_)
theorem wicketmanref08_SameTexts.mono : ∀ a0 a1 k, LeO (wicketmanref08_SameTexts.f k a0 a1) (wicketmanref08_SameTexts.f (k + 1) a0 a1) := by
 intro a0 a1 k
 have ih0 := wicketmanref08_SameTexts.mono_l k
 unfold wicketmanref08_SameTexts.f
 repeat' first
   | (with_reducible exact ih0 _ _ _)
   | (with_reducible exact LeO.refl _)
   | (with_reducible exact LeO.none _)
   | (with_reducible refine LeO.ite ?_ ?_)
   | (with_reducible refine LeO.bind ?_ (fun _ => ?_))
   | exact ih0 _ _ _
   | exact LeO.none _
   | refine LeO.ite ?_ ?_
   | refine LeO.bind ?_ (fun _ => ?_)
end Go.Proofs.YtpfbemcoblganaaDoor.Pall
