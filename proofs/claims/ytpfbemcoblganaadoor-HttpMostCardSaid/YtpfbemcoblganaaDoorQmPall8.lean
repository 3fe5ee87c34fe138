import Derived.Test.YtpfbemcoblganaaDoorQmPall0
import Derived.Test.YtpfbemcoblganaaDoorQmPall7
namespace Go.Proofs.YtpfbemcoblganaaDoor.Pall
open Go.RowKit Go.Proofs.YtpfbemcoblganaaDoorW.PrintWords Go.Proofs.YtpfbemcoblganaaDoorW.PrintLast
set_option linter.unusedVariables false
set_option linter.unusedSimpArgs false
def wicketmanref09_fields.l0 : Nat → List ByteArray → List (S43) → Int → Option ((List (S43)) × Int)
 | 0, _, _, _ => none
 | k + 1, x0, x4, x5 => if x5 < (x0.length : Int) then (if 0 ≤ x5 then ((wicketmanref08_Field.f k (rdOf ByteArray.empty x0 x5)).bind fun bt206 => (if bt206.2.2 = 0 then (if x4.length < 4398046511104 then (wicketmanref09_fields.l0 k x0 (x4 ++ [(⟨bt206.1, bt206.2.1⟩ : S43)]) (wrap64 (x5 + 1))) else (none)) else (some (([] : List (S43)), bt206.2.2)))) else (none)) else (some (x4, 0))
def wicketmanref09_fields.f (k : Nat) (l0 : List ByteArray) : Option ((List (S43)) × Int) := if (l0.length : Int) > 40 then (some (([] : List (S43)), 3)) else (wicketmanref09_fields.l0 k l0 ([] : List (S43)) 0)
theorem wicketmanref09_fields.mono_l : ∀ k, (∀ y0 y1 y2, LeO (wicketmanref09_fields.l0 k y0 y1 y2) (wicketmanref09_fields.l0 (k + 1) y0 y1 y2))
 | 0 => fun _ _ _ r h => by simp [wicketmanref09_fields.l0] at h
 | k + 1 => by
  have ih0 := wicketmanref09_fields.mono_l k
  ·intro y0 y1 y2
   unfold wicketmanref09_fields.l0
   repeat' first
   | (with_reducible exact ih0 _ _ _)
   | (with_reducible exact wicketmanref08_Field.mono _ _)
   | (with_reducible exact LeO.refl _)
   | (with_reducible exact LeO.none _)
   | (with_reducible refine LeO.ite ?_ ?_)
   | (with_reducible refine LeO.bind ?_ (fun _ => ?_))
   | exact ih0 _ _ _
   | exact wicketmanref08_Field.mono _ _
   | exact LeO.none _
   | refine LeO.ite ?_ ?_
   | refine LeO.bind ?_ (fun _ => ?_)
theorem wicketmanref09_fields.mono : ∀ a0 k, LeO (wicketmanref09_fields.f k a0) (wicketmanref09_fields.f (k + 1) a0) := by
 intro a0 k
 have ih0 := wicketmanref09_fields.mono_l k
 unfold wicketmanref09_fields.f
 repeat' first
   | (with_reducible exact ih0 _ _ _)
   | (with_reducible exact wicketmanref08_Field.mono _ _)
   | (with_reducible exact LeO.refl _)
   | (with_reducible exact LeO.none _)
   | (with_reducible refine LeO.ite ?_ ?_)
   | (with_reducible refine LeO.bind ?_ (fun _ => ?_))
   | exact ih0 _ _ _
   | exact wicketmanref08_Field.mono _ _
   | exact LeO.none _
   | refine LeO.ite ?_ ?_
   | refine LeO.bind ?_ (fun _ => ?_)
mutual
def wicketmanref01_Decimal.j0 : Nat → ByteArray → Int → Bool → Option (Int × Bool)
 | 0, _, _, _ => none
 | k + 1, x0, x1, x15 => if x15 = true then (some (0, false)) else (wicketmanref01_Decimal.l0 k x0 x1 0 0)
def wicketmanref01_Decimal.l0 : Nat → ByteArray → Int → Int → Int → Option (Int × Bool)
 | 0, _, _, _, _ => none
 | k + 1, x0, x1, x6, x7 => if x7 < (x0.size : Int) then (if 0 ≤ x7 then (if (bt x0 x7) < 48 then (some (0, false)) else (if (bt x0 x7) > 57 then (some (0, false)) else (wicketmanref01_Decimal.l0 k x0 x1 (wrap64 ((wrap64 (10 * x6)) + (((bt x0 x7) - 48) % 256))) (wrap64 (x7 + 1))))) else (none)) else (if x6 > x1 then (some (0, false)) else (some (x6, true)))
end
def wicketmanref01_Decimal.f (k : Nat) (a0 : ByteArray) (a1 : Int) : Option (Int × Bool) := if (a0.size : Int) < 1 then (wicketmanref01_Decimal.j0 k a0 a1 true) else (wicketmanref01_Decimal.j0 k a0 a1 (decide ((a0.size : Int) > 9)))
theorem wicketmanref01_Decimal.mono_l : ∀ k, (∀ y0 y1 y2, LeO (wicketmanref01_Decimal.j0 k y0 y1 y2) (wicketmanref01_Decimal.j0 (k + 1) y0 y1 y2)) ∧ (∀ y0 y1 y2 y3, LeO (wicketmanref01_Decimal.l0 k y0 y1 y2 y3) (wicketmanref01_Decimal.l0 (k + 1) y0 y1 y2 y3))
 | 0 => ⟨fun _ _ _ r h => by simp [wicketmanref01_Decimal.j0] at h, fun _ _ _ _ r h => by simp [wicketmanref01_Decimal.l0] at h⟩
 | k + 1 => by
  obtain ⟨ih0, ih1⟩ := wicketmanref01_Decimal.mono_l k
  refine ⟨?_, ?_⟩
  ·intro y0 y1 y2
   unfold wicketmanref01_Decimal.j0
   repeat' first
   | (with_reducible exact ih0 _ _ _)
   | (with_reducible exact ih1 _ _ _ _)
   | (with_reducible exact LeO.refl _)
   | (with_reducible exact LeO.none _)
   | (with_reducible refine LeO.ite ?_ ?_)
   | (with_reducible refine LeO.bind ?_ (fun _ => ?_))
   | exact ih0 _ _ _
   | exact ih1 _ _ _ _
   | exact LeO.none _
   | refine LeO.ite ?_ ?_
   | refine LeO.bind ?_ (fun _ => ?_)
  ·intro y0 y1 y2 y3
   unfold wicketmanref01_Decimal.l0
   repeat' first
   | (with_reducible exact ih0 _ _ _)
   | (with_reducible exact ih1 _ _ _ _)
   | (with_reducible exact LeO.refl _)
   | (with_reducible exact LeO.none _)
   | (with_reducible refine LeO.ite ?_ ?_)
   | (with_reducible refine LeO.bind ?_ (fun _ => ?_))
   | exact ih0 _ _ _
   | exact ih1 _ _ _ _
   | exact LeO.none _
   | refine LeO.ite ?_ ?_
   | refine LeO.bind ?_ (fun _ => ?_)
theorem wicketmanref01_Decimal.mono : ∀ a0 a1 k, LeO (wicketmanref01_Decimal.f k a0 a1) (wicketmanref01_Decimal.f (k + 1) a0 a1) := by
 intro a0 a1 k
 obtain ⟨ih0, ih1⟩ := wicketmanref01_Decimal.mono_l k
 unfold wicketmanref01_Decimal.f
 repeat' first
   | (with_reducible exact ih0 _ _ _)
   | (with_reducible exact ih1 _ _ _ _)
   | (with_reducible exact LeO.refl _)
   | (with_reducible exact LeO.none _)
   | (with_reducible refine LeO.ite ?_ ?_)
   | (with_reducible refine LeO.bind ?_ (fun _ => ?_))
   | exact ih0 _ _ _
   | exact ih1 _ _ _ _
   | exact LeO.none _
   | refine LeO.ite ?_ ?_
   | refine LeO.bind ?_ (fun _ => ?_)
def wicketmanref08_small.f (a0 : Int) : Option (Int) := if a0 ≥ 65 then (if a0 ≤ 90 then (some ((a0 + 32) % 256)) else (some a0)) else (some a0)
def wicketmanref08_Same.l0 : Nat → ByteArray → ByteArray → Int → Option (Bool)
 | 0, _, _, _ => none
 | k + 1, x0, x1, x5 => if x5 < (x0.size : Int) then (if 0 ≤ x5 then ((wicketmanref08_small.f (bt x0 x5)).bind fun t213 => (if x5 < (x1.size : Int) then ((wicketmanref08_small.f (bt x1 x5)).bind fun t214 => (if t213 = t214 then (wicketmanref08_Same.l0 k x0 x1 (wrap64 (x5 + 1))) else (some false))) else (none))) else (none)) else (some true)
def wicketmanref08_Same.f (k : Nat) (a0 : ByteArray) (a1 : ByteArray) : Option (Bool) := if (a0.size : Int) = (a1.size : Int) then (wicketmanref08_Same.l0 k a0 a1 0) else (some false)
theorem wicketmanref08_Same.mono_l : ∀ k, (∀ y0 y1 y2, LeO (wicketmanref08_Same.l0 k y0 y1 y2) (wicketmanref08_Same.l0 (k + 1) y0 y1 y2))
 | 0 => fun _ _ _ r h => by simp [wicketmanref08_Same.l0] at h
 | k + 1 => by
  have ih0 := wicketmanref08_Same.mono_l k
  ·intro y0 y1 y2
   unfold wicketmanref08_Same.l0
   repeat' first
   | (with_reducible exact ih0 _ _ _)
   | (with_reducible exact LeO.refl _)
   | (with_reducible exact LeO.none _)
   | (with_reducible refine LeO.ite ?_ ?_)
   | (with_reducible refine LeO.bind ?_ (fun _ => ?_))
   | exact ih0 _ _ _
   | exact LeO.none _
   | refine LeO.ite ?_ ?_
   | refine LeO.bind ?_ (fun _ => ?_)
theorem wicketmanref08_Same.mono : ∀ a0 a1 k, LeO (wicketmanref08_Same.f k a0 a1) (wicketmanref08_Same.f (k + 1) a0 a1) := by
 intro a0 a1 k
 have ih0 := wicketmanref08_Same.mono_l k
 unfold wicketmanref08_Same.f
 repeat' first
   | (with_reducible exact ih0 _ _ _)
   | (with_reducible exact LeO.refl _)
   | (with_reducible exact LeO.none _)
   | (with_reducible refine LeO.ite ?_ ?_)
   | (with_reducible refine LeO.bind ?_ (fun _ => ?_))
   | exact ih0 _ _ _
   | exact LeO.none _
   | refine LeO.ite ?_ ?_
   | refine LeO.bind ?_ (fun _ => ?_)
def wicketmanref08_All.l0 : Nat → List (S43) → ByteArray → List ByteArray → Int → Option (List ByteArray)
 | 0, _, _, _, _ => none
 | k + 1, x0, x1, x5, x6 => if x6 < (x0.length : Int) then (if 0 ≤ x6 then ((wicketmanref08_Same.f k ((rd_T43 x0 x6).f0) x1).bind fun t216 => (if t216 = true then (if x5.length < 8796093022208 then (wicketmanref08_All.l0 k x0 x1 (x5 ++ [(rd_T43 x0 x6).f1]) (wrap64 (x6 + 1))) else (none)) else (wicketmanref08_All.l0 k x0 x1 x5 (wrap64 (x6 + 1))))) else (none)) else (some x5)
def wicketmanref08_All.f (k : Nat) (l0 : List (S43)) (a1 : ByteArray) : Option (List ByteArray) := wicketmanref08_All.l0 k l0 a1 ([] : List ByteArray) 0
theorem wicketmanref08_All.mono_l : ∀ k, (∀ y0 y1 y2 y3, LeO (wicketmanref08_All.l0 k y0 y1 y2 y3) (wicketmanref08_All.l0 (k + 1) y0 y1 y2 y3))
 | 0 => fun _ _ _ _ r h => by simp [wicketmanref08_All.l0] at h
 | k + 1 => by
  have ih0 := wicketmanref08_All.mono_l k
  ·intro y0 y1 y2 y3
   unfold wicketmanref08_All.l0
   repeat' first
   | (with_reducible exact ih0 _ _ _ _)
   | (with_reducible exact wicketmanref08_Same.mono _ _ _)
   | (with_reducible exact LeO.refl _)
   | (with_reducible exact LeO.none _)
   | (with_reducible refine LeO.ite ?_ ?_)
   | (with_reducible refine LeO.bind ?_ (fun _ => ?_))
   | exact ih0 _ _ _ _
   | exact wicketmanref08_Same.mono _ _ _
   | exact LeO.none _
   | refine LeO.ite ?_ ?_
   | refine LeO.bind ?_ (fun _ => ?_)
theorem wicketmanref08_All.mono : ∀ a0 a1 k, LeO (wicketmanref08_All.f k a0 a1) (wicketmanref08_All.f (k + 1) a0 a1) := by
 intro a0 a1 k
 have ih0 := wicketmanref08_All.mono_l k
 unfold wicketmanref08_All.f
 repeat' first
   | (with_reducible exact ih0 _ _ _ _)
   | (with_reducible exact wicketmanref08_Same.mono _ _ _)
   | (with_reducible exact LeO.refl _)
   | (with_reducible exact LeO.none _)
   | (with_reducible refine LeO.ite ?_ ?_)
   | (with_reducible refine LeO.bind ?_ (fun _ => ?_))
   | exact ih0 _ _ _ _
   | exact wicketmanref08_Same.mono _ _ _
   | exact LeO.none _
   | refine LeO.ite ?_ ?_
   | refine LeO.bind ?_ (fun _ => ?_)
def wicketmanref09_body.j0 : Nat → Int → List ByteArray → Bool → Option (Int)
 | 0, _, _, _ => none
 | k + 1, x1, x5, x25 => if x25 = true then (some 14) else (if (x5.length : Int) = 1 then (if 0 < (x5.length : Int) then ((wicketmanref01_Decimal.f k (rdOf ByteArray.empty x5 0) 4000).bind fun bt231 => (if bt231.2 = true then (if bt231.1 = x1 then (some 0) else (some 13)) else (some 13))) else (none)) else (if 0 = x1 then (some 0) else (some 13)))
def wicketmanref09_body.f (k : Nat) (l0 : List (S43)) (a1 : Int) : Option (Int) := (wicketmanref08_All.f k l0 (⟨#[67, 111, 110, 116, 101, 110, 116, 45, 76, 101, 110, 103, 116, 104]⟩ : ByteArray)).bind fun t221 => ((wicketmanref08_All.f k l0 (⟨#[72, 111, 115, 116]⟩ : ByteArray)).bind fun t224 => (if (t224.length : Int) = 1 then ((wicketmanref08_All.f k l0 (⟨#[84, 114, 97, 110, 115, 102, 101, 114, 45, 69, 110, 99, 111, 100, 105, 110, 103]⟩ : ByteArray)).bind fun t227 => (if (t227.length : Int) > 0 then (wicketmanref09_body.j0 k a1 t221 true) else (wicketmanref09_body.j0 k a1 t221 (decide ((t221.length : Int) > 1))))) else (wicketmanref09_body.j0 k a1 t221 true)))
theorem wicketmanref09_body.mono_l : ∀ k, (∀ y0 y1 y2, LeO (wicketmanref09_body.j0 k y0 y1 y2) (wicketmanref09_body.j0 (k + 1) y0 y1 y2))
 | 0 => fun _ _ _ r h => by simp [wicketmanref09_body.j0] at h
 | k + 1 => by
  have ih0 := wicketmanref09_body.mono_l k
  ·intro y0 y1 y2
   unfold wicketmanref09_body.j0
   repeat' first
   | (with_reducible exact ih0 _ _ _)
   | (with_reducible exact wicketmanref01_Decimal.mono _ _ _)
   | (with_reducible exact wicketmanref08_All.mono _ _ _)
   | (with_reducible exact LeO.refl _)
   | (with_reducible exact LeO.none _)
   | (with_reducible refine LeO.ite ?_ ?_)
   | (with_reducible refine LeO.bind ?_ (fun _ => ?_))
   | exact ih0 _ _ _
   | exact wicketmanref01_Decimal.mono _ _ _
   | exact wicketmanref08_All.mono _ _ _
   | exact LeO.none _
   | refine LeO.ite ?_ ?_
   | refine LeO.bind ?_ (fun _ => ?_)
theorem wicketmanref09_body.mono : ∀ a0 a1 k, LeO (wicketmanref09_body.f k a0 a1) (wicketmanref09_body.f (k + 1) a0 a1) := by
 intro a0 a1 k
 have ih0 := wicketmanref09_body.mono_l k
 unfold wicketmanref09_body.f
 repeat' first
   | (with_reducible exact ih0 _ _ _)
   | (with_reducible exact wicketmanref01_Decimal.mono _ _ _)
   | (with_reducible exact wicketmanref08_All.mono _ _ _)
   | (with_reducible exact LeO.refl _)
   | (with_reducible exact LeO.none _)
   | (with_reducible refine LeO.ite ?_ ?_)
   | (with_reducible refine LeO.bind ?_ (fun _ => ?_))
   | exact ih0 _ _ _
   | exact wicketmanref01_Decimal.mono _ _ _
   | exact wicketmanref08_All.mono _ _ _
   | exact LeO.none _
   | refine LeO.ite ?_ ?_
   | refine LeO.bind ?_ (fun _ => ?_)
end Go.Proofs.YtpfbemcoblganaaDoor.Pall
