import Derived.Test.YtpfbemcoblganaaDoorQkPall0
import Derived.Test.YtpfbemcoblganaaDoorQkPall28
namespace Go.Proofs.YtpfbemcoblganaaDoor.Pall
open Go.RowKit Go.Proofs.YtpfbemcoblganaaDoorW.PrintWords Go.Proofs.YtpfbemcoblganaaDoorW.PrintLast
set_option linter.unusedVariables false
set_option linter.unusedSimpArgs false
mutual
def wicketmanref10_Print.j0 : Nat → Bool → Int → List (S43) → List Int → Option (List Int × Int)
 | 0, _, _, _, _ => none
 | k + 1, x21, x798000, x798001, x798002 => if x21 = true then (some (([] : List Int), 3)) else ((strconv_Itoa.f x798000).bind fun t799 => (if 9 + t799.size ≤ 9223372036854775807 then (if ((⟨#[72, 84, 84, 80, 47, 49, 46, 49, 32]⟩ : ByteArray) ++ t799).size + 1 ≤ 9223372036854775807 then ((wicketmanref10_Reason.f k x798000).bind fun t800 => (if (((⟨#[72, 84, 84, 80, 47, 49, 46, 49, 32]⟩ : ByteArray) ++ t799) ++ (⟨#[32]⟩ : ByteArray)).size + t800.size ≤ 9223372036854775807 then (if ((((⟨#[72, 84, 84, 80, 47, 49, 46, 49, 32]⟩ : ByteArray) ++ t799) ++ (⟨#[32]⟩ : ByteArray)) ++ t800).size + 2 ≤ 9223372036854775807 then (wicketmanref10_Print.l0 k (((((⟨#[72, 84, 84, 80, 47, 49, 46, 49, 32]⟩ : ByteArray) ++ t799) ++ (⟨#[32]⟩ : ByteArray)) ++ t800) ++ (⟨#[13, 10]⟩ : ByteArray)) 0 x798000 x798001 x798002) else (none)) else (none))) else (none)) else (none)))
def wicketmanref10_Print.l0 : Nat → ByteArray → Int → Int → List (S43) → List Int → Option (List Int × Int)
 | 0, _, _, _, _, _ => none
 | k + 1, x4, x5, x798000, x798001, x798002 => if x5 < (x798001.length : Int) then (if 0 ≤ x5 then ((wicketmanref08_Print.f k ((rd_T43 x798001 x5).f0) ((rd_T43 x798001 x5).f1)).bind fun bt802 => (if bt802.2 = 0 then (if x4.size + bt802.1.size ≤ 9223372036854775807 then (if (x4 ++ bt802.1).size + 2 ≤ 9223372036854775807 then (wicketmanref10_Print.l0 k ((x4 ++ bt802.1) ++ (⟨#[13, 10]⟩ : ByteArray)) (wrap64 (x5 + 1)) x798000 x798001 x798002) else (none)) else (none)) else (some (([] : List Int), bt802.2)))) else (none)) else (if x4.size + 16 ≤ 9223372036854775807 then ((strconv_Itoa.f (x798002.length : Int)).bind fun t804 => (if (x4 ++ (⟨#[67, 111, 110, 116, 101, 110, 116, 45, 76, 101, 110, 103, 116, 104, 58, 32]⟩ : ByteArray)).size + t804.size ≤ 9223372036854775807 then (if ((x4 ++ (⟨#[67, 111, 110, 116, 101, 110, 116, 45, 76, 101, 110, 103, 116, 104, 58, 32]⟩ : ByteArray)) ++ t804).size + 4 ≤ 9223372036854775807 then (if (((x4 ++ (⟨#[67, 111, 110, 116, 101, 110, 116, 45, 76, 101, 110, 103, 116, 104, 58, 32]⟩ : ByteArray)) ++ t804) ++ (⟨#[13, 10, 13, 10]⟩ : ByteArray)).size + (strOfNums x798002).size ≤ 9223372036854775807 then (if ((((x4 ++ (⟨#[67, 111, 110, 116, 101, 110, 116, 45, 76, 101, 110, 103, 116, 104, 58, 32]⟩ : ByteArray)) ++ t804) ++ (⟨#[13, 10, 13, 10]⟩ : ByteArray)) ++ (strOfNums x798002)).size ≤ 140737488351232 then (some ((btsOf ((((x4 ++ (⟨#[67, 111, 110, 116, 101, 110, 116, 45, 76, 101, 110, 103, 116, 104, 58, 32]⟩ : ByteArray)) ++ t804) ++ (⟨#[13, 10, 13, 10]⟩ : ByteArray)) ++ (strOfNums x798002))), 0)) else (none)) else (none)) else (none)) else (none))) else (none))
end
def wicketmanref10_Print.f (k : Nat) (a0_0 : Int) (l0_1 : List (S43)) (l0_2 : List Int) : Option (List Int × Int) := (wicketmanref10_Reason.f k a0_0).bind fun t798 => (if t798.toList = ([] : List UInt8) then (some (([] : List Int), 1)) else (if (l0_2.length : Int) > 4000 then (wicketmanref10_Print.j0 k true a0_0 l0_1 l0_2) else (wicketmanref10_Print.j0 k (decide ((l0_1.length : Int) > 40)) a0_0 l0_1 l0_2)))
theorem wicketmanref10_Print.mono_l : ∀ k, (∀ y0 y1 y2 y3, LeO (wicketmanref10_Print.j0 k y0 y1 y2 y3) (wicketmanref10_Print.j0 (k + 1) y0 y1 y2 y3)) ∧ (∀ y0 y1 y2 y3 y4, LeO (wicketmanref10_Print.l0 k y0 y1 y2 y3 y4) (wicketmanref10_Print.l0 (k + 1) y0 y1 y2 y3 y4))
 | 0 => ⟨fun _ _ _ _ r h => by simp [wicketmanref10_Print.j0] at h, fun _ _ _ _ _ r h => by simp [wicketmanref10_Print.l0] at h⟩
 | k + 1 => by
  obtain ⟨ih0, ih1⟩ := wicketmanref10_Print.mono_l k
  refine ⟨?_, ?_⟩
  ·intro y0 y1 y2 y3
   unfold wicketmanref10_Print.j0
   repeat' first
   | (with_reducible exact ih0 _ _ _ _)
   | (with_reducible exact ih1 _ _ _ _ _)
   | (with_reducible exact wicketmanref08_Print.mono _ _ _)
   | (with_reducible exact wicketmanref10_Reason.mono _ _)
   | (with_reducible exact LeO.refl _)
   | (with_reducible exact LeO.none _)
   | (with_reducible refine LeO.ite ?_ ?_)
   | (with_reducible refine LeO.bind ?_ (fun _ => ?_))
   | exact ih0 _ _ _ _
   | exact ih1 _ _ _ _ _
   | exact wicketmanref08_Print.mono _ _ _
   | exact wicketmanref10_Reason.mono _ _
   | exact LeO.none _
   | refine LeO.ite ?_ ?_
   | refine LeO.bind ?_ (fun _ => ?_)
  ·intro y0 y1 y2 y3 y4
   unfold wicketmanref10_Print.l0
   repeat' first
   | (with_reducible exact ih0 _ _ _ _)
   | (with_reducible exact ih1 _ _ _ _ _)
   | (with_reducible exact wicketmanref08_Print.mono _ _ _)
   | (with_reducible exact wicketmanref10_Reason.mono _ _)
   | (with_reducible exact LeO.refl _)
   | (with_reducible exact LeO.none _)
   | (with_reducible refine LeO.ite ?_ ?_)
   | (with_reducible refine LeO.bind ?_ (fun _ => ?_))
   | exact ih0 _ _ _ _
   | exact ih1 _ _ _ _ _
   | exact wicketmanref08_Print.mono _ _ _
   | exact wicketmanref10_Reason.mono _ _
   | exact LeO.none _
   | refine LeO.ite ?_ ?_
   | refine LeO.bind ?_ (fun _ => ?_)
theorem wicketmanref10_Print.mono : ∀ a0 a1 a2 k, LeO (wicketmanref10_Print.f k a0 a1 a2) (wicketmanref10_Print.f (k + 1) a0 a1 a2) := by
 intro a0 a1 a2 k
 obtain ⟨ih0, ih1⟩ := wicketmanref10_Print.mono_l k
 unfold wicketmanref10_Print.f
 repeat' first
   | (with_reducible exact ih0 _ _ _ _)
   | (with_reducible exact ih1 _ _ _ _ _)
   | (with_reducible exact wicketmanref08_Print.mono _ _ _)
   | (with_reducible exact wicketmanref10_Reason.mono _ _)
   | (with_reducible exact LeO.refl _)
   | (with_reducible exact LeO.none _)
   | (with_reducible refine LeO.ite ?_ ?_)
   | (with_reducible refine LeO.bind ?_ (fun _ => ?_))
   | exact ih0 _ _ _ _
   | exact ih1 _ _ _ _ _
   | exact wicketmanref08_Print.mono _ _ _
   | exact wicketmanref10_Reason.mono _ _
   | exact LeO.none _
   | refine LeO.ite ?_ ?_
   | refine LeO.bind ?_ (fun _ => ?_)
end Go.Proofs.YtpfbemcoblganaaDoor.Pall
