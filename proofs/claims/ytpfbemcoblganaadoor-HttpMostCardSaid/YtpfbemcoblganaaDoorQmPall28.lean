import Derived.Test.YtpfbemcoblganaaDoorQmPall0
import Derived.Test.YtpfbemcoblganaaDoorQmPall5
import Derived.Test.YtpfbemcoblganaaDoorQmPall6
import Derived.Test.YtpfbemcoblganaaDoorQmPall22
namespace Go.Proofs.YtpfbemcoblganaaDoor.Pall
open Go.RowKit Go.Proofs.YtpfbemcoblganaaDoorW.PrintWords Go.Proofs.YtpfbemcoblganaaDoorW.PrintLast
set_option linter.unusedVariables false
set_option linter.unusedSimpArgs false
def wicketmanlaw10_heavy.l0 : Nat → Int → Int → Int → List (S43) → List Int → Option (Bool)
 | 0, _, _, _, _, _ => none
 | k + 1, x3, x4, x784000, x784001, x784002 => if x4 < (x784001.length : Int) then (if 0 ≤ x4 then (wicketmanlaw10_heavy.l0 k (wrap64 (x3 + (wrap64 ((wrap64 (1 + (((rd_T43 x784001 x4).f0).size : Int))) + (((rd_T43 x784001 x4).f1).size : Int))))) (wrap64 (x4 + 1)) x784000 x784001 x784002) else (none)) else (some (decide (x3 > 400)))
def wicketmanlaw10_heavy.f (k : Nat) (a0_0 : Int) (l0_1 : List (S43)) (l0_2 : List Int) : Option (Bool) := wicketmanlaw10_heavy.l0 k (l0_2.length : Int) 0 a0_0 l0_1 l0_2
theorem wicketmanlaw10_heavy.mono_l : ∀ k, (∀ y0 y1 y2 y3 y4, LeO (wicketmanlaw10_heavy.l0 k y0 y1 y2 y3 y4) (wicketmanlaw10_heavy.l0 (k + 1) y0 y1 y2 y3 y4))
 | 0 => fun _ _ _ _ _ r h => by simp [wicketmanlaw10_heavy.l0] at h
 | k + 1 => by
  have ih0 := wicketmanlaw10_heavy.mono_l k
  ·intro y0 y1 y2 y3 y4
   unfold wicketmanlaw10_heavy.l0
   repeat' first
   | (with_reducible exact ih0 _ _ _ _ _)
   | (with_reducible exact LeO.refl _)
   | (with_reducible exact LeO.none _)
   | (with_reducible refine LeO.ite ?_ ?_)
   | (with_reducible refine LeO.bind ?_ (fun _ => ?_))
   | exact ih0 _ _ _ _ _
   | exact LeO.none _
   | refine LeO.ite ?_ ?_
   | refine LeO.bind ?_ (fun _ => ?_)
theorem wicketmanlaw10_heavy.mono : ∀ a0 a1 a2 k, LeO (wicketmanlaw10_heavy.f k a0 a1 a2) (wicketmanlaw10_heavy.f (k + 1) a0 a1 a2) := by
 intro a0 a1 a2 k
 have ih0 := wicketmanlaw10_heavy.mono_l k
 unfold wicketmanlaw10_heavy.f
 repeat' first
   | (with_reducible exact ih0 _ _ _ _ _)
   | (with_reducible exact LeO.refl _)
   | (with_reducible exact LeO.none _)
   | (with_reducible refine LeO.ite ?_ ?_)
   | (with_reducible refine LeO.bind ?_ (fun _ => ?_))
   | exact ih0 _ _ _ _ _
   | exact LeO.none _
   | refine LeO.ite ?_ ?_
   | refine LeO.bind ?_ (fun _ => ?_)
def wicketmanref10_Reason.l0 : Nat → Int → List ByteArray → List Int → Int → Option (ByteArray)
 | 0, _, _, _, _ => none
 | k + 1, x0, x3, x4, x5 => if x5 < (x4.length : Int) then (if 0 ≤ x5 then (if (rd x4 x5) = x0 then (if x5 < (x3.length : Int) then (some (rdOf ByteArray.empty x3 x5)) else (none)) else (wicketmanref10_Reason.l0 k x0 x3 x4 (wrap64 (x5 + 1)))) else (none)) else (some (⟨#[]⟩ : ByteArray))
def wicketmanref10_Reason.f (k : Nat) (a0 : Int) : Option (ByteArray) := (wicketmanref10_Statuses.f).bind fun t789 => (wicketmanref10_Reason.l0 k a0 (([(⟨#[79, 75]⟩ : ByteArray), (⟨#[83, 101, 101, 32, 79, 116, 104, 101, 114]⟩ : ByteArray), (⟨#[66, 97, 100, 32, 82, 101, 113, 117, 101, 115, 116]⟩ : ByteArray), (⟨#[85, 110, 97, 117, 116, 104, 111, 114, 105, 122, 101, 100]⟩ : ByteArray), (⟨#[70, 111, 114, 98, 105, 100, 100, 101, 110]⟩ : ByteArray), (⟨#[78, 111, 116, 32, 70, 111, 117, 110, 100]⟩ : ByteArray), (⟨#[77, 101, 116, 104, 111, 100, 32, 78, 111, 116, 32, 65, 108, 108, 111, 119, 101, 100]⟩ : ByteArray), (⟨#[67, 111, 110, 102, 108, 105, 99, 116]⟩ : ByteArray), (⟨#[67, 111, 110, 116, 101, 110, 116, 32, 84, 111, 111, 32, 76, 97, 114, 103, 101]⟩ : ByteArray), (⟨#[84, 111, 111, 32, 77, 97, 110, 121, 32, 82, 101, 113, 117, 101, 115, 116, 115]⟩ : ByteArray), (⟨#[82, 101, 113, 117, 101, 115, 116, 32, 72, 101, 97, 100, 101, 114, 32, 70, 105, 101, 108, 100, 115, 32, 84, 111, 111, 32, 76, 97, 114, 103, 101]⟩ : ByteArray), (⟨#[83, 101, 114, 118, 105, 99, 101, 32, 85, 110, 97, 118, 97, 105, 108, 97, 98, 108, 101]⟩ : ByteArray)] : List ByteArray)) t789 0)
theorem wicketmanref10_Reason.mono_l : ∀ k, (∀ y0 y1 y2 y3, LeO (wicketmanref10_Reason.l0 k y0 y1 y2 y3) (wicketmanref10_Reason.l0 (k + 1) y0 y1 y2 y3))
 | 0 => fun _ _ _ _ r h => by simp [wicketmanref10_Reason.l0] at h
 | k + 1 => by
  have ih0 := wicketmanref10_Reason.mono_l k
  ·intro y0 y1 y2 y3
   unfold wicketmanref10_Reason.l0
   repeat' first
   | (with_reducible exact ih0 _ _ _ _)
   | (with_reducible exact LeO.refl _)
   | (with_reducible exact LeO.none _)
   | (with_reducible refine LeO.ite ?_ ?_)
   | (with_reducible refine LeO.bind ?_ (fun _ => ?_))
   | exact ih0 _ _ _ _
   | exact LeO.none _
   | refine LeO.ite ?_ ?_
   | refine LeO.bind ?_ (fun _ => ?_)
theorem wicketmanref10_Reason.mono : ∀ a0 k, LeO (wicketmanref10_Reason.f k a0) (wicketmanref10_Reason.f (k + 1) a0) := by
 intro a0 k
 have ih0 := wicketmanref10_Reason.mono_l k
 unfold wicketmanref10_Reason.f
 repeat' first
   | (with_reducible exact ih0 _ _ _ _)
   | (with_reducible exact LeO.refl _)
   | (with_reducible exact LeO.none _)
   | (with_reducible refine LeO.ite ?_ ?_)
   | (with_reducible refine LeO.bind ?_ (fun _ => ?_))
   | exact ih0 _ _ _ _
   | exact LeO.none _
   | refine LeO.ite ?_ ?_
   | refine LeO.bind ?_ (fun _ => ?_)
def wicketmanref08_Print.j0 : Nat → Bool → ByteArray → ByteArray → Option (ByteArray × Int)
 | 0, _, _, _ => none
 | k + 1, x14, x795000, x795001 => if x14 = true then (some ((⟨#[]⟩ : ByteArray), 12)) else (if x795000.size + 2 ≤ 9223372036854775807 then (if (x795000 ++ (⟨#[58, 32]⟩ : ByteArray)).size + x795001.size ≤ 9223372036854775807 then (if (((x795000 ++ (⟨#[58, 32]⟩ : ByteArray)) ++ x795001).size : Int) > 2000 then (some ((⟨#[]⟩ : ByteArray), 3)) else (some ((x795000 ++ (⟨#[58, 32]⟩ : ByteArray)) ++ x795001, 0))) else (none)) else (none))
def wicketmanref08_Print.f (k : Nat) (a0_0 : ByteArray) (a0_1 : ByteArray) : Option (ByteArray × Int) := (wicketmanref08_Token.f k a0_0).bind fun t795 => (if t795 = true then ((wicketmanref08_Value.f k a0_1).bind fun t796 => (wicketmanref08_Print.j0 k (!t796) a0_0 a0_1)) else (wicketmanref08_Print.j0 k true a0_0 a0_1))
theorem wicketmanref08_Print.mono_l : ∀ k, (∀ y0 y1 y2, LeO (wicketmanref08_Print.j0 k y0 y1 y2) (wicketmanref08_Print.j0 (k + 1) y0 y1 y2))
 | 0 => fun _ _ _ r h => by simp [wicketmanref08_Print.j0] at h
 | k + 1 => by
  have ih0 := wicketmanref08_Print.mono_l k
  ·intro y0 y1 y2
   unfold wicketmanref08_Print.j0
   repeat' first
   | (with_reducible exact ih0 _ _ _)
   | (with_reducible exact wicketmanref08_Token.mono _ _)
   | (with_reducible exact wicketmanref08_Value.mono _ _)
   | (with_reducible exact LeO.refl _)
   | (with_reducible exact LeO.none _)
   | (with_reducible refine LeO.ite ?_ ?_)
   | (with_reducible refine LeO.bind ?_ (fun _ => ?_))
   | exact ih0 _ _ _
   | exact wicketmanref08_Token.mono _ _
   | exact wicketmanref08_Value.mono _ _
   | exact LeO.none _
   | refine LeO.ite ?_ ?_
   | refine LeO.bind ?_ (fun _ => ?_)
theorem wicketmanref08_Print.mono : ∀ a0 a1 k, LeO (wicketmanref08_Print.f k a0 a1) (wicketmanref08_Print.f (k + 1) a0 a1) := by
 intro a0 a1 k
 have ih0 := wicketmanref08_Print.mono_l k
 unfold wicketmanref08_Print.f
 repeat' first
   | (with_reducible exact ih0 _ _ _)
   | (with_reducible exact wicketmanref08_Token.mono _ _)
   | (with_reducible exact wicketmanref08_Value.mono _ _)
   | (with_reducible exact LeO.refl _)
   | (with_reducible exact LeO.none _)
   | (with_reducible refine LeO.ite ?_ ?_)
   | (with_reducible refine LeO.bind ?_ (fun _ => ?_))
   | exact ih0 _ _ _
   | exact wicketmanref08_Token.mono _ _
   | exact wicketmanref08_Value.mono _ _
   | exact LeO.none _
   | refine LeO.ite ?_ ?_
   | refine LeO.bind ?_ (fun _ => ?_)
end Go.Proofs.YtpfbemcoblganaaDoor.Pall
