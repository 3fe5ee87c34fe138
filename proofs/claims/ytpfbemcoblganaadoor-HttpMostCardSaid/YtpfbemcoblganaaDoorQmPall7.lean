import Derived.Test.YtpfbemcoblganaaDoorQmPall0
import Derived.Test.YtpfbemcoblganaaDoorQmPall5
import Derived.Test.YtpfbemcoblganaaDoorQmPall6
namespace Go.Proofs.YtpfbemcoblganaaDoor.Pall
open Go.RowKit Go.Proofs.YtpfbemcoblganaaDoorW.PrintWords Go.Proofs.YtpfbemcoblganaaDoorW.PrintLast
set_option linter.unusedVariables false
set_option linter.unusedSimpArgs false
mutual
def wicketmanref08_Field.j1 : Nat → ByteArray → Int → Option (ByteArray × ByteArray × Int)
 | 0, _, _ => none
 | k + 1, x0, x4 => if x4 = (x0.size : Int) then (some ((⟨#[]⟩ : ByteArray), (⟨#[]⟩ : ByteArray), 12)) else (if 0 ≤ x4 then (if x4 ≤ (x0.size : Int) then (if 0 ≤ (wrap64 (x4 + 1)) then (if (wrap64 (x4 + 1)) ≤ (x0.size : Int) then ((wicketmanref08_trim.f k (x0.extract ((wrap64 (x4 + 1)) : Int).toNat x0.size)).bind fun t201 => ((wicketmanref08_Token.f k (x0.extract 0 (x4 : Int).toNat)).bind fun t203 => (if t203 = true then ((wicketmanref08_Value.f k t201).bind fun t204 => (if t204 = true then (some (x0.extract 0 (x4 : Int).toNat, t201, 0)) else (some ((⟨#[]⟩ : ByteArray), (⟨#[]⟩ : ByteArray), 12)))) else (some ((⟨#[]⟩ : ByteArray), (⟨#[]⟩ : ByteArray), 12))))) else (none)) else (none)) else (none)) else (none))
def wicketmanref08_Field.l0 : Nat → ByteArray → Int → Option (ByteArray × ByteArray × Int)
 | 0, _, _ => none
 | k + 1, x0, x4 => if x4 < (x0.size : Int) then (if 0 ≤ x4 then (if (bt x0 x4) = 58 then (wicketmanref08_Field.j1 k x0 x4) else (wicketmanref08_Field.l0 k x0 (wrap64 (x4 + 1)))) else (none)) else (wicketmanref08_Field.j1 k x0 x4)
end
def wicketmanref08_Field.f (k : Nat) (a0 : ByteArray) : Option (ByteArray × ByteArray × Int) := if (a0.size : Int) > 2000 then (some ((⟨#[]⟩ : ByteArray), (⟨#[]⟩ : ByteArray), 3)) else (wicketmanref08_Field.l0 k a0 0)
theorem wicketmanref08_Field.mono_l : ∀ k, (∀ y0 y1, LeO (wicketmanref08_Field.j1 k y0 y1) (wicketmanref08_Field.j1 (k + 1) y0 y1)) ∧ (∀ y0 y1, LeO (wicketmanref08_Field.l0 k y0 y1) (wicketmanref08_Field.l0 (k + 1) y0 y1))
 | 0 => ⟨fun _ _ r h => by simp [wicketmanref08_Field.j1] at h, fun _ _ r h => by simp [wicketmanref08_Field.l0] at h⟩
 | k + 1 => by
  obtain ⟨ih0, ih1⟩ := wicketmanref08_Field.mono_l k
  refine ⟨?_, ?_⟩
  ·intro y0 y1
   unfold wicketmanref08_Field.j1
   repeat' first
   | (with_reducible exact ih0 _ _)
   | (with_reducible exact ih1 _ _)
   | (with_reducible exact wicketmanref08_Token.mono _ _)
   | (with_reducible exact wicketmanref08_Value.mono _ _)
   | (with_reducible exact wicketmanref08_trim.mono _ _)
   | (with_reducible exact LeO.refl _)
   | (with_reducible exact LeO.none _)
   | (with_reducible refine LeO.ite ?_ ?_)
   | (with_reducible refine LeO.bind ?_ (fun _ => ?_))
   | exact ih0 _ _
   | exact ih1 _ _
   | exact wicketmanref08_Token.mono _ _
   | exact wicketmanref08_Value.mono _ _
   | exact wicketmanref08_trim.mono _ _
   | exact LeO.none _
   | refine LeO.ite ?_ ?_
   | refine LeO.bind ?_ (fun _ => ?_)
  ·intro y0 y1
   unfold wicketmanref08_Field.l0
   repeat' first
   | (with_reducible exact ih0 _ _)
   | (with_reducible exact ih1 _ _)
   | (with_reducible exact wicketmanref08_Token.mono _ _)
   | (with_reducible exact wicketmanref08_Value.mono _ _)
   | (with_reducible exact wicketmanref08_trim.mono _ _)
   | (with_reducible exact LeO.refl _)
   | (with_reducible exact LeO.none _)
   | (with_reducible refine LeO.ite ?_ ?_)
   | (with_reducible refine LeO.bind ?_ (fun _ => ?_))
   | exact ih0 _ _
   | exact ih1 _ _
   | exact wicketmanref08_Token.mono _ _
   | exact wicketmanref08_Value.mono _ _
   | exact wicketmanref08_trim.mono _ _
   | exact LeO.none _
   | refine LeO.ite ?_ ?_
   | refine LeO.bind ?_ (fun _ => ?_)
theorem wicketmanref08_Field.mono : ∀ a0 k, LeO (wicketmanref08_Field.f k a0) (wicketmanref08_Field.f (k + 1) a0) := by
 intro a0 k
 obtain ⟨ih0, ih1⟩ := wicketmanref08_Field.mono_l k
 unfold wicketmanref08_Field.f
 repeat' first
   | (with_reducible exact ih0 _ _)
   | (with_reducible exact ih1 _ _)
   | (with_reducible exact wicketmanref08_Token.mono _ _)
   | (with_reducible exact wicketmanref08_Value.mono _ _)
   | (with_reducible exact wicketmanref08_trim.mono _ _)
   | (with_reducible exact LeO.refl _)
   | (with_reducible exact LeO.none _)
   | (with_reducible refine LeO.ite ?_ ?_)
   | (with_reducible refine LeO.bind ?_ (fun _ => ?_))
   | exact ih0 _ _
   | exact ih1 _ _
   | exact wicketmanref08_Token.mono _ _
   | exact wicketmanref08_Value.mono _ _
   | exact wicketmanref08_trim.mono _ _
   | exact LeO.none _
   | refine LeO.ite ?_ ?_
   | refine LeO.bind ?_ (fun _ => ?_)
end Go.Proofs.YtpfbemcoblganaaDoor.Pall
