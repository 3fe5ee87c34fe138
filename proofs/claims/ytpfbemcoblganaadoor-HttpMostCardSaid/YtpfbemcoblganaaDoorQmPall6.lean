import Derived.Test.YtpfbemcoblganaaDoorQmPall0
import Derived.Test.YtpfbemcoblganaaDoorQmPall5
namespace Go.Proofs.YtpfbemcoblganaaDoor.Pall
open Go.RowKit Go.Proofs.YtpfbemcoblganaaDoorW.PrintWords Go.Proofs.YtpfbemcoblganaaDoorW.PrintLast
set_option linter.unusedVariables false
set_option linter.unusedSimpArgs false
def wicketmanref09_path.l0 : Nat → ByteArray → Int → Option (Bool)
 | 0, _, _ => none
 | k + 1, x0, x3 => if x3 < (x0.size : Int) then (if 0 ≤ x3 then (if (bt x0 x3) < 33 then (some false) else (if (bt x0 x3) > 126 then (some false) else (wicketmanref09_path.l0 k x0 (wrap64 (x3 + 1))))) else (none)) else (if (x0.size : Int) > 0 then (if 0 < (x0.size : Int) then (some ((bt x0 0) == 47)) else (none)) else (some false))
def wicketmanref09_path.f (k : Nat) (a0 : ByteArray) : Option (Bool) := wicketmanref09_path.l0 k a0 0
theorem wicketmanref09_path.mono_l : ∀ k, (∀ y0 y1, LeO (wicketmanref09_path.l0 k y0 y1) (wicketmanref09_path.l0 (k + 1) y0 y1))
 | 0 => fun _ _ r h => by simp [wicketmanref09_path.l0] at h
 | k + 1 => by
  have ih0 := wicketmanref09_path.mono_l k
  ·intro y0 y1
   unfold wicketmanref09_path.l0
   repeat' first
   | (with_reducible exact ih0 _ _)
   | (with_reducible exact LeO.refl _)
   | (with_reducible exact LeO.none _)
   | (with_reducible refine LeO.ite ?_ ?_)
   | (with_reducible refine LeO.bind ?_ (fun _ => ?_))
   | exact ih0 _ _
   | exact LeO.none _
   | refine LeO.ite ?_ ?_
   | refine LeO.bind ?_ (fun _ => ?_)
theorem wicketmanref09_path.mono : ∀ a0 k, LeO (wicketmanref09_path.f k a0) (wicketmanref09_path.f (k + 1) a0) := by
 intro a0 k
 have ih0 := wicketmanref09_path.mono_l k
 unfold wicketmanref09_path.f
 repeat' first
   | (with_reducible exact ih0 _ _)
   | (with_reducible exact LeO.refl _)
   | (with_reducible exact LeO.none _)
   | (with_reducible refine LeO.ite ?_ ?_)
   | (with_reducible refine LeO.bind ?_ (fun _ => ?_))
   | exact ih0 _ _
   | exact LeO.none _
   | refine LeO.ite ?_ ?_
   | refine LeO.bind ?_ (fun _ => ?_)
def wicketmanref09_first.f (k : Nat) (a0 : ByteArray) : Option (ByteArray × ByteArray × (List (S43)) × List Int × Int) := if (a0.size : Int) > 2000 then (some ((⟨#[]⟩ : ByteArray), (⟨#[]⟩ : ByteArray), ([] : List (S43)), ([] : List Int), 3)) else ((wicketmanref07_Split.f k a0 32).bind fun t185 => (if (t185.length : Int) = 3 then (if 0 < (t185.length : Int) then ((wicketmanref08_Token.f k (rdOf ByteArray.empty t185 0)).bind fun t189 => (if t189 = true then (if 1 < (t185.length : Int) then ((wicketmanref09_path.f k (rdOf ByteArray.empty t185 1)).bind fun t191 => (if t191 = true then (if 2 < (t185.length : Int) then (if (rdOf ByteArray.empty t185 2).toList = ([72, 84, 84, 80, 47, 49, 46, 49] : List UInt8) then (some (rdOf ByteArray.empty t185 0, rdOf ByteArray.empty t185 1, ([] : List (S43)), ([] : List Int), 0)) else (some ((⟨#[]⟩ : ByteArray), (⟨#[]⟩ : ByteArray), ([] : List (S43)), ([] : List Int), 11))) else (none)) else (some ((⟨#[]⟩ : ByteArray), (⟨#[]⟩ : ByteArray), ([] : List (S43)), ([] : List Int), 11)))) else (none)) else (some ((⟨#[]⟩ : ByteArray), (⟨#[]⟩ : ByteArray), ([] : List (S43)), ([] : List Int), 11)))) else (none)) else (some ((⟨#[]⟩ : ByteArray), (⟨#[]⟩ : ByteArray), ([] : List (S43)), ([] : List Int), 11))))
theorem wicketmanref09_first.mono : ∀ a0 k, LeO (wicketmanref09_first.f k a0) (wicketmanref09_first.f (k + 1) a0) := by
 intro a0 k
 unfold wicketmanref09_first.f
 repeat' first
   | (with_reducible exact wicketmanref07_Split.mono _ _ _)
   | (with_reducible exact wicketmanref08_Token.mono _ _)
   | (with_reducible exact wicketmanref09_path.mono _ _)
   | (with_reducible exact LeO.refl _)
   | (with_reducible exact LeO.none _)
   | (with_reducible refine LeO.ite ?_ ?_)
   | (with_reducible refine LeO.bind ?_ (fun _ => ?_))
   | exact wicketmanref07_Split.mono _ _ _
   | exact wicketmanref08_Token.mono _ _
   | exact wicketmanref09_path.mono _ _
   | exact LeO.none _
   | refine LeO.ite ?_ ?_
   | refine LeO.bind ?_ (fun _ => ?_)
def wicketmanref08_blank.f (a0 : Int) : Option (Bool) := if a0 = 32 then (some true) else (some (a0 == 9))
def wicketmanref08_Value.l0 : Nat → ByteArray → Int → Option (Bool)
 | 0, _, _ => none
 | k + 1, x0, x3 => if x3 < (x0.size : Int) then (if 0 ≤ x3 then ((wicketmanref08_blank.f (bt x0 x3)).bind fun t195 => (if t195 = true then (wicketmanref08_Value.l0 k x0 (wrap64 (x3 + 1))) else (if (bt x0 x3) < 33 then (some false) else (if (bt x0 x3) = 127 then (some false) else (wicketmanref08_Value.l0 k x0 (wrap64 (x3 + 1))))))) else (none)) else (if (x0.size : Int) = 0 then (some true) else (if 0 < (x0.size : Int) then ((wicketmanref08_blank.f (bt x0 0)).bind fun t196 => (if t196 = true then (some false) else (if 0 ≤ (wrap64 ((x0.size : Int) - 1)) then (if (wrap64 ((x0.size : Int) - 1)) < (x0.size : Int) then ((wicketmanref08_blank.f (bt x0 (wrap64 ((x0.size : Int) - 1)))).bind fun t197 => (some (!t197))) else (none)) else (none)))) else (none)))
def wicketmanref08_Value.f (k : Nat) (a0 : ByteArray) : Option (Bool) := wicketmanref08_Value.l0 k a0 0
theorem wicketmanref08_Value.mono_l : ∀ k, (∀ y0 y1, LeO (wicketmanref08_Value.l0 k y0 y1) (wicketmanref08_Value.l0 (k + 1) y0 y1))
 | 0 => fun _ _ r h => by simp [wicketmanref08_Value.l0] at h
 | k + 1 => by
  have ih0 := wicketmanref08_Value.mono_l k
  ·intro y0 y1
   unfold wicketmanref08_Value.l0
   repeat' first
   | (with_reducible exact ih0 _ _)
   | (with_reducible exact LeO.refl _)
   | (with_reducible exact LeO.none _)
   | (with_reducible refine LeO.ite ?_ ?_)
   | (with_reducible refine LeO.bind ?_ (fun _ => ?_))
   | exact ih0 _ _
   | exact LeO.none _
   | refine LeO.ite ?_ ?_
   | refine LeO.bind ?_ (fun _ => ?_)
theorem wicketmanref08_Value.mono : ∀ a0 k, LeO (wicketmanref08_Value.f k a0) (wicketmanref08_Value.f (k + 1) a0) := by
 intro a0 k
 have ih0 := wicketmanref08_Value.mono_l k
 unfold wicketmanref08_Value.f
 repeat' first
   | (with_reducible exact ih0 _ _)
   | (with_reducible exact LeO.refl _)
   | (with_reducible exact LeO.none _)
   | (with_reducible refine LeO.ite ?_ ?_)
   | (with_reducible refine LeO.bind ?_ (fun _ => ?_))
   | exact ih0 _ _
   | exact LeO.none _
   | refine LeO.ite ?_ ?_
   | refine LeO.bind ?_ (fun _ => ?_)
mutual
def wicketmanref08_trim.j1 : Nat → ByteArray → Option (ByteArray)
 | 0, _ => none
 | k + 1, x0 => wicketmanref08_trim.l1 k x0
def wicketmanref08_trim.l1 : Nat → ByteArray → Option (ByteArray)
 | 0, _ => none
 | k + 1, x0 => if (x0.size : Int) > 0 then (if 0 ≤ (wrap64 ((x0.size : Int) - 1)) then (if (wrap64 ((x0.size : Int) - 1)) < (x0.size : Int) then ((wicketmanref08_blank.f (bt x0 (wrap64 ((x0.size : Int) - 1)))).bind fun t199 => (if t199 = true then (if (wrap64 ((x0.size : Int) - 1)) ≤ (x0.size : Int) then (wicketmanref08_trim.l1 k (x0.extract 0 ((wrap64 ((x0.size : Int) - 1)) : Int).toNat)) else (none)) else (some x0))) else (none)) else (none)) else (some x0)
def wicketmanref08_trim.l0 : Nat → ByteArray → Option (ByteArray)
 | 0, _ => none
 | k + 1, x0 => if (x0.size : Int) > 0 then (if 0 < (x0.size : Int) then ((wicketmanref08_blank.f (bt x0 0)).bind fun t198 => (if t198 = true then (if 1 ≤ (x0.size : Int) then (wicketmanref08_trim.l0 k (x0.extract 1 x0.size)) else (none)) else (wicketmanref08_trim.j1 k x0))) else (none)) else (wicketmanref08_trim.j1 k x0)
end
def wicketmanref08_trim.f (k : Nat) (a0 : ByteArray) : Option (ByteArray) := wicketmanref08_trim.l0 k a0
theorem wicketmanref08_trim.mono_l : ∀ k, (∀ y0, LeO (wicketmanref08_trim.j1 k y0) (wicketmanref08_trim.j1 (k + 1) y0)) ∧ (∀ y0, LeO (wicketmanref08_trim.l1 k y0) (wicketmanref08_trim.l1 (k + 1) y0)) ∧ (∀ y0, LeO (wicketmanref08_trim.l0 k y0) (wicketmanref08_trim.l0 (k + 1) y0))
 | 0 => ⟨fun _ r h => by simp [wicketmanref08_trim.j1] at h, fun _ r h => by simp [wicketmanref08_trim.l1] at h, fun _ r h => by simp [wicketmanref08_trim.l0] at h⟩
 | k + 1 => by
  obtain ⟨ih0, ih1, ih2⟩ := wicketmanref08_trim.mono_l k
  refine ⟨?_, ?_, ?_⟩
  ·intro y0
   unfold wicketmanref08_trim.j1
   repeat' first
   | (with_reducible exact ih0 _)
   | (with_reducible exact ih1 _)
   | (with_reducible exact ih2 _)
   | (with_reducible exact LeO.refl _)
   | (with_reducible exact LeO.none _)
   | (with_reducible refine LeO.ite ?_ ?_)
   | (with_reducible refine LeO.bind ?_ (fun _ => ?_))
   | exact ih0 _
   | exact ih1 _
   | exact ih2 _
   | exact LeO.none _
   | refine LeO.ite ?_ ?_
   | refine LeO.bind ?_ (fun _ => ?_)
  ·intro y0
   unfold wicketmanref08_trim.l1
   repeat' first
   | (with_reducible exact ih0 _)
   | (with_reducible exact ih1 _)
   | (with_reducible exact ih2 _)
   | (with_reducible exact LeO.refl _)
   | (with_reducible exact LeO.none _)
   | (with_reducible refine LeO.ite ?_ ?_)
   | (with_reducible refine LeO.bind ?_ (fun _ => ?_))
   | exact ih0 _
   | exact ih1 _
   | exact ih2 _
   | exact LeO.none _
   | refine LeO.ite ?_ ?_
   | refine LeO.bind ?_ (fun _ => ?_)
  ·intro y0
   unfold wicketmanref08_trim.l0
   repeat' first
   | (with_reducible exact ih0 _)
   | (with_reducible exact ih1 _)
   | (with_reducible exact ih2 _)
   | (with_reducible exact LeO.refl _)
   | (with_reducible exact LeO.none _)
   | (with_reducible refine LeO.ite ?_ ?_)
   | (with_reducible refine LeO.bind ?_ (fun _ => ?_))
   | exact ih0 _
   | exact ih1 _
   | exact ih2 _
   | exact LeO.none _
   | refine LeO.ite ?_ ?_
   | refine LeO.bind ?_ (fun _ => ?_)
theorem wicketmanref08_trim.mono : ∀ a0 k, LeO (wicketmanref08_trim.f k a0) (wicketmanref08_trim.f (k + 1) a0) := by
 intro a0 k
 obtain ⟨ih0, ih1, ih2⟩ := wicketmanref08_trim.mono_l k
 unfold wicketmanref08_trim.f
 repeat' first
   | (with_reducible exact ih0 _)
   | (with_reducible exact ih1 _)
   | (with_reducible exact ih2 _)
   | (with_reducible exact LeO.refl _)
   | (with_reducible exact LeO.none _)
   | (with_reducible refine LeO.ite ?_ ?_)
   | (with_reducible refine LeO.bind ?_ (fun _ => ?_))
   | exact ih0 _
   | exact ih1 _
   | exact ih2 _
   | exact LeO.none _
   | refine LeO.ite ?_ ?_
   | refine LeO.bind ?_ (fun _ => ?_)
end Go.Proofs.YtpfbemcoblganaaDoor.Pall
