import Derived.Test.YtpfbemcoblganaaDoorQmPall0
namespace Go.Proofs.YtpfbemcoblganaaDoor.Pall
open Go.RowKit Go.Proofs.YtpfbemcoblganaaDoorW.PrintWords Go.Proofs.YtpfbemcoblganaaDoorW.PrintLast
set_option linter.unusedVariables false
set_option linter.unusedSimpArgs false
mutual
def wicketmanlaw09_Raw.j0 : Nat → List Int → Int → List ByteArray → ByteArray → Option (List Int)
 | 0, _, _, _, _ => none
 | k + 1, x0, x1, x6, x7 => wicketmanlaw09_Raw.l0 k x0 x1 x6 x7 0
def wicketmanlaw09_Raw.l0 : Nat → List Int → Int → List ByteArray → ByteArray → Int → Option (List Int)
 | 0, _, _, _, _, _ => none
 | k + 1, x0, x1, x6, x7, x8 => if x8 < (x0.length : Int) then (if x8 < 8 then (if 0 ≤ x8 then (if (x6.length : Int) = 0 then (none) else (if 0 ≤ (Int.tmod (wrap64 (rd x0 x8)) (x6.length : Int)) then (if (Int.tmod (wrap64 (rd x0 x8)) (x6.length : Int)) < (x6.length : Int) then (if x7.size + (rdOf ByteArray.empty x6 (Int.tmod (wrap64 (rd x0 x8)) (x6.length : Int))).size ≤ 9223372036854775807 then (if (x7 ++ (rdOf ByteArray.empty x6 (Int.tmod (wrap64 (rd x0 x8)) (x6.length : Int)))).size + 2 ≤ 9223372036854775807 then (wicketmanlaw09_Raw.l0 k x0 x1 x6 ((x7 ++ (rdOf ByteArray.empty x6 (Int.tmod (wrap64 (rd x0 x8)) (x6.length : Int)))) ++ (⟨#[13, 10]⟩ : ByteArray)) (wrap64 (x8 + 1))) else (none)) else (none)) else (none)) else (none))) else (none)) else (if x7.size + 2 ≤ 9223372036854775807 then (if (((Int.tdiv x1 8) % 256) % 4) > 0 then (if 0 ≤ (((Int.tdiv x1 8) % 256) % 4) then (if (((Int.tdiv x1 8) % 256) % 4) ≤ 3 then (if (x7 ++ (⟨#[13, 10]⟩ : ByteArray)).size + ((⟨#[97, 98, 99]⟩ : ByteArray).extract 0 ((((Int.tdiv x1 8) % 256) % 4) : Int).toNat).size ≤ 9223372036854775807 then (if ((x7 ++ (⟨#[13, 10]⟩ : ByteArray)) ++ ((⟨#[97, 98, 99]⟩ : ByteArray).extract 0 ((((Int.tdiv x1 8) % 256) % 4) : Int).toNat)).size ≤ 140737488351232 then (some (btsOf ((x7 ++ (⟨#[13, 10]⟩ : ByteArray)) ++ ((⟨#[97, 98, 99]⟩ : ByteArray).extract 0 ((((Int.tdiv x1 8) % 256) % 4) : Int).toNat)))) else (none)) else (none)) else (none)) else (none)) else (if (x7 ++ (⟨#[13, 10]⟩ : ByteArray)).size ≤ 140737488351232 then (some (btsOf (x7 ++ (⟨#[13, 10]⟩ : ByteArray)))) else (none))) else (none))) else (if x7.size + 2 ≤ 9223372036854775807 then (if (((Int.tdiv x1 8) % 256) % 4) > 0 then (if 0 ≤ (((Int.tdiv x1 8) % 256) % 4) then (if (((Int.tdiv x1 8) % 256) % 4) ≤ 3 then (if (x7 ++ (⟨#[13, 10]⟩ : ByteArray)).size + ((⟨#[97, 98, 99]⟩ : ByteArray).extract 0 ((((Int.tdiv x1 8) % 256) % 4) : Int).toNat).size ≤ 9223372036854775807 then (if ((x7 ++ (⟨#[13, 10]⟩ : ByteArray)) ++ ((⟨#[97, 98, 99]⟩ : ByteArray).extract 0 ((((Int.tdiv x1 8) % 256) % 4) : Int).toNat)).size ≤ 140737488351232 then (some (btsOf ((x7 ++ (⟨#[13, 10]⟩ : ByteArray)) ++ ((⟨#[97, 98, 99]⟩ : ByteArray).extract 0 ((((Int.tdiv x1 8) % 256) % 4) : Int).toNat)))) else (none)) else (none)) else (none)) else (none)) else (if (x7 ++ (⟨#[13, 10]⟩ : ByteArray)).size ≤ 140737488351232 then (some (btsOf (x7 ++ (⟨#[13, 10]⟩ : ByteArray)))) else (none))) else (none))
end
def wicketmanlaw09_Raw.f (k : Nat) (l0 : List Int) (a1 : Int) : Option (List Int) := (some (([(⟨#[71, 69, 84, 32, 47, 32, 72, 84, 84, 80, 47, 49, 46, 49]⟩ : ByteArray), (⟨#[80, 79, 83, 84, 32, 47, 108, 111, 103, 105, 110, 32, 72, 84, 84, 80, 47, 49, 46, 49]⟩ : ByteArray), (⟨#[71, 69, 84, 32, 32, 47, 32, 72, 84, 84, 80, 47, 49, 46, 49]⟩ : ByteArray), (⟨#[71, 69, 84, 32, 47, 97, 32, 72, 84, 84, 80, 47, 49, 46, 48]⟩ : ByteArray), (⟨#[71, 32, 84, 32, 47, 32, 72, 84, 84, 80, 47, 49, 46, 49]⟩ : ByteArray), (⟨#[71, 69, 84, 32, 120, 32, 72, 84, 84, 80, 47, 49, 46, 49]⟩ : ByteArray), (⟨#[80, 85, 84, 32, 47, 128, 32, 72, 84, 84, 80, 47, 49, 46, 49]⟩ : ByteArray), (⟨#[]⟩ : ByteArray)] : List ByteArray) : List ByteArray)).bind fun y144 => ((some (([(⟨#[72, 111, 115, 116, 58, 32, 97]⟩ : ByteArray), (⟨#[72, 111, 115, 116, 58, 98]⟩ : ByteArray), (⟨#[67, 111, 110, 116, 101, 110, 116, 45, 76, 101, 110, 103, 116, 104, 58, 32, 51]⟩ : ByteArray), (⟨#[67, 111, 110, 116, 101, 110, 116, 45, 76, 101, 110, 103, 116, 104, 58, 32, 48]⟩ : ByteArray), (⟨#[67, 111, 110, 116, 101, 110, 116, 45, 76, 101, 110, 103, 116, 104, 58, 32, 43, 51]⟩ : ByteArray), (⟨#[67, 111, 110, 116, 101, 110, 116, 45, 76, 101, 110, 103, 116, 104, 58, 32, 52, 48, 48, 49]⟩ : ByteArray), (⟨#[84, 114, 97, 110, 115, 102, 101, 114, 45, 69, 110, 99, 111, 100, 105, 110, 103, 58, 32, 99, 104, 117, 110, 107, 101, 100]⟩ : ByteArray), (⟨#[67, 111, 111, 107, 105, 101, 58, 32, 97, 61, 49]⟩ : ByteArray), (⟨#[32, 120, 58, 32, 49]⟩ : ByteArray), (⟨#[88, 32, 58, 32, 49]⟩ : ByteArray), (⟨#[88, 58]⟩ : ByteArray), (⟨#[99, 111, 110, 116, 101, 110, 116, 45, 108, 101, 110, 103, 116, 104, 58, 32, 48, 51]⟩ : ByteArray)] : List ByteArray) : List ByteArray)).bind fun y147 => (if 0 ≤ (Int.tmod a1 8) then (if (Int.tmod a1 8) < (y144.length : Int) then (if (rdOf ByteArray.empty y144 (Int.tmod a1 8)).size + 2 ≤ 9223372036854775807 then (if a1 ≥ 128 then (if 0 ≤ (Int.tmod a1 2) then (if (Int.tmod a1 2) < (y144.length : Int) then (if (rdOf ByteArray.empty y144 (Int.tmod a1 2)).size + 2 ≤ 9223372036854775807 then (if ((rdOf ByteArray.empty y144 (Int.tmod a1 2)) ++ (⟨#[13, 10]⟩ : ByteArray)).size + 9 ≤ 9223372036854775807 then (wicketmanlaw09_Raw.j0 k l0 a1 y147 (((rdOf ByteArray.empty y144 (Int.tmod a1 2)) ++ (⟨#[13, 10]⟩ : ByteArray)) ++ (⟨#[72, 111, 115, 116, 58, 32, 97, 13, 10]⟩ : ByteArray))) else (none)) else (none)) else (none)) else (none)) else (wicketmanlaw09_Raw.j0 k l0 a1 y147 ((rdOf ByteArray.empty y144 (Int.tmod a1 8)) ++ (⟨#[13, 10]⟩ : ByteArray)))) else (none)) else (none)) else (none)))
theorem wicketmanlaw09_Raw.mono_l : ∀ k, (∀ y0 y1 y2 y3, LeO (wicketmanlaw09_Raw.j0 k y0 y1 y2 y3) (wicketmanlaw09_Raw.j0 (k + 1) y0 y1 y2 y3)) ∧ (∀ y0 y1 y2 y3 y4, LeO (wicketmanlaw09_Raw.l0 k y0 y1 y2 y3 y4) (wicketmanlaw09_Raw.l0 (k + 1) y0 y1 y2 y3 y4))
 | 0 => ⟨fun _ _ _ _ r h => by simp [wicketmanlaw09_Raw.j0] at h, fun _ _ _ _ _ r h => by simp [wicketmanlaw09_Raw.l0] at h⟩
 | k + 1 => by
  obtain ⟨ih0, ih1⟩ := wicketmanlaw09_Raw.mono_l k
  refine ⟨?_, ?_⟩
  ·intro y0 y1 y2 y3
   unfold wicketmanlaw09_Raw.j0
   repeat' first
   | (with_reducible exact ih0 _ _ _ _)
   | (with_reducible exact ih1 _ _ _ _ _)
   | (with_reducible exact LeO.refl _)
   | (with_reducible exact LeO.none _)
   | (with_reducible refine LeO.ite ?_ ?_)
   | (with_reducible refine LeO.bind ?_ (fun _ => ?_))
   | exact ih0 _ _ _ _
   | exact ih1 _ _ _ _ _
   | exact LeO.none _
   | refine LeO.ite ?_ ?_
   | refine LeO.bind ?_ (fun _ => ?_)
  ·intro y0 y1 y2 y3 y4
   unfold wicketmanlaw09_Raw.l0
   repeat' first
   | (with_reducible exact ih0 _ _ _ _)
   | (with_reducible exact ih1 _ _ _ _ _)
   | (with_reducible exact LeO.refl _)
   | (with_reducible exact LeO.none _)
   | (with_reducible refine LeO.ite ?_ ?_)
   | (with_reducible refine LeO.bind ?_ (fun _ => ?_))
   | exact ih0 _ _ _ _
   | exact ih1 _ _ _ _ _
   | exact LeO.none _
   | refine LeO.ite ?_ ?_
   | refine LeO.bind ?_ (fun _ => ?_)
theorem wicketmanlaw09_Raw.mono : ∀ a0 a1 k, LeO (wicketmanlaw09_Raw.f k a0 a1) (wicketmanlaw09_Raw.f (k + 1) a0 a1) := by
 intro a0 a1 k
 obtain ⟨ih0, ih1⟩ := wicketmanlaw09_Raw.mono_l k
 unfold wicketmanlaw09_Raw.f
 repeat' first
   | (with_reducible exact ih0 _ _ _ _)
   | (with_reducible exact ih1 _ _ _ _ _)
   | (with_reducible exact LeO.refl _)
   | (with_reducible exact LeO.none _)
   | (with_reducible refine LeO.ite ?_ ?_)
   | (with_reducible refine LeO.bind ?_ (fun _ => ?_))
   | exact ih0 _ _ _ _
   | exact ih1 _ _ _ _ _
   | exact LeO.none _
   | refine LeO.ite ?_ ?_
   | refine LeO.bind ?_ (fun _ => ?_)
def wicketmanref07_Same.l0 : Nat → List (S43) → List (S43) → Int → Option (Bool)
 | 0, _, _, _ => none
 | k + 1, x0, x1, x5 => if x5 < (x0.length : Int) then (if 0 ≤ x5 then (if x5 < (x1.length : Int) then (if (!((((rd_T43 x0 x5).f0).toList) == (((rd_T43 x1 x5).f0).toList)) || (!((((rd_T43 x0 x5).f1).toList) == (((rd_T43 x1 x5).f1).toList)))) = true then (some false) else (wicketmanref07_Same.l0 k x0 x1 (wrap64 (x5 + 1)))) else (none)) else (none)) else (some true)
def wicketmanref07_Same.f (k : Nat) (l0 : List (S43)) (l1 : List (S43)) : Option (Bool) := if (l0.length : Int) = (l1.length : Int) then (wicketmanref07_Same.l0 k l0 l1 0) else (some false)
theorem wicketmanref07_Same.mono_l : ∀ k, (∀ y0 y1 y2, LeO (wicketmanref07_Same.l0 k y0 y1 y2) (wicketmanref07_Same.l0 (k + 1) y0 y1 y2))
 | 0 => fun _ _ _ r h => by simp [wicketmanref07_Same.l0] at h
 | k + 1 => by
  have ih0 := wicketmanref07_Same.mono_l k
  ·intro y0 y1 y2
   unfold wicketmanref07_Same.l0
   repeat' first
   | (with_reducible exact ih0 _ _ _)
   | (with_reducible exact LeO.refl _)
   | (with_reducible exact LeO.none _)
   | (with_reducible refine LeO.ite ?_ ?_)
   | (with_reducible refine LeO.bind ?_ (fun _ => ?_))
   | exact ih0 _ _ _
   | exact LeO.none _
   | refine LeO.ite ?_ ?_
   | refine LeO.bind ?_ (fun _ => ?_)
theorem wicketmanref07_Same.mono : ∀ a0 a1 k, LeO (wicketmanref07_Same.f k a0 a1) (wicketmanref07_Same.f (k + 1) a0 a1) := by
 intro a0 a1 k
 have ih0 := wicketmanref07_Same.mono_l k
 unfold wicketmanref07_Same.f
 repeat' first
   | (with_reducible exact ih0 _ _ _)
   | (with_reducible exact LeO.refl _)
   | (with_reducible exact LeO.none _)
   | (with_reducible refine LeO.ite ?_ ?_)
   | (with_reducible refine LeO.bind ?_ (fun _ => ?_))
   | exact ih0 _ _ _
   | exact LeO.none _
   | refine LeO.ite ?_ ?_
   | refine LeO.bind ?_ (fun _ => ?_)
def wicketmanref09_Same.f (k : Nat) (a0_0 : ByteArray) (a0_1 : ByteArray) (l0_2 : List (S43)) (l0_3 : List Int) (a1_0 : ByteArray) (a1_1 : ByteArray) (l1_2 : List (S43)) (l1_3 : List Int) : Option (Bool) := if a0_0.toList = a1_0.toList then (if a0_1.toList = a1_1.toList then ((wicketmanref07_Same.f k l0_2 l1_2).bind fun t170 => (if t170 = true then (some ((strOfNums l0_3).toList == (strOfNums l1_3).toList)) else (some false))) else (some false)) else (some false)
theorem wicketmanref09_Same.mono : ∀ a0 a1 a2 a3 a4 a5 a6 a7 k, LeO (wicketmanref09_Same.f k a0 a1 a2 a3 a4 a5 a6 a7) (wicketmanref09_Same.f (k + 1) a0 a1 a2 a3 a4 a5 a6 a7) := by
 intro a0 a1 a2 a3 a4 a5 a6 a7 k
 unfold wicketmanref09_Same.f
 repeat' first
   | (with_reducible exact wicketmanref07_Same.mono _ _ _)
   | (with_reducible exact LeO.refl _)
   | (with_reducible exact LeO.none _)
   | (with_reducible refine LeO.ite ?_ ?_)
   | (with_reducible refine LeO.bind ?_ (fun _ => ?_))
   | exact wicketmanref07_Same.mono _ _ _
   | exact LeO.none _
   | refine LeO.ite ?_ ?_
   | refine LeO.bind ?_ (fun _ => ?_)
end Go.Proofs.YtpfbemcoblganaaDoor.Pall
