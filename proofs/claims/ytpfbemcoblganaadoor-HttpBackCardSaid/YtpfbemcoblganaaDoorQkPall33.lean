/-




-/
import Derived.Test.YtpfbemcoblganaaDoorQkPall0
import Derived.Test.YtpfbemcoblganaaDoorQkPall5
import Derived.Test.YtpfbemcoblganaaDoorQkPall1
import Derived.Test.YtpfbemcoblganaaDoorQkPall8
import Derived.Test.YtpfbemcoblganaaDoorQkPall29
import Derived.Test.YtpfbemcoblganaaDoorQkHttpA
import Derived.Test.YtpfbemcoblganaaDoorQkPall28
import Derived.Test.YtpfbemcoblganaaDoorQkRp
import Derived.Test.YtpfbemcoblganaaDoorQkPall19
section
namespace Go.Proofs.YtpfbemcoblganaaDoor.Pall
open Go.RowKit Go.Proofs.YtpfbemcoblganaaDoorW.PrintWords Go.Proofs.YtpfbemcoblganaaDoorW.PrintLast
set_option linter.unusedVariables false
set_option linter.unusedSimpArgs false
mutual
def wicketmanref10_Parse.j0 : Nat → List Int → List ByteArray → Int → Bool → Option (Int × (List (S43)) × List Int × Int)
 | 0, _, _, _, _ => none
 | k + 1, x0, x4, x5, x34 => if x34 = true then (some (0, ([] : List (S43)), ([] : List Int), 10)) else (if 0 < (x4.length : Int) then (if 9 ≤ 12 then (if 12 ≤ ((rdOf ByteArray.empty x4 0).size : Int) then ((wicketmanref01_Decimal.f k ((rdOf ByteArray.empty x4 0).extract 9 12) 999).bind fun bt825 => (if 0 ≤ x5 then (if x5 ≤ (x0.length : Int) then (wicketmanref10_Parse.l0 k x0 x4 1 bt825.1 ([] : List (S43)) (x0.drop (x5 : Int).toNat)) else (none)) else (none))) else (none)) else (none)) else (none))
def wicketmanref10_Parse.l0 : Nat → List Int → List ByteArray → Int → Int → List (S43) → List Int → Option (Int × (List (S43)) × List Int × Int)
 | 0, _, _, _, _, _, _ => none
 | k + 1, x0, x4, x10, x833000, x833001, x833002 => if x10 < (wrap64 ((x4.length : Int) - 1)) then (if 0 ≤ x10 then (if x10 < (x4.length : Int) then ((wicketmanref08_Field.f k (rdOf ByteArray.empty x4 x10)).bind fun bt834 => (if bt834.2.2 = 0 then (if x833001.length < 4398046511104 then (wicketmanref10_Parse.l0 k x0 x4 (wrap64 (x10 + 1)) x833000 (x833001 ++ [(⟨bt834.1, bt834.2.1⟩ : S43)]) x833002) else (none)) else (some (0, ([] : List (S43)), ([] : List Int), 10)))) else (none)) else (none)) else ((wicketmanref10_Print.f k x833000 x833001 x833002).bind fun bt841 => (if bt841.2 = 0 then (if (strOfNums bt841.1).toList = (strOfNums x0).toList then (some (x833000, x833001, x833002, 0)) else (some (0, ([] : List (S43)), ([] : List Int), 10))) else (some (0, ([] : List (S43)), ([] : List Int), 10))))
end
def wicketmanref10_Parse.f (k : Nat) (l0 : List Int) : Option (Int × (List (S43)) × List Int × Int) := (wicketmanref09_Lines.f k l0).bind fun bt818 => (if bt818.2.2 = true then (if (bt818.1.length : Int) < 2 then (wicketmanref10_Parse.j0 k l0 bt818.1 bt818.2.1 true) else (if 0 < (bt818.1.length : Int) then (wicketmanref10_Parse.j0 k l0 bt818.1 bt818.2.1 (decide (((rdOf ByteArray.empty bt818.1 0).size : Int) < 12))) else (none))) else (wicketmanref10_Parse.j0 k l0 bt818.1 bt818.2.1 true))
theorem wicketmanref10_Parse.mono_l : ∀ k, (∀ y0 y1 y2 y3, LeO (wicketmanref10_Parse.j0 k y0 y1 y2 y3) (wicketmanref10_Parse.j0 (k + 1) y0 y1 y2 y3)) ∧ (∀ y0 y1 y2 y3 y4 y5, LeO (wicketmanref10_Parse.l0 k y0 y1 y2 y3 y4 y5) (wicketmanref10_Parse.l0 (k + 1) y0 y1 y2 y3 y4 y5))
 | 0 => ⟨fun _ _ _ _ r h => by simp [wicketmanref10_Parse.j0] at h, fun _ _ _ _ _ _ r h => by simp [wicketmanref10_Parse.l0] at h⟩
 | k + 1 => by
  obtain ⟨ih0, ih1⟩ := wicketmanref10_Parse.mono_l k
  refine ⟨?_, ?_⟩
  ·intro y0 y1 y2 y3
   unfold wicketmanref10_Parse.j0
   repeat' first
   | (with_reducible exact ih0 _ _ _ _)
   | (with_reducible exact ih1 _ _ _ _ _ _)
   | (with_reducible exact wicketmanref01_Decimal.mono _ _ _)
   | (with_reducible exact wicketmanref08_Field.mono _ _)
   | (with_reducible exact wicketmanref09_Lines.mono _ _)
   | (with_reducible exact wicketmanref10_Print.mono _ _ _ _)
   | (with_reducible exact LeO.refl _)
   | (with_reducible exact LeO.none _)
   | (with_reducible refine LeO.ite ?_ ?_)
   | (with_reducible refine LeO.bind ?_ (fun _ => ?_))
   | exact ih0 _ _ _ _
   | exact ih1 _ _ _ _ _ _
   | exact wicketmanref01_Decimal.mono _ _ _
   | exact wicketmanref08_Field.mono _ _
   | exact wicketmanref09_Lines.mono _ _
   | exact wicketmanref10_Print.mono _ _ _ _
   | exact LeO.none _
   | refine LeO.ite ?_ ?_
   | refine LeO.bind ?_ (fun _ => ?_)
  ·intro y0 y1 y2 y3 y4 y5
   unfold wicketmanref10_Parse.l0
   repeat' first
   | (with_reducible exact ih0 _ _ _ _)
   | (with_reducible exact ih1 _ _ _ _ _ _)
   | (with_reducible exact wicketmanref01_Decimal.mono _ _ _)
   | (with_reducible exact wicketmanref08_Field.mono _ _)
   | (with_reducible exact wicketmanref09_Lines.mono _ _)
   | (with_reducible exact wicketmanref10_Print.mono _ _ _ _)
   | (with_reducible exact LeO.refl _)
   | (with_reducible exact LeO.none _)
   | (with_reducible refine LeO.ite ?_ ?_)
   | (with_reducible refine LeO.bind ?_ (fun _ => ?_))
   | exact ih0 _ _ _ _
   | exact ih1 _ _ _ _ _ _
   | exact wicketmanref01_Decimal.mono _ _ _
   | exact wicketmanref08_Field.mono _ _
   | exact wicketmanref09_Lines.mono _ _
   | exact wicketmanref10_Print.mono _ _ _ _
   | exact LeO.none _
   | refine LeO.ite ?_ ?_
   | refine LeO.bind ?_ (fun _ => ?_)
theorem wicketmanref10_Parse.mono : ∀ a0 k, LeO (wicketmanref10_Parse.f k a0) (wicketmanref10_Parse.f (k + 1) a0) := by
 intro a0 k
 obtain ⟨ih0, ih1⟩ := wicketmanref10_Parse.mono_l k
 unfold wicketmanref10_Parse.f
 repeat' first
   | (with_reducible exact ih0 _ _ _ _)
   | (with_reducible exact ih1 _ _ _ _ _ _)
   | (with_reducible exact wicketmanref01_Decimal.mono _ _ _)
   | (with_reducible exact wicketmanref08_Field.mono _ _)
   | (with_reducible exact wicketmanref09_Lines.mono _ _)
   | (with_reducible exact wicketmanref10_Print.mono _ _ _ _)
   | (with_reducible exact LeO.refl _)
   | (with_reducible exact LeO.none _)
   | (with_reducible refine LeO.ite ?_ ?_)
   | (with_reducible refine LeO.bind ?_ (fun _ => ?_))
   | exact ih0 _ _ _ _
   | exact ih1 _ _ _ _ _ _
   | exact wicketmanref01_Decimal.mono _ _ _
   | exact wicketmanref08_Field.mono _ _
   | exact wicketmanref09_Lines.mono _ _
   | exact wicketmanref10_Print.mono _ _ _ _
   | exact LeO.none _
   | refine LeO.ite ?_ ?_
   | refine LeO.bind ?_ (fun _ => ?_)
end Go.Proofs.YtpfbemcoblganaaDoor.Pall
end
section
namespace Go.Proofs.YtpfbemcoblganaaDoor.Pall
open Go.RowKit Go.Proofs.YtpfbemcoblganaaDoorW.PrintWords Go.Proofs.YtpfbemcoblganaaDoorW.PrintLast
set_option linter.unusedVariables false
set_option linter.unusedSimpArgs false
def wicketmanlaw10_parses.f (k : Nat) (l0 : List Int) : Option (Bool) := (resp_Parse.f l0).bind fun bt845 => ((wicketmanref10_Parse.f k l0).bind fun bt854 => ((wicketmanref10_Same.f k bt845.1 bt845.2.1 bt845.2.2.1 bt854.1 bt854.2.1 bt854.2.2.1).bind fun t863 => (if t863 = true then (some ((wrap64 (bt845.2.2.2)) == bt854.2.2.2)) else (some false))))
theorem wicketmanlaw10_parses.mono : ∀ a0 k, LeO (wicketmanlaw10_parses.f k a0) (wicketmanlaw10_parses.f (k + 1) a0) := by
 intro a0 k
 unfold wicketmanlaw10_parses.f
 repeat' first
   | (with_reducible exact wicketmanref10_Parse.mono _ _)
   | (with_reducible exact wicketmanref10_Same.mono _ _ _ _ _ _ _)
   | (with_reducible exact LeO.refl _)
   | (with_reducible exact LeO.none _)
   | (with_reducible refine LeO.ite ?_ ?_)
   | (with_reducible refine LeO.bind ?_ (fun _ => ?_))
   | exact wicketmanref10_Parse.mono _ _
   | exact wicketmanref10_Same.mono _ _ _ _ _ _ _
   | exact LeO.none _
   | refine LeO.ite ?_ ?_
   | refine LeO.bind ?_ (fun _ => ?_)
end Go.Proofs.YtpfbemcoblganaaDoor.Pall
end
section
namespace Go.Proofs.YtpfbemcoblganaaDoor.Pall
open Go.RowKit Go.Proofs.YtpfbemcoblganaaDoorW.PrintWords Go.Proofs.YtpfbemcoblganaaDoorW.PrintLast
set_option linter.unusedVariables false
set_option linter.unusedSimpArgs false
def wicketmanlaw10_prints.f (k : Nat) (a0_0 : Int) (l0_1 : List (S43)) (l0_2 : List Int) : Option (Bool) := (resp_Print.f a0_0 l0_1 l0_2).bind fun bt809 => ((wicketmanref10_Print.f k a0_0 l0_1 l0_2).bind fun bt813 => (if (strOfNums bt809.1).toList = (strOfNums bt813.1).toList then (some ((wrap64 (bt809.2)) == bt813.2)) else (some false)))
theorem wicketmanlaw10_prints.mono : ∀ a0 a1 a2 k, LeO (wicketmanlaw10_prints.f k a0 a1 a2) (wicketmanlaw10_prints.f (k + 1) a0 a1 a2) := by
 intro a0 a1 a2 k
 unfold wicketmanlaw10_prints.f
 repeat' first
   | (with_reducible exact wicketmanref10_Print.mono _ _ _ _)
   | (with_reducible exact LeO.refl _)
   | (with_reducible exact LeO.none _)
   | (with_reducible refine LeO.ite ?_ ?_)
   | (with_reducible refine LeO.bind ?_ (fun _ => ?_))
   | exact wicketmanref10_Print.mono _ _ _ _
   | exact LeO.none _
   | refine LeO.ite ?_ ?_
   | refine LeO.bind ?_ (fun _ => ?_)
end Go.Proofs.YtpfbemcoblganaaDoor.Pall
end
section
namespace Go.Proofs.YtpfbemcoblganaaDoor.Pall
open Go.RowKit Go.Proofs.YtpfbemcoblganaaDoorW.PrintWords Go.Proofs.YtpfbemcoblganaaDoorW.PrintLast
set_option linter.unusedVariables false
set_option linter.unusedSimpArgs false
def resp_Same.f (k : Nat) (a0_0 : Int) (l0_1 : List (S43)) (l0_2 : List Int) (a1_0 : Int) (l1_1 : List (S43)) (l1_2 : List Int) : Option (Bool) := if a0_0 = a1_0 then ((api_Pair.f k l0_1 l1_1).bind fun t866 => (if t866 = true then ((bytes_Equal.f l0_2 l1_2).bind fun t867 => (some t867)) else (some false))) else (some false)
theorem resp_Same.mono : ∀ a0 a1 a2 a3 a4 a5 k, LeO (resp_Same.f k a0 a1 a2 a3 a4 a5) (resp_Same.f (k + 1) a0 a1 a2 a3 a4 a5) := by
 intro a0 a1 a2 a3 a4 a5 k
 unfold resp_Same.f
 repeat' first
   | (with_reducible exact api_Pair.mono _ _ _)
   | (with_reducible exact LeO.refl _)
   | (with_reducible exact LeO.none _)
   | (with_reducible refine LeO.ite ?_ ?_)
   | (with_reducible refine LeO.bind ?_ (fun _ => ?_))
   | exact api_Pair.mono _ _ _
   | exact LeO.none _
   | refine LeO.ite ?_ ?_
   | refine LeO.bind ?_ (fun _ => ?_)
end Go.Proofs.YtpfbemcoblganaaDoor.Pall
end
