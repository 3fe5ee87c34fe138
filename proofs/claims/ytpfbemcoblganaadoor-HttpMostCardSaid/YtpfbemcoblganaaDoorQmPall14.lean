import Derived.Test.YtpfbemcoblganaaDoorQmPall0
namespace Go.Proofs.YtpfbemcoblganaaDoor.Pall
open Go.RowKit Go.Proofs.YtpfbemcoblganaaDoorW.PrintWords Go.Proofs.YtpfbemcoblganaaDoorW.PrintLast
set_option linter.unusedVariables false
set_option linter.unusedSimpArgs false
def wicketmanlaw08_Line.l0 : Nat → List Int → List ByteArray → ByteArray → Int → Option (ByteArray)
 | 0, _, _, _, _ => none
 | k + 1, x0, x3, x4, x5 => if x5 < (x0.length : Int) then (if x5 < 30 then (if 0 ≤ x5 then (if (x3.length : Int) = 0 then (none) else (if 0 ≤ (Int.tmod (wrap64 (rd x0 x5)) (x3.length : Int)) then (if (Int.tmod (wrap64 (rd x0 x5)) (x3.length : Int)) < (x3.length : Int) then (if x4.size + (rdOf ByteArray.empty x3 (Int.tmod (wrap64 (rd x0 x5)) (x3.length : Int))).size ≤ 9223372036854775807 then (wicketmanlaw08_Line.l0 k x0 x3 (x4 ++ (rdOf ByteArray.empty x3 (Int.tmod (wrap64 (rd x0 x5)) (x3.length : Int)))) (wrap64 (x5 + 1))) else (none)) else (none)) else (none))) else (none)) else (some x4)) else (some x4)
def wicketmanlaw08_Line.f (k : Nat) (l0 : List Int) : Option (ByteArray) := wicketmanlaw08_Line.l0 k l0 (([(⟨#[72, 111, 115, 116]⟩ : ByteArray), (⟨#[67, 111, 111, 107, 105, 101]⟩ : ByteArray), (⟨#[58]⟩ : ByteArray), (⟨#[58, 32]⟩ : ByteArray), (⟨#[32]⟩ : ByteArray), (⟨#[9]⟩ : ByteArray), (⟨#[97]⟩ : ByteArray), (⟨#[67, 111, 110, 116, 101, 110, 116, 45, 76, 101, 110, 103, 116, 104]⟩ : ByteArray), (⟨#[53]⟩ : ByteArray), (⟨#[95, 95, 72, 111, 115, 116, 45, 105, 100, 61]⟩ : ByteArray), (⟨#[59, 32]⟩ : ByteArray), (⟨#[0]⟩ : ByteArray), (⟨#[127]⟩ : ByteArray), (⟨#[233]⟩ : ByteArray), (⟨#[40]⟩ : ByteArray), (⟨#[120, 61, 49]⟩ : ByteArray), (⟨#[34]⟩ : ByteArray), (⟨#[44]⟩ : ByteArray)] : List ByteArray)) (⟨#[]⟩ : ByteArray) 0
theorem wicketmanlaw08_Line.mono_l : ∀ k, (∀ y0 y1 y2 y3, LeO (wicketmanlaw08_Line.l0 k y0 y1 y2 y3) (wicketmanlaw08_Line.l0 (k + 1) y0 y1 y2 y3))
 | 0 => fun _ _ _ _ r h => by simp [wicketmanlaw08_Line.l0] at h
 | k + 1 => by
  have ih0 := wicketmanlaw08_Line.mono_l k
  ·intro y0 y1 y2 y3
   unfold wicketmanlaw08_Line.l0
   repeat' first
   | (with_reducible exact ih0 _ _ _ _)
   | (with_reducible exact LeO.refl _)
   | (with_reducible exact LeO.none _)
   | (with_reducible refine LeO.ite ?_ ?_)
   | (with_reducible refine LeO.bind ?_ (fun _ => ?_))
   | exact ih0 _ _ _ _
   | exact LeO.none _
   | refine LeO.ite ?_ ?_
   | refine LeO.bind ?_ (fun _ => ?_)
theorem wicketmanlaw08_Line.mono : ∀ a0 k, LeO (wicketmanlaw08_Line.f k a0) (wicketmanlaw08_Line.f (k + 1) a0) := by
 intro a0 k
 have ih0 := wicketmanlaw08_Line.mono_l k
 unfold wicketmanlaw08_Line.f
 repeat' first
   | (with_reducible exact ih0 _ _ _ _)
   | (with_reducible exact LeO.refl _)
   | (with_reducible exact LeO.none _)
   | (with_reducible refine LeO.ite ?_ ?_)
   | (with_reducible refine LeO.bind ?_ (fun _ => ?_))
   | exact ih0 _ _ _ _
   | exact LeO.none _
   | refine LeO.ite ?_ ?_
   | refine LeO.bind ?_ (fun _ => ?_)
end Go.Proofs.YtpfbemcoblganaaDoor.Pall
