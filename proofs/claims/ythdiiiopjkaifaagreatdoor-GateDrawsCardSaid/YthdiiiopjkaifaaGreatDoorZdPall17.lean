/-
-/
import Derived.Test.YthdiiiopjkaifaaGreatDoorZdPall0
import Derived.Test.YthdiiiopjkaifaaGreatDoorZdPall9
import Derived.Test.YthdiiiopjkaifaaGreatDoorZdPall14
import Derived.Test.YthdiiiopjkaifaaGreatDoorZdPall15
import Derived.Test.YthdiiiopjkaifaaGreatDoorZdPall10
section
namespace Go.Proofs.YthdiiiopjkaifaaGreatDoor.Pall
open Go.RowKit Go.Proofs.YthdiiiopjkaifaaGreatDoorW.PrintWords Go.Proofs.YthdiiiopjkaifaaGreatDoorW.PrintLast
set_option linter.unusedVariables false
set_option linter.unusedSimpArgs false
mutual
def wicketmanref19_Page.j0 : Nat → ByteArray → Int → Int → Int → Int → List Int → Int → ByteArray → Bool → ByteArray → ByteArray → ByteArray → Option (Int × (List (S76)) × List Int)
 | 0, _, _, _, _, _, _, _, _, _, _, _, _ => none
 | k + 1, x5, x284000, x284001, x284002, x284003, x284004, x285000, x285001, x285002, x285003, x285004, x285005 => if x285005.toList = ([] : List UInt8) then (wicketmanref19_Page.j1 k x5 x284000 x284001 x284002 x284003 x284004 x285000 x285001 x285002 x285003 x285004 x285005) else (if x5.size + 5 ≤ 9223372036854775807 then ((wicketmanref06_Escape.f k x285005).bind fun t286 => (if (x5 ++ (⟨#[110, 111, 116, 101, 32]⟩ : BA)).size + t286.size ≤ 9223372036854775807 then (if ((x5 ++ (⟨#[110, 111, 116, 101, 32]⟩ : BA)) ++ t286).size + 1 ≤ 9223372036854775807 then (wicketmanref19_Page.j1 k (((x5 ++ (⟨#[110, 111, 116, 101, 32]⟩ : BA)) ++ t286) ++ (⟨#[10]⟩ : BA)) x284000 x284001 x284002 x284003 x284004 x285000 x285001 x285002 x285003 x285004 x285005) else (none)) else (none))) else (none))
def wicketmanref19_Page.j1 : Nat → ByteArray → Int → Int → Int → Int → List Int → Int → ByteArray → Bool → ByteArray → ByteArray → ByteArray → Option (Int × (List (S76)) × List Int)
 | 0, _, _, _, _, _, _, _, _, _, _, _, _ => none
 | k + 1, x5, x284000, x284001, x284002, x284003, x284004, x285000, x285001, x285002, x285003, x285004, x285005 => if x285003.toList = ([] : List UInt8) then (wicketmanref19_Page.j2 k x5 x284000 x284001 x284002 x284003 x284004 x285000 x285001 x285002 x285003 x285004 x285005) else (if x5.size + 6 ≤ 9223372036854775807 then (if (x5 ++ (⟨#[116, 111, 107, 101, 110, 32]⟩ : BA)).size + x285003.size ≤ 9223372036854775807 then (if ((x5 ++ (⟨#[116, 111, 107, 101, 110, 32]⟩ : BA)) ++ x285003).size + 1 ≤ 9223372036854775807 then (wicketmanref19_Page.j2 k (((x5 ++ (⟨#[116, 111, 107, 101, 110, 32]⟩ : BA)) ++ x285003) ++ (⟨#[10]⟩ : BA)) x284000 x284001 x284002 x284003 x284004 x285000 x285001 x285002 x285003 x285004 x285005) else (none)) else (none)) else (none))
def wicketmanref19_Page.j2 : Nat → ByteArray → Int → Int → Int → Int → List Int → Int → ByteArray → Bool → ByteArray → ByteArray → ByteArray → Option (Int × (List (S76)) × List Int)
 | 0, _, _, _, _, _, _, _, _, _, _, _, _ => none
 | k + 1, x5, x284000, x284001, x284002, x284003, x284004, x285000, x285001, x285002, x285003, x285004, x285005 => if x5.toList = ([] : List UInt8) then ((wicketmanref10_Reason.f k x285000).bind fun t287 => (if t287.size + 1 ≤ 9223372036854775807 then (wicketmanref19_Page.j3 k (t287 ++ (⟨#[10]⟩ : BA)) x284000 x284001 x284002 x284003 x284004 x285000 x285001 x285002 x285003 x285004 x285005) else (none))) else (wicketmanref19_Page.j3 k x5 x284000 x284001 x284002 x284003 x284004 x285000 x285001 x285002 x285003 x285004 x285005)
def wicketmanref19_Page.j3 : Nat → ByteArray → Int → Int → Int → Int → List Int → Int → ByteArray → Bool → ByteArray → ByteArray → ByteArray → Option (Int × (List (S76)) × List Int)
 | 0, _, _, _, _, _, _, _, _, _, _, _, _ => none
 | k + 1, x5, x284000, x284001, x284002, x284003, x284004, x285000, x285001, x285002, x285003, x285004, x285005 => if x285001.toList = ([] : List UInt8) then (if x285002 = true then ((wicketmanref11_Set.f k (⟨#[95, 95, 72, 111, 115, 116, 45, 105, 100]⟩ : BA) (⟨#[]⟩ : BA) 0).bind fun bt288 => (if ([] : List (S76)).length < 4398046511104 then ((wicketmanref10_Page.f x285000 x5 (([] : List (S76)) ++ [(⟨(⟨#[83, 101, 116, 45, 67, 111, 111, 107, 105, 101]⟩ : BA), bt288.1⟩ : S76)])).bind fun bt293 => (some (bt293.1, bt293.2.1, bt293.2.2))) else (none))) else ((wicketmanref10_Page.f x285000 x5 ([] : List (S76))).bind fun bt300 => (some (bt300.1, bt300.2.1, bt300.2.2)))) else ((wicketmanref11_Set.f k (⟨#[95, 95, 72, 111, 115, 116, 45, 105, 100]⟩ : BA) x285001 (wrap64 (x284001))).bind fun bt307 => (if ([] : List (S76)).length < 4398046511104 then ((wicketmanref10_Page.f x285000 x5 (([] : List (S76)) ++ [(⟨(⟨#[83, 101, 116, 45, 67, 111, 111, 107, 105, 101]⟩ : BA), bt307.1⟩ : S76)])).bind fun bt312 => (some (bt312.1, bt312.2.1, bt312.2.2))) else (none)))
end
def wicketmanref19_Page.f (k : Nat) (a0_0 : Int) (a0_1 : Int) (a0_2 : Int) (a0_3 : Int) (l0_4 : List Int) (a1_0 : Int) (a1_1 : ByteArray) (a1_2 : Bool) (a1_3 : ByteArray) (a1_4 : ByteArray) (a1_5 : ByteArray) : Option (Int × (List (S76)) × List Int) := if a1_4.toList = ([] : List UInt8) then (wicketmanref19_Page.j0 k (⟨#[]⟩ : BA) a0_0 a0_1 a0_2 a0_3 l0_4 a1_0 a1_1 a1_2 a1_3 a1_4 a1_5) else (if 0 + 5 ≤ 9223372036854775807 then (if 5 + a1_4.size ≤ 9223372036854775807 then (if (((⟨#[]⟩ : BA) ++ (⟨#[117, 115, 101, 114, 32]⟩ : BA)) ++ a1_4).size + 1 ≤ 9223372036854775807 then (wicketmanref19_Page.j0 k ((((⟨#[]⟩ : BA) ++ (⟨#[117, 115, 101, 114, 32]⟩ : BA)) ++ a1_4) ++ (⟨#[10]⟩ : BA)) a0_0 a0_1 a0_2 a0_3 l0_4 a1_0 a1_1 a1_2 a1_3 a1_4 a1_5) else (none)) else (none)) else (none))
theorem wicketmanref19_Page.mono_l : ∀ k, (∀ y0 y1 y2 y3 y4 y5 y6 y7 y8 y9 y10 y11, LeO (wicketmanref19_Page.j0 k y0 y1 y2 y3 y4 y5 y6 y7 y8 y9 y10 y11) (wicketmanref19_Page.j0 (k + 1) y0 y1 y2 y3 y4 y5 y6 y7 y8 y9 y10 y11)) ∧ (∀ y0 y1 y2 y3 y4 y5 y6 y7 y8 y9 y10 y11, LeO (wicketmanref19_Page.j1 k y0 y1 y2 y3 y4 y5 y6 y7 y8 y9 y10 y11) (wicketmanref19_Page.j1 (k + 1) y0 y1 y2 y3 y4 y5 y6 y7 y8 y9 y10 y11)) ∧ (∀ y0 y1 y2 y3 y4 y5 y6 y7 y8 y9 y10 y11, LeO (wicketmanref19_Page.j2 k y0 y1 y2 y3 y4 y5 y6 y7 y8 y9 y10 y11) (wicketmanref19_Page.j2 (k + 1) y0 y1 y2 y3 y4 y5 y6 y7 y8 y9 y10 y11)) ∧ (∀ y0 y1 y2 y3 y4 y5 y6 y7 y8 y9 y10 y11, LeO (wicketmanref19_Page.j3 k y0 y1 y2 y3 y4 y5 y6 y7 y8 y9 y10 y11) (wicketmanref19_Page.j3 (k + 1) y0 y1 y2 y3 y4 y5 y6 y7 y8 y9 y10 y11))
 | 0 => ⟨fun _ _ _ _ _ _ _ _ _ _ _ _ r h => by simp [wicketmanref19_Page.j0] at h, fun _ _ _ _ _ _ _ _ _ _ _ _ r h => by simp [wicketmanref19_Page.j1] at h, fun _ _ _ _ _ _ _ _ _ _ _ _ r h => by simp [wicketmanref19_Page.j2] at h, fun _ _ _ _ _ _ _ _ _ _ _ _ r h => by simp [wicketmanref19_Page.j3] at h⟩
 | k + 1 => by
  obtain ⟨ih0, ih1, ih2, ih3⟩ := wicketmanref19_Page.mono_l k
  refine ⟨?_, ?_, ?_, ?_⟩
  ·intro y0 y1 y2 y3 y4 y5 y6 y7 y8 y9 y10 y11
   unfold wicketmanref19_Page.j0
   repeat' first|(with_reducible first|exact ih0 _ _ _ _ _ _ _ _ _ _ _ _|exact ih1 _ _ _ _ _ _ _ _ _ _ _ _|exact ih2 _ _ _ _ _ _ _ _ _ _ _ _|exact ih3 _ _ _ _ _ _ _ _ _ _ _ _|exact wicketmanref06_Escape.mono _ _|exact wicketmanref10_Reason.mono _ _|exact wicketmanref11_Set.mono _ _ _ _|exact LeO.refl _|exact LeO.none _|refine LeO.ite ?_ ?_|refine LeO.bind ?_ (fun _ => ?_))|exact LeO.none _|refine LeO.ite ?_ ?_|refine LeO.bind ?_ (fun _ => ?_)
  ·intro y0 y1 y2 y3 y4 y5 y6 y7 y8 y9 y10 y11
   unfold wicketmanref19_Page.j1
   repeat' first|(with_reducible first|exact ih0 _ _ _ _ _ _ _ _ _ _ _ _|exact ih1 _ _ _ _ _ _ _ _ _ _ _ _|exact ih2 _ _ _ _ _ _ _ _ _ _ _ _|exact ih3 _ _ _ _ _ _ _ _ _ _ _ _|exact wicketmanref06_Escape.mono _ _|exact wicketmanref10_Reason.mono _ _|exact wicketmanref11_Set.mono _ _ _ _|exact LeO.refl _|exact LeO.none _|refine LeO.ite ?_ ?_|refine LeO.bind ?_ (fun _ => ?_))|exact LeO.none _|refine LeO.ite ?_ ?_|refine LeO.bind ?_ (fun _ => ?_)
  ·intro y0 y1 y2 y3 y4 y5 y6 y7 y8 y9 y10 y11
   unfold wicketmanref19_Page.j2
   repeat' first|(with_reducible first|exact ih0 _ _ _ _ _ _ _ _ _ _ _ _|exact ih1 _ _ _ _ _ _ _ _ _ _ _ _|exact ih2 _ _ _ _ _ _ _ _ _ _ _ _|exact ih3 _ _ _ _ _ _ _ _ _ _ _ _|exact wicketmanref06_Escape.mono _ _|exact wicketmanref10_Reason.mono _ _|exact wicketmanref11_Set.mono _ _ _ _|exact LeO.refl _|exact LeO.none _|refine LeO.ite ?_ ?_|refine LeO.bind ?_ (fun _ => ?_))|exact LeO.none _|refine LeO.ite ?_ ?_|refine LeO.bind ?_ (fun _ => ?_)
  ·intro y0 y1 y2 y3 y4 y5 y6 y7 y8 y9 y10 y11
   unfold wicketmanref19_Page.j3
   repeat' first|(with_reducible first|exact ih0 _ _ _ _ _ _ _ _ _ _ _ _|exact ih1 _ _ _ _ _ _ _ _ _ _ _ _|exact ih2 _ _ _ _ _ _ _ _ _ _ _ _|exact ih3 _ _ _ _ _ _ _ _ _ _ _ _|exact wicketmanref06_Escape.mono _ _|exact wicketmanref10_Reason.mono _ _|exact wicketmanref11_Set.mono _ _ _ _|exact LeO.refl _|exact LeO.none _|refine LeO.ite ?_ ?_|refine LeO.bind ?_ (fun _ => ?_))|exact LeO.none _|refine LeO.ite ?_ ?_|refine LeO.bind ?_ (fun _ => ?_)
theorem wicketmanref19_Page.mono : ∀ a0 a1 a2 a3 a4 a5 a6 a7 a8 a9 a10 k, LeO (wicketmanref19_Page.f k a0 a1 a2 a3 a4 a5 a6 a7 a8 a9 a10) (wicketmanref19_Page.f (k + 1) a0 a1 a2 a3 a4 a5 a6 a7 a8 a9 a10) := by
 intro a0 a1 a2 a3 a4 a5 a6 a7 a8 a9 a10 k
 obtain ⟨ih0, ih1, ih2, ih3⟩ := wicketmanref19_Page.mono_l k
 unfold wicketmanref19_Page.f
 repeat' first|(with_reducible first|exact ih0 _ _ _ _ _ _ _ _ _ _ _ _|exact ih1 _ _ _ _ _ _ _ _ _ _ _ _|exact ih2 _ _ _ _ _ _ _ _ _ _ _ _|exact ih3 _ _ _ _ _ _ _ _ _ _ _ _|exact wicketmanref06_Escape.mono _ _|exact wicketmanref10_Reason.mono _ _|exact wicketmanref11_Set.mono _ _ _ _|exact LeO.refl _|exact LeO.none _|refine LeO.ite ?_ ?_|refine LeO.bind ?_ (fun _ => ?_))|exact LeO.none _|refine LeO.ite ?_ ?_|refine LeO.bind ?_ (fun _ => ?_)
end Go.Proofs.YthdiiiopjkaifaaGreatDoor.Pall
end
section
namespace Go.Proofs.YthdiiiopjkaifaaGreatDoor.Pall
open Go.RowKit Go.Proofs.YthdiiiopjkaifaaGreatDoorW.PrintWords Go.Proofs.YthdiiiopjkaifaaGreatDoorW.PrintLast
set_option linter.unusedVariables false
set_option linter.unusedSimpArgs false
def wicketmanref19_print.f (k : Nat) (a0_0 : Int) (a0_1 : Int) (a0_2 : Int) (a0_3 : Int) (l0_4 : List Int) (a1_0 : Int) (a1_1 : ByteArray) (a1_2 : Bool) (a1_3 : ByteArray) (a1_4 : ByteArray) (a1_5 : ByteArray) : Option (List Int) := (wicketmanref19_Page.f k a0_0 a0_1 a0_2 a0_3 l0_4 a1_0 a1_1 a1_2 a1_3 a1_4 a1_5).bind fun bt321 => ((wicketmanref10_Print.f k bt321.1 bt321.2.1 bt321.2.2).bind fun bt328 => (some bt328.1))
theorem wicketmanref19_print.mono : ∀ a0 a1 a2 a3 a4 a5 a6 a7 a8 a9 a10 k, LeO (wicketmanref19_print.f k a0 a1 a2 a3 a4 a5 a6 a7 a8 a9 a10) (wicketmanref19_print.f (k + 1) a0 a1 a2 a3 a4 a5 a6 a7 a8 a9 a10) := by
 intro a0 a1 a2 a3 a4 a5 a6 a7 a8 a9 a10 k
 unfold wicketmanref19_print.f
 repeat' first|(with_reducible first|exact wicketmanref10_Print.mono _ _ _ _|exact wicketmanref19_Page.mono _ _ _ _ _ _ _ _ _ _ _ _|exact LeO.refl _|exact LeO.none _|refine LeO.ite ?_ ?_|refine LeO.bind ?_ (fun _ => ?_))|exact LeO.none _|refine LeO.ite ?_ ?_|refine LeO.bind ?_ (fun _ => ?_)
def wicketmanref19_Busy.f (k : Nat)  : Option (List Int) := (wicketmanref19_print.f k 0 0 0 0 ([] : List Int) 503 (⟨#[]⟩ : BA) false (⟨#[]⟩ : BA) (⟨#[]⟩ : BA) (⟨#[]⟩ : BA)).bind fun t332 => (some t332)
theorem wicketmanref19_Busy.mono : ∀ k, LeO (wicketmanref19_Busy.f k ) (wicketmanref19_Busy.f (k + 1) ) := by
 intro  k
 unfold wicketmanref19_Busy.f
 repeat' first|(with_reducible first|exact wicketmanref19_print.mono _ _ _ _ _ _ _ _ _ _ _ _|exact LeO.refl _|exact LeO.none _|refine LeO.ite ?_ ?_|refine LeO.bind ?_ (fun _ => ?_))|exact LeO.none _|refine LeO.ite ?_ ?_|refine LeO.bind ?_ (fun _ => ?_)
def wicketmanref05_Text.l0 : Nat → List Int → ByteArray → Int → Option (ByteArray)
 | 0, _, _, _ => none
 | k + 1, x0, x3, x4 => if x4 < (x0.length : Int) then (if 0 ≤ x4 then (if 0 ≤ ((Int.tdiv (rd x0 x4) 16) % 256) then (if ((Int.tdiv (rd x0 x4) 16) % 256) ≤ ((((Int.tdiv (rd x0 x4) 16) % 256) + 1) % 256) then (if ((((Int.tdiv (rd x0 x4) 16) % 256) + 1) % 256) ≤ 16 then (if x3.size + ((⟨#[48, 49, 50, 51, 52, 53, 54, 55, 56, 57, 97, 98, 99, 100, 101, 102]⟩ : BA).extract (((Int.tdiv (rd x0 x4) 16) % 256) : Int).toNat (((((Int.tdiv (rd x0 x4) 16) % 256) + 1) % 256) : Int).toNat).size ≤ 9223372036854775807 then (if 0 ≤ (Int.tmod (rd x0 x4) 16) then (if (Int.tmod (rd x0 x4) 16) ≤ (((Int.tmod (rd x0 x4) 16) + 1) % 256) then (if (((Int.tmod (rd x0 x4) 16) + 1) % 256) ≤ 16 then (if (x3 ++ ((⟨#[48, 49, 50, 51, 52, 53, 54, 55, 56, 57, 97, 98, 99, 100, 101, 102]⟩ : BA).extract (((Int.tdiv (rd x0 x4) 16) % 256) : Int).toNat (((((Int.tdiv (rd x0 x4) 16) % 256) + 1) % 256) : Int).toNat)).size + ((⟨#[48, 49, 50, 51, 52, 53, 54, 55, 56, 57, 97, 98, 99, 100, 101, 102]⟩ : BA).extract ((Int.tmod (rd x0 x4) 16) : Int).toNat ((((Int.tmod (rd x0 x4) 16) + 1) % 256) : Int).toNat).size ≤ 9223372036854775807 then (wicketmanref05_Text.l0 k x0 ((x3 ++ ((⟨#[48, 49, 50, 51, 52, 53, 54, 55, 56, 57, 97, 98, 99, 100, 101, 102]⟩ : BA).extract (((Int.tdiv (rd x0 x4) 16) % 256) : Int).toNat (((((Int.tdiv (rd x0 x4) 16) % 256) + 1) % 256) : Int).toNat)) ++ ((⟨#[48, 49, 50, 51, 52, 53, 54, 55, 56, 57, 97, 98, 99, 100, 101, 102]⟩ : BA).extract ((Int.tmod (rd x0 x4) 16) : Int).toNat ((((Int.tmod (rd x0 x4) 16) + 1) % 256) : Int).toNat)) (wrap64 (x4 + 1))) else (none)) else (none)) else (none)) else (none)) else (none)) else (none)) else (none)) else (none)) else (none)) else (some x3)
def wicketmanref05_Text.f (k : Nat) (l0 : List Int) : Option (ByteArray) := wicketmanref05_Text.l0 k l0 (⟨#[]⟩ : BA) 0
theorem wicketmanref05_Text.mono_l : ∀ k, (∀ y0 y1 y2, LeO (wicketmanref05_Text.l0 k y0 y1 y2) (wicketmanref05_Text.l0 (k + 1) y0 y1 y2))
 | 0 => fun _ _ _ r h => by simp [wicketmanref05_Text.l0] at h
 | k + 1 => by
  have ih0 := wicketmanref05_Text.mono_l k
  ·intro y0 y1 y2
   unfold wicketmanref05_Text.l0
   repeat' first|(with_reducible first|exact ih0 _ _ _|exact LeO.refl _|exact LeO.none _|refine LeO.ite ?_ ?_|refine LeO.bind ?_ (fun _ => ?_))|exact LeO.none _|refine LeO.ite ?_ ?_|refine LeO.bind ?_ (fun _ => ?_)
theorem wicketmanref05_Text.mono : ∀ a0 k, LeO (wicketmanref05_Text.f k a0) (wicketmanref05_Text.f (k + 1) a0) := by
 intro a0 k
 have ih0 := wicketmanref05_Text.mono_l k
 unfold wicketmanref05_Text.f
 repeat' first|(with_reducible first|exact ih0 _ _ _|exact LeO.refl _|exact LeO.none _|refine LeO.ite ?_ ?_|refine LeO.bind ?_ (fun _ => ?_))|exact LeO.none _|refine LeO.ite ?_ ?_|refine LeO.bind ?_ (fun _ => ?_)
end Go.Proofs.YthdiiiopjkaifaaGreatDoor.Pall
end
