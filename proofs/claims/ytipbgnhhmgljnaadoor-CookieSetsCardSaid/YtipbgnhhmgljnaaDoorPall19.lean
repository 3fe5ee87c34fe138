-- Written by a program of this session: the kit's print with given contracts. Not trusted: Lean checks it.
import Derived.Test.YtipbgnhhmgljnaaDoorPall0
import Derived.Test.YtipbgnhhmgljnaaDoorPall2
import Derived.Test.YtipbgnhhmgljnaaDoorPall4
import Derived.Test.YtipbgnhhmgljnaaDoorPall5
namespace Go.Proofs.YtipbgnhhmgljnaaDoor.Pall
open Go.RowKit Go.Proofs.YtipbgnhhmgljnaaDoorW.PrintWords Go.Proofs.YtipbgnhhmgljnaaDoorW.PrintLast Go.Proofs.YtipbgnhhmgljnaaDoorW.PrintMore
attribute [local go_sem] max2_int min2_int max_two min_two
set_option linter.unusedVariables false
set_option linter.unusedSimpArgs false

/-! ### wicketmanlaw08_Line: function 22 -/
def wicketmanlaw08_Line.l0 : Nat → List Int → List ByteArray → ByteArray → Int → Option (ByteArray)
 | 0, _, _, _, _ => none
 | k + 1, x0, x3, x4, x5 => if x5 < (x0.length : Int) then (if x5 < 30 then (if 0 ≤ x5 then (if (x3.length : Int) = 0 then (none) else (if 0 ≤ (Int.tmod (wrap64 (rd x0 x5)) (x3.length : Int)) then (if (Int.tmod (wrap64 (rd x0 x5)) (x3.length : Int)) < (x3.length : Int) then (if x4.size + (rdOf ByteArray.empty x3 (Int.tmod (wrap64 (rd x0 x5)) (x3.length : Int))).size ≤ 9223372036854775807 then (wicketmanlaw08_Line.l0 k x0 x3 (x4 ++ (rdOf ByteArray.empty x3 (Int.tmod (wrap64 (rd x0 x5)) (x3.length : Int)))) (wrap64 (x5 + 1))) else (none)) else (none)) else (none))) else (none)) else (some x4)) else (some x4)
def wicketmanlaw08_Line.f (k : Nat) (l0 : List Int) : Option (ByteArray) := wicketmanlaw08_Line.l0 k l0 (([(⟨#[72, 111, 115, 116]⟩ : ByteArray), (⟨#[67, 111, 111, 107, 105, 101]⟩ : ByteArray), (⟨#[58]⟩ : ByteArray), (⟨#[58, 32]⟩ : ByteArray), (⟨#[32]⟩ : ByteArray), (⟨#[9]⟩ : ByteArray), (⟨#[97]⟩ : ByteArray), (⟨#[67, 111, 110, 116, 101, 110, 116, 45, 76, 101, 110, 103, 116, 104]⟩ : ByteArray), (⟨#[53]⟩ : ByteArray), (⟨#[95, 95, 72, 111, 115, 116, 45, 105, 100, 61]⟩ : ByteArray), (⟨#[59, 32]⟩ : ByteArray), (⟨#[0]⟩ : ByteArray), (⟨#[127]⟩ : ByteArray), (⟨#[233]⟩ : ByteArray), (⟨#[40]⟩ : ByteArray), (⟨#[120, 61, 49]⟩ : ByteArray), (⟨#[34]⟩ : ByteArray), (⟨#[44]⟩ : ByteArray)] : List ByteArray)) (⟨#[]⟩ : ByteArray) 0
theorem wicketmanlaw08_Line.mono_l : ∀ k, (∀ y0 y1 y2 y3, LeO (wicketmanlaw08_Line.l0 k y0 y1 y2 y3) (wicketmanlaw08_Line.l0 (k + 1) y0 y1 y2 y3))
 | 0 => fun _ _ _ _ r h => by simp [wicketmanlaw08_Line.l0] at h
 | k + 1 => by
  have ih0 := wicketmanlaw08_Line.mono_l k
  ·intro y0 y1 y2 y3
   unfold wicketmanlaw08_Line.l0
   repeat' first
   | (with_reducible exact ih0 _ _ _ _)
   | (with_reducible exact LeO.refl _)
   | (with_reducible exact LeO.none _)
   | (with_reducible refine LeO.ite ?_ ?_)
   | (with_reducible refine LeO.bind ?_ (fun _ => ?_))
   | exact ih0 _ _ _ _
   | exact LeO.none _
   | refine LeO.ite ?_ ?_
   | refine LeO.bind ?_ (fun _ => ?_)
theorem wicketmanlaw08_Line.mono : ∀ a0 k, LeO (wicketmanlaw08_Line.f k a0) (wicketmanlaw08_Line.f (k + 1) a0) := by
 intro a0 k
 have ih0 := wicketmanlaw08_Line.mono_l k
 unfold wicketmanlaw08_Line.f
 repeat' first
   | (with_reducible exact ih0 _ _ _ _)
   | (with_reducible exact LeO.refl _)
   | (with_reducible exact LeO.none _)
   | (with_reducible refine LeO.ite ?_ ?_)
   | (with_reducible refine LeO.bind ?_ (fun _ => ?_))
   | exact ih0 _ _ _ _
   | exact LeO.none _
   | refine LeO.ite ?_ ?_
   | refine LeO.bind ?_ (fun _ => ?_)
set_option maxHeartbeats 8000000 in
set_option maxRecDepth 100000 in
theorem wicketmanlaw08_Line.calls (k : Nat) (A0 : Option Addr) (c0 : Nat) (l0 : List Int) (r : ByteArray) (w : World) (hr0 : Kd.C (Kd.int .u8) w A0 l0.length l0) (hc0 : l0.length ≤ c0) (h : wicketmanlaw08_Line.f k l0 = some r) :
  Calls Tryd.prog 22 #[.slice A0 l0.length c0] w fun e w' => e = .returned (.string r) ∧ Below w.heap.size w w' := by
 have HR0 := Aside0.mk hr0
 have HC0 := Aside0.mk hc0
 clear hr0 hc0
 have HB := Aside0.mk (Below.refl w.heap.size w)
 have H : (wicketmanlaw08_Line.l0 k l0 (([(⟨#[72, 111, 115, 116]⟩ : ByteArray), (⟨#[67, 111, 111, 107, 105, 101]⟩ : ByteArray), (⟨#[58]⟩ : ByteArray), (⟨#[58, 32]⟩ : ByteArray), (⟨#[32]⟩ : ByteArray), (⟨#[9]⟩ : ByteArray), (⟨#[97]⟩ : ByteArray), (⟨#[67, 111, 110, 116, 101, 110, 116, 45, 76, 101, 110, 103, 116, 104]⟩ : ByteArray), (⟨#[53]⟩ : ByteArray), (⟨#[95, 95, 72, 111, 115, 116, 45, 105, 100, 61]⟩ : ByteArray), (⟨#[59, 32]⟩ : ByteArray), (⟨#[0]⟩ : ByteArray), (⟨#[127]⟩ : ByteArray), (⟨#[233]⟩ : ByteArray), (⟨#[40]⟩ : ByteArray), (⟨#[120, 61, 49]⟩ : ByteArray), (⟨#[34]⟩ : ByteArray), (⟨#[44]⟩ : ByteArray)] : List ByteArray)) (⟨#[]⟩ : ByteArray) 0) = some r := h
 clear h
 obtain ⟨y337, hy337⟩ : ∃ y_ : List ByteArray, y_ = (([(⟨#[72, 111, 115, 116]⟩ : ByteArray), (⟨#[67, 111, 111, 107, 105, 101]⟩ : ByteArray), (⟨#[58]⟩ : ByteArray), (⟨#[58, 32]⟩ : ByteArray), (⟨#[32]⟩ : ByteArray), (⟨#[9]⟩ : ByteArray), (⟨#[97]⟩ : ByteArray), (⟨#[67, 111, 110, 116, 101, 110, 116, 45, 76, 101, 110, 103, 116, 104]⟩ : ByteArray), (⟨#[53]⟩ : ByteArray), (⟨#[95, 95, 72, 111, 115, 116, 45, 105, 100, 61]⟩ : ByteArray), (⟨#[59, 32]⟩ : ByteArray), (⟨#[0]⟩ : ByteArray), (⟨#[127]⟩ : ByteArray), (⟨#[233]⟩ : ByteArray), (⟨#[40]⟩ : ByteArray), (⟨#[120, 61, 49]⟩ : ByteArray), (⟨#[34]⟩ : ByteArray), (⟨#[44]⟩ : ByteArray)] : List ByteArray)) := ⟨_, rfl⟩
 replace H : (wicketmanlaw08_Line.l0 k l0 y337 (⟨#[]⟩ : ByteArray) 0) = some r := by first | (rw [hy337]; with_reducible exact H) | (have H2_ := (Option.bind_some _ _).symm.trans H; rw [hy337]; with_reducible exact H2_) | (have H2_ := (Option.bind_some _ _).symm.trans H; with_reducible exact H2_) | with_reducible exact H | (rw [hy337]; exact H) | exact H
 have Ny337 := Aside0.mk hy337
 clear hy337
 have H' := Aside0.mk H
 clear H
 go_enter Tryd.func22, Tryd.ntmps22
 go_wp2_with (first | ((with_reducible refine gate_dst (N := 6) rfl ?_); refine Kd.R_lit Kd.string _ 9 ?hg (N := 6) ?hd (xs := ([(⟨#[72, 111, 115, 116]⟩ : ByteArray), (⟨#[67, 111, 111, 107, 105, 101]⟩ : ByteArray), (⟨#[58]⟩ : ByteArray), (⟨#[58, 32]⟩ : ByteArray), (⟨#[32]⟩ : ByteArray), (⟨#[9]⟩ : ByteArray), (⟨#[97]⟩ : ByteArray), (⟨#[67, 111, 110, 116, 101, 110, 116, 45, 76, 101, 110, 103, 116, 104]⟩ : ByteArray), (⟨#[53]⟩ : ByteArray), (⟨#[95, 95, 72, 111, 115, 116, 45, 105, 100, 61]⟩ : ByteArray), (⟨#[59, 32]⟩ : ByteArray), (⟨#[0]⟩ : ByteArray), (⟨#[127]⟩ : ByteArray), (⟨#[233]⟩ : ByteArray), (⟨#[40]⟩ : ByteArray), (⟨#[120, 61, 49]⟩ : ByteArray), (⟨#[34]⟩ : ByteArray), (⟨#[44]⟩ : ByteArray)] : List ByteArray)) (inner := [.string (⟨#[72, 111, 115, 116]⟩ : ByteArray), .string (⟨#[67, 111, 111, 107, 105, 101]⟩ : ByteArray), .string (⟨#[58]⟩ : ByteArray), .string (⟨#[58, 32]⟩ : ByteArray), .string (⟨#[32]⟩ : ByteArray), .string (⟨#[9]⟩ : ByteArray), .string (⟨#[97]⟩ : ByteArray), .string (⟨#[67, 111, 110, 116, 101, 110, 116, 45, 76, 101, 110, 103, 116, 104]⟩ : ByteArray), .string (⟨#[53]⟩ : ByteArray), .string (⟨#[95, 95, 72, 111, 115, 116, 45, 105, 100, 61]⟩ : ByteArray), .string (⟨#[59, 32]⟩ : ByteArray), .string (⟨#[0]⟩ : ByteArray), .string (⟨#[127]⟩ : ByteArray), .string (⟨#[233]⟩ : ByteArray), .string (⟨#[40]⟩ : ByteArray), .string (⟨#[120, 61, 49]⟩ : ByteArray), .string (⟨#[34]⟩ : ByteArray), .string (⟨#[44]⟩ : ByteArray)]) (ok := fun _ => True) (okp := fun _ => True) ?hr ?hp (fun _ hk => hk) trivial (Below.refl _ _) (Nat.le_refl _) (by simp) ?_; (case hd => rfl); (case hg => rfl); (case hr => first | (go_simp; done) | (go_simp; rfl)); (case hp => exact (Reps.one (show Kd.M Kd.string _ _ _ (⟨#[72, 111, 115, 116]⟩ : ByteArray) [.string (⟨#[72, 111, 115, 116]⟩ : ByteArray)] from rfl) (Reps.one (show Kd.M Kd.string _ _ _ (⟨#[67, 111, 111, 107, 105, 101]⟩ : ByteArray) [.string (⟨#[67, 111, 111, 107, 105, 101]⟩ : ByteArray)] from rfl) (Reps.one (show Kd.M Kd.string _ _ _ (⟨#[58]⟩ : ByteArray) [.string (⟨#[58]⟩ : ByteArray)] from rfl) (Reps.one (show Kd.M Kd.string _ _ _ (⟨#[58, 32]⟩ : ByteArray) [.string (⟨#[58, 32]⟩ : ByteArray)] from rfl) (Reps.one (show Kd.M Kd.string _ _ _ (⟨#[32]⟩ : ByteArray) [.string (⟨#[32]⟩ : ByteArray)] from rfl) (Reps.one (show Kd.M Kd.string _ _ _ (⟨#[9]⟩ : ByteArray) [.string (⟨#[9]⟩ : ByteArray)] from rfl) (Reps.one (show Kd.M Kd.string _ _ _ (⟨#[97]⟩ : ByteArray) [.string (⟨#[97]⟩ : ByteArray)] from rfl) (Reps.one (show Kd.M Kd.string _ _ _ (⟨#[67, 111, 110, 116, 101, 110, 116, 45, 76, 101, 110, 103, 116, 104]⟩ : ByteArray) [.string (⟨#[67, 111, 110, 116, 101, 110, 116, 45, 76, 101, 110, 103, 116, 104]⟩ : ByteArray)] from rfl) (Reps.one (show Kd.M Kd.string _ _ _ (⟨#[53]⟩ : ByteArray) [.string (⟨#[53]⟩ : ByteArray)] from rfl) (Reps.one (show Kd.M Kd.string _ _ _ (⟨#[95, 95, 72, 111, 115, 116, 45, 105, 100, 61]⟩ : ByteArray) [.string (⟨#[95, 95, 72, 111, 115, 116, 45, 105, 100, 61]⟩ : ByteArray)] from rfl) (Reps.one (show Kd.M Kd.string _ _ _ (⟨#[59, 32]⟩ : ByteArray) [.string (⟨#[59, 32]⟩ : ByteArray)] from rfl) (Reps.one (show Kd.M Kd.string _ _ _ (⟨#[0]⟩ : ByteArray) [.string (⟨#[0]⟩ : ByteArray)] from rfl) (Reps.one (show Kd.M Kd.string _ _ _ (⟨#[127]⟩ : ByteArray) [.string (⟨#[127]⟩ : ByteArray)] from rfl) (Reps.one (show Kd.M Kd.string _ _ _ (⟨#[233]⟩ : ByteArray) [.string (⟨#[233]⟩ : ByteArray)] from rfl) (Reps.one (show Kd.M Kd.string _ _ _ (⟨#[40]⟩ : ByteArray) [.string (⟨#[40]⟩ : ByteArray)] from rfl) (Reps.one (show Kd.M Kd.string _ _ _ (⟨#[120, 61, 49]⟩ : ByteArray) [.string (⟨#[120, 61, 49]⟩ : ByteArray)] from rfl) (Reps.one (show Kd.M Kd.string _ _ _ (⟨#[34]⟩ : ByteArray) [.string (⟨#[34]⟩ : ByteArray)] from rfl) (Reps.one (show Kd.M Kd.string _ _ _ (⟨#[44]⟩ : ByteArray) [.string (⟨#[44]⟩ : ByteArray)] from rfl) (Reps.none _ _)))))))))))))))))))); intro v338 w2 ho3 hb hg_ hnew_; clear hg_ hnew_; (first | rw [← Ny337.out] at ho3 | (simp only [Int.reduceToNat] at ho3; rw [← Ny337.out] at ho3)); have n0_ := Aside0.mk (Kd.R_lower ho3 (below_size (by repeat (first | (with_reducible first | apply bA | apply bN | apply bD) | exact HB.out)))); have n1_ := Aside0.mk (below_step (by repeat (first | (with_reducible first | apply bA | apply bN | apply bD) | exact HB.out)) hb); clear HB; have HO339 := n0_; have HB := n1_; clear n0_ n1_; clear hb ho3))
 go_loopg [4, 5] k (fun kq v4 v5 w' => ∃ (x4_1 : ByteArray) (x5_1 : Int), v4 = .string x4_1 ∧ v5 = .int .i64 x5_1 ∧ Aside0 (wicketmanlaw08_Line.l0 kq l0 y337 x4_1 x5_1 = some r) ∧ Aside0 (kq ≤ k) ∧ Aside0 (Kd.R Kd.string 9 w' w.heap.size (fun _ => True) v338 y337) ∧ Aside0 (Below w.heap.size w w'))
 case atStart => exact ⟨((⟨#[]⟩ : ByteArray)), (0), (by first | rfl | (simp; done) | (simp [*]; done)), (by first | rfl | (simp; done) | (simp [*]; done)), H', ⟨Nat.le_refl _⟩, ⟨by (with_reducible repeat (first | apply Kd.R_alloc | apply Kd.R_drewN | apply Kd.R_drew)); exact HO339.out⟩, ⟨by repeat (first | (with_reducible first | apply bA | apply bN | apply bD) | exact HB.out)⟩⟩
 case round =>
  clear H'
  try clear c2
  try clear p2
  obtain ⟨x4_1, x5_1, rfl, rfl, HA, HK1, HO_3, HB⟩ := hrel
  cases gk with
  | zero => exact absurd HA.out (by simp [wicketmanlaw08_Line.l0])
  | succ k1 =>
   have H := HA.out
   clear HA
   simp only [wicketmanlaw08_Line.l0] at H
   by_cases c4 : x5_1 < (l0.length : Int)
   ·rw [if_pos c4] at H
    have c4b0 : decide (x5_1 < (l0.length : Int)) = true := decide_eq_true c4
    clear c4
    by_cases c5 : x5_1 < 30
    ·rw [if_pos c5] at H
     have c5b0 : decide (x5_1 < 30) = true := decide_eq_true c5
     clear c5
     by_cases c6 : 0 ≤ x5_1
     ·rw [if_pos c6] at H
      have c6b0 : decide (0 ≤ x5_1) = true := decide_eq_true c6
      clear c6
      by_cases c7 : (y337.length : Int) = 0
      ·rw [if_pos c7] at H
       exact absurd H (by simp)
      ·rw [if_neg c7] at H
       have c7b0 : ((y337.length : Int) == 0) = false := beq_eq_false_iff_ne.mpr c7
       have c7b1 : ((y337.length : Int) != 0) = true := bne_iff_ne.mpr c7
       have c7b2 : ¬ (y337 = []) := fun h_ => c7 (by rw [h_]; rfl)
       obtain ⟨ji8, hji8⟩ : ∃ j_ : Int, (Int.tmod (wrap64 (rd l0 x5_1)) (y337.length : Int)) = j_ := ⟨_, rfl⟩
       replace H : (if 0 ≤ (ji8) then (if (ji8) < (y337.length : Int) then (if x4_1.size + (rdOf ByteArray.empty y337 (ji8)).size ≤ 9223372036854775807 then (wicketmanlaw08_Line.l0 k1 l0 y337 (x4_1 ++ (rdOf ByteArray.empty y337 (ji8))) (wrap64 (x5_1 + 1))) else (none)) else (none)) else (none)) = some r := by first | (rw [hji8] at H; exact H) | (simp only [hji8] at H ⊢; exact H)
       by_cases c9 : 0 ≤ (ji8)
       ·rw [if_pos c9] at H
        have c9b0 : decide (0 ≤ (ji8)) = true := decide_eq_true c9
        clear c9
        by_cases c10 : (ji8) < (y337.length : Int)
        ·rw [if_pos c10] at H
         have c10b0 : decide ((ji8) < (y337.length : Int)) = true := decide_eq_true c10
         clear c10
         by_cases c11 : x4_1.size + (rdOf ByteArray.empty y337 (ji8)).size ≤ 9223372036854775807
         ·rw [if_pos c11] at H
          have c11b0 := eq_true c11
          have c11b1 : decide (x4_1.size + (rdOf ByteArray.empty y337 (ji8)).size ≤ 9223372036854775807) = true := decide_eq_true c11
          try have c11b2 : (9223372036854775807 < x4_1.size + (rdOf ByteArray.empty y337 (ji8)).size) = False := eq_false (Nat.not_lt.2 c11)
          have H' := Aside0.mk H
          clear H
          have p340 : 0 ≤ (x5_1 : Int) := of_decide_eq_true (by first | (with_reducible assumption) | assumption)
          have q340 : x5_1 < (l0.length : Int) := of_decide_eq_true (by first | (with_reducible assumption) | assumption)
          obtain ⟨ad340, e340, hx340_0⟩ := Kd.at_int HR0.out x5_1 p340 q340
          cases e340
          replace hx340_0 := (HB.out.cell (World.block_lt_of_cell? w _ hx340_0)).trans hx340_0
          replace p340 := eq_true p340
          replace q340 := eq_true q340
          obtain ⟨Ao12, co12, eo12⟩ := Kd.R_slice HO_3.out
          subst eo12
          have p341 : 0 ≤ ((ji8) : Int) := of_decide_eq_true (by first | (with_reducible assumption) | assumption)
          have q341 : (ji8) < (y337.length : Int) := of_decide_eq_true (by first | (with_reducible assumption) | assumption)
          obtain ⟨ad341, e341, hx341_0⟩ := Kd.at_string (Kd.R_reads' HO_3.out).2.2 (ji8) p341 q341
          cases e341
          replace p341 := eq_true p341
          replace q341 := eq_true q341
          go_wp2
          go_roundg k1
          case measure => have := HK1.out; omega
          case rel => exact ⟨(x4_1 ++ (rdOf ByteArray.empty y337 (ji8))), (wrap64 (x5_1 + 1)), (by first | rfl | (simp; done) | (simp only [← hji8] <;> (first | rfl | simp)) | (simp [*]; done)), (by first | rfl | (simp; done) | (simp [*]; done)), H', ⟨by have := HK1.out; omega⟩, ⟨by (with_reducible repeat (first | apply Kd.R_alloc | apply Kd.R_drewN | apply Kd.R_drew)); exact HO_3.out⟩, ⟨by repeat (first | (with_reducible first | apply bA | apply bN | apply bD) | exact HB.out)⟩⟩
         ·rw [if_neg c11] at H
          exact absurd H (by simp)
        ·rw [if_neg c10] at H
         exact absurd H (by simp)
       ·rw [if_neg c9] at H
        exact absurd H (by simp)
     ·rw [if_neg c6] at H
      exact absurd H (by simp)
    ·rw [if_neg c5] at H
     have c5b0 : decide (x5_1 < 30) = false := decide_eq_false c5
     clear c5
     obtain rfl := Option.some.inj H
     go_wp2
     go_ret
     exact ⟨by first | rfl | (simp [errW_none, errW_some] <;> rfl) | (simp [*, errW_none, errW_some] <;> rfl), by repeat (first | (with_reducible first | apply bA | apply bN | apply bD) | exact HB.out)⟩
   ·rw [if_neg c4] at H
    have c4b0 : decide (x5_1 < (l0.length : Int)) = false := decide_eq_false c4
    clear c4
    obtain rfl := Option.some.inj H
    go_wp2
    go_ret
    exact ⟨by first | rfl | (simp [errW_none, errW_some] <;> rfl) | (simp [*, errW_none, errW_some] <;> rfl), by repeat (first | (with_reducible first | apply bA | apply bN | apply bD) | exact HB.out)⟩

/-! ### wicketmanref11_Set: function 23 -/
def wicketmanref11_Set.f (k : Nat) (a0_0 : ByteArray) (a0_1 : ByteArray) (a1 : Int) : Option (ByteArray × Int) := (wicketmanref08_Token.f k a0_0).bind fun t343 => (if t343 = true then ((wicketmanref11_Octets.f k a0_1).bind fun t344 => (if t344 = true then (if a1 < 0 then (some ((⟨#[]⟩ : ByteArray), 1)) else (if a1 > 999999999 then (some ((⟨#[]⟩ : ByteArray), 1)) else (if a0_0.size + 1 ≤ 9223372036854775807 then (if (a0_0 ++ (⟨#[61]⟩ : ByteArray)).size + a0_1.size ≤ 9223372036854775807 then (if ((a0_0 ++ (⟨#[61]⟩ : ByteArray)) ++ a0_1).size + 10 ≤ 9223372036854775807 then ((strconv_Itoa.f a1).bind fun t345 => (if (((a0_0 ++ (⟨#[61]⟩ : ByteArray)) ++ a0_1) ++ (⟨#[59, 32, 77, 97, 120, 45, 65, 103, 101, 61]⟩ : ByteArray)).size + t345.size ≤ 9223372036854775807 then (if ((((a0_0 ++ (⟨#[61]⟩ : ByteArray)) ++ a0_1) ++ (⟨#[59, 32, 77, 97, 120, 45, 65, 103, 101, 61]⟩ : ByteArray)) ++ t345).size + 43 ≤ 9223372036854775807 then (some (((((a0_0 ++ (⟨#[61]⟩ : ByteArray)) ++ a0_1) ++ (⟨#[59, 32, 77, 97, 120, 45, 65, 103, 101, 61]⟩ : ByteArray)) ++ t345) ++ (⟨#[59, 32, 80, 97, 116, 104, 61, 47, 59, 32, 83, 101, 99, 117, 114, 101, 59, 32, 72, 116, 116, 112, 79, 110, 108, 121, 59, 32, 83, 97, 109, 101, 83, 105, 116, 101, 61, 83, 116, 114, 105, 99, 116]⟩ : ByteArray), 0)) else (none)) else (none))) else (none)) else (none)) else (none)))) else (some ((⟨#[]⟩ : ByteArray), 1)))) else (some ((⟨#[]⟩ : ByteArray), 1)))
theorem wicketmanref11_Set.mono : ∀ a0 a1 a2 k, LeO (wicketmanref11_Set.f k a0 a1 a2) (wicketmanref11_Set.f (k + 1) a0 a1 a2) := by
 intro a0 a1 a2 k
 unfold wicketmanref11_Set.f
 repeat' first
   | (with_reducible exact wicketmanref08_Token.mono _ _)
   | (with_reducible exact wicketmanref11_Octets.mono _ _)
   | (with_reducible exact LeO.refl _)
   | (with_reducible exact LeO.none _)
   | (with_reducible refine LeO.ite ?_ ?_)
   | (with_reducible refine LeO.bind ?_ (fun _ => ?_))
   | exact wicketmanref08_Token.mono _ _
   | exact wicketmanref11_Octets.mono _ _
   | exact LeO.none _
   | refine LeO.ite ?_ ?_
   | refine LeO.bind ?_ (fun _ => ?_)
def wicketmanref11_Set.T3 : Bool × List (List Nat × List Nat) := (true, [([], []), ([0], [0]), ([1], [1]), ([], []), ([3], [3]), ([2, 4], [2, 4]), ([5], [5]), ([], []), ([7], [7]), ([6, 8], [6, 8]), ([9], [9]), ([10, 8, 0, 1, 2, 3, 4, 5, 6, 7, 8, 9, 10], [10]), ([11, 0, 1, 2, 3, 4, 5, 6, 7, 8, 9, 10, 11], [])])
def wicketmanref11_Set.B3 : List Nat := [0, 1, 3, 0, 8, 31, 63, 0, 128, 511, 1023, 2047, 4095]
theorem wicketmanref11_Set.tab3 : rtab .any (opsOf Tryd.f23 3) = wicketmanref11_Set.T3 := by kernel_rfl
theorem wicketmanref11_Set.bits3 : waitsOk wicketmanref11_Set.T3.2 wicketmanref11_Set.B3 = true := by kernel_rfl
set_option maxHeartbeats 8000000 in
set_option maxRecDepth 100000 in
theorem wicketmanref11_Set.calls (k : Nat) (a0_0 : ByteArray) (a0_1 : ByteArray) (a1 : Int) (r1 : ByteArray) (r2 : Int) (w : World) (hS : Sh w) (h : wicketmanref11_Set.f k a0_0 a0_1 a1 = some (r1, r2)) :
  Calls Tryd.prog 23 #[.agg #[.string a0_0, .string a0_1], .int .i64 a1] w fun e w' => e = .returned (.tuple #[.string r1, .int .i64 r2]) ∧ Below w.heap.size w w' := by
 have hu38 := Tryd.underlying38
 have HB := Aside0.mk (Below.refl w.heap.size w)
 have H : ((wicketmanref08_Token.f k a0_0).bind fun t343 => (if t343 = true then ((wicketmanref11_Octets.f k a0_1).bind fun t344 => (if t344 = true then (if a1 < 0 then (some ((⟨#[]⟩ : ByteArray), 1)) else (if a1 > 999999999 then (some ((⟨#[]⟩ : ByteArray), 1)) else (if a0_0.size + 1 ≤ 9223372036854775807 then (if (a0_0 ++ (⟨#[61]⟩ : ByteArray)).size + a0_1.size ≤ 9223372036854775807 then (if ((a0_0 ++ (⟨#[61]⟩ : ByteArray)) ++ a0_1).size + 10 ≤ 9223372036854775807 then ((strconv_Itoa.f a1).bind fun t345 => (if (((a0_0 ++ (⟨#[61]⟩ : ByteArray)) ++ a0_1) ++ (⟨#[59, 32, 77, 97, 120, 45, 65, 103, 101, 61]⟩ : ByteArray)).size + t345.size ≤ 9223372036854775807 then (if ((((a0_0 ++ (⟨#[61]⟩ : ByteArray)) ++ a0_1) ++ (⟨#[59, 32, 77, 97, 120, 45, 65, 103, 101, 61]⟩ : ByteArray)) ++ t345).size + 43 ≤ 9223372036854775807 then (some (((((a0_0 ++ (⟨#[61]⟩ : ByteArray)) ++ a0_1) ++ (⟨#[59, 32, 77, 97, 120, 45, 65, 103, 101, 61]⟩ : ByteArray)) ++ t345) ++ (⟨#[59, 32, 80, 97, 116, 104, 61, 47, 59, 32, 83, 101, 99, 117, 114, 101, 59, 32, 72, 116, 116, 112, 79, 110, 108, 121, 59, 32, 83, 97, 109, 101, 83, 105, 116, 101, 61, 83, 116, 114, 105, 99, 116]⟩ : ByteArray), 0)) else (none)) else (none))) else (none)) else (none)) else (none)))) else (some ((⟨#[]⟩ : ByteArray), 1)))) else (some ((⟨#[]⟩ : ByteArray), 1)))) = some (r1, r2) := h
 clear h
 replace H := Option.bind_eq_some_iff.mp H
 obtain ⟨t343, A30, H⟩ := H
 try dsimp only at H
 have A3 := Aside0.mk A30
 clear A30
 by_cases c4 : t343 = true
 ·subst c4
  rw [if_pos rfl] at H
  replace H := Option.bind_eq_some_iff.mp H
  obtain ⟨t344, A50, H⟩ := H
  try dsimp only at H
  have A5 := Aside0.mk A50
  clear A50
  by_cases c6 : t344 = true
  ·subst c6
   rw [if_pos rfl] at H
   by_cases c7 : a1 < 0
   ·rw [if_pos c7] at H
    have c7b0 : decide (a1 < 0) = true := decide_eq_true c7
    clear c7
    simp only [Option.some.injEq, Prod.mk.injEq] at H
    obtain ⟨rfl, rfl⟩ := H
    go_enter Tryd.func23, Tryd.ntmps23
    go_wp2_with (first | ((with_reducible refine gate_dst (N := 2) rfl ?_); refine box_event ?hg (N := 2) ?hd (cs := #[.string a0_0, .string a0_1]) (t := 38) ?hr ?_; (case hd => rfl); (case hg => rfl); (case hr => first | (go_simp; done) | (go_simp; rfl)); intro gb342 hg w8 hbox hb; have n0_ := Aside0.mk (below_step (by repeat (first | (with_reducible first | apply bA | apply bN | apply bD) | exact HB.out)) hb); have n1_ := Aside0.mk (hbox); have n2_ := Aside0.mk ((by rw [hg]; exact (below_size (by repeat (first | (with_reducible first | apply bA | apply bN | apply bD) | exact HB.out))) : w.heap.size ≤ gb342)); have n3_ := Aside0.mk ((by rw [hg]; exact (below_size (by repeat (first | (with_reducible first | apply bA | apply bN | apply bD) | exact HB.out))) : w.heap.size ≤ gb342)); clear HB; have HB := n0_; have BK342 := n1_; have GW342 := n2_; have GE342 := n3_; clear n0_ n1_ n2_ n3_; clear hb hbox hg; have hcz9_0 : w8.cell? ⟨gb342, 0, none⟩ = some (.string a0_0) := (blk_cell BK342.out 0).trans rfl; have hcz9_1 : w8.cell? ⟨gb342, 1, none⟩ = some (.string a0_1) := (blk_cell BK342.out 1).trans rfl; have hfz9_0 := blk_frozen BK342.out 0; have hfz9_1 := blk_frozen BK342.out 1) | ((with_reducible refine gate_callee (f := 38) rfl ?_); refine goesL_ (some 8) rfl rfl Tryd.func38 (by kernel_rfl) rfl #[.string a0_0] rfl (by (try simp only [List.map_toArray, List.map_cons, List.map_nil]); first | done | rfl | (simp only [List.length_drop, List.length_take]; rfl)) ?_; (with_reducible refine (wicketmanref08_Token.calls k a0_0 true _ A3.out).mono ?_); rintro e w' ⟨rfl, ⟨nd, rfl⟩⟩; refine ⟨_, rfl, ?_⟩) | (go_at_call 39; (with_reducible refine (wicketmanref11_Octets.calls k a0_1 true _ A5.out).mono ?_); rintro e w' ⟨rfl, ⟨nd, rfl⟩⟩))
    go_ret2
    exact ⟨by first | rfl | (simp [errW_none, errW_some] <;> rfl) | (simp [*, errW_none, errW_some] <;> rfl), by repeat (first | (with_reducible first | apply bA | apply bN | apply bD | refine below_set ?_ GE342.out) | exact HB.out)⟩
   ·rw [if_neg c7] at H
    have c7b0 : decide (a1 < 0) = false := decide_eq_false c7
    clear c7
    by_cases c10 : a1 > 999999999
    ·rw [if_pos c10] at H
     have c10b0 : decide (999999999 < a1) = true := decide_eq_true c10
     clear c10
     simp only [Option.some.injEq, Prod.mk.injEq] at H
     obtain ⟨rfl, rfl⟩ := H
     go_enter Tryd.func23, Tryd.ntmps23
     go_wp2_with (first | ((with_reducible refine gate_dst (N := 2) rfl ?_); refine box_event ?hg (N := 2) ?hd (cs := #[.string a0_0, .string a0_1]) (t := 38) ?hr ?_; (case hd => rfl); (case hg => rfl); (case hr => first | (go_simp; done) | (go_simp; rfl)); intro gb342 hg w11 hbox hb; have n0_ := Aside0.mk (below_step (by repeat (first | (with_reducible first | apply bA | apply bN | apply bD) | exact HB.out)) hb); have n1_ := Aside0.mk (hbox); have n2_ := Aside0.mk ((by rw [hg]; exact (below_size (by repeat (first | (with_reducible first | apply bA | apply bN | apply bD) | exact HB.out))) : w.heap.size ≤ gb342)); have n3_ := Aside0.mk ((by rw [hg]; exact (below_size (by repeat (first | (with_reducible first | apply bA | apply bN | apply bD) | exact HB.out))) : w.heap.size ≤ gb342)); clear HB; have HB := n0_; have BK342 := n1_; have GW342 := n2_; have GE342 := n3_; clear n0_ n1_ n2_ n3_; clear hb hbox hg; have hcz12_0 : w11.cell? ⟨gb342, 0, none⟩ = some (.string a0_0) := (blk_cell BK342.out 0).trans rfl; have hcz12_1 : w11.cell? ⟨gb342, 1, none⟩ = some (.string a0_1) := (blk_cell BK342.out 1).trans rfl; have hfz12_0 := blk_frozen BK342.out 0; have hfz12_1 := blk_frozen BK342.out 1) | ((with_reducible refine gate_callee (f := 38) rfl ?_); refine goesL_ (some 8) rfl rfl Tryd.func38 (by kernel_rfl) rfl #[.string a0_0] rfl (by (try simp only [List.map_toArray, List.map_cons, List.map_nil]); first | done | rfl | (simp only [List.length_drop, List.length_take]; rfl)) ?_; (with_reducible refine (wicketmanref08_Token.calls k a0_0 true _ A3.out).mono ?_); rintro e w' ⟨rfl, ⟨nd, rfl⟩⟩; refine ⟨_, rfl, ?_⟩) | (go_at_call 39; (with_reducible refine (wicketmanref11_Octets.calls k a0_1 true _ A5.out).mono ?_); rintro e w' ⟨rfl, ⟨nd, rfl⟩⟩))
     go_ret2
     exact ⟨by first | rfl | (simp [errW_none, errW_some] <;> rfl) | (simp [*, errW_none, errW_some] <;> rfl), by repeat (first | (with_reducible first | apply bA | apply bN | apply bD | refine below_set ?_ GE342.out) | exact HB.out)⟩
    ·rw [if_neg c10] at H
     have c10b0 : decide (999999999 < a1) = false := decide_eq_false c10
     clear c10
     by_cases c13 : a0_0.size + 1 ≤ 9223372036854775807
     ·rw [if_pos c13] at H
      have c13b0 := eq_true c13
      have c13b1 : decide (a0_0.size + 1 ≤ 9223372036854775807) = true := decide_eq_true c13
      try have c13b2 : (9223372036854775807 < a0_0.size + 1) = False := eq_false (Nat.not_lt.2 c13)
      by_cases c14 : (a0_0 ++ (⟨#[61]⟩ : ByteArray)).size + a0_1.size ≤ 9223372036854775807
      ·rw [if_pos c14] at H
       have c14b0 := eq_true c14
       have c14b1 : decide ((a0_0 ++ (⟨#[61]⟩ : ByteArray)).size + a0_1.size ≤ 9223372036854775807) = true := decide_eq_true c14
       try have c14b2 : (9223372036854775807 < (a0_0 ++ (⟨#[61]⟩ : ByteArray)).size + a0_1.size) = False := eq_false (Nat.not_lt.2 c14)
       try (have c14b8 := c14b2; simp only [ByteArray.size_append, show ((⟨#[61]⟩ : ByteArray) : ByteArray).size = 1 from rfl] at c14b8)
       by_cases c15 : ((a0_0 ++ (⟨#[61]⟩ : ByteArray)) ++ a0_1).size + 10 ≤ 9223372036854775807
       ·rw [if_pos c15] at H
        have c15b0 := eq_true c15
        have c15b1 : decide (((a0_0 ++ (⟨#[61]⟩ : ByteArray)) ++ a0_1).size + 10 ≤ 9223372036854775807) = true := decide_eq_true c15
        try have c15b2 : (9223372036854775807 < ((a0_0 ++ (⟨#[61]⟩ : ByteArray)) ++ a0_1).size + 10) = False := eq_false (Nat.not_lt.2 c15)
        try (have c15b8 := c15b2; simp only [ByteArray.size_append, show ((⟨#[61]⟩ : ByteArray) : ByteArray).size = 1 from rfl] at c15b8)
        replace H := Option.bind_eq_some_iff.mp H
        obtain ⟨t345, A160, H⟩ := H
        try dsimp only at H
        have A16 := Aside0.mk A160
        clear A160
        by_cases c17 : (((a0_0 ++ (⟨#[61]⟩ : ByteArray)) ++ a0_1) ++ (⟨#[59, 32, 77, 97, 120, 45, 65, 103, 101, 61]⟩ : ByteArray)).size + t345.size ≤ 9223372036854775807
        ·rw [if_pos c17] at H
         have c17b0 := eq_true c17
         have c17b1 : decide ((((a0_0 ++ (⟨#[61]⟩ : ByteArray)) ++ a0_1) ++ (⟨#[59, 32, 77, 97, 120, 45, 65, 103, 101, 61]⟩ : ByteArray)).size + t345.size ≤ 9223372036854775807) = true := decide_eq_true c17
         try have c17b2 : (9223372036854775807 < (((a0_0 ++ (⟨#[61]⟩ : ByteArray)) ++ a0_1) ++ (⟨#[59, 32, 77, 97, 120, 45, 65, 103, 101, 61]⟩ : ByteArray)).size + t345.size) = False := eq_false (Nat.not_lt.2 c17)
         try (have c17b8 := c17b2; simp only [ByteArray.size_append, show ((⟨#[59, 32, 77, 97, 120, 45, 65, 103, 101, 61]⟩ : ByteArray) : ByteArray).size = 10 from rfl, show ((⟨#[61]⟩ : ByteArray) : ByteArray).size = 1 from rfl] at c17b8)
         by_cases c18 : ((((a0_0 ++ (⟨#[61]⟩ : ByteArray)) ++ a0_1) ++ (⟨#[59, 32, 77, 97, 120, 45, 65, 103, 101, 61]⟩ : ByteArray)) ++ t345).size + 43 ≤ 9223372036854775807
         ·rw [if_pos c18] at H
          have c18b0 := eq_true c18
          have c18b1 : decide (((((a0_0 ++ (⟨#[61]⟩ : ByteArray)) ++ a0_1) ++ (⟨#[59, 32, 77, 97, 120, 45, 65, 103, 101, 61]⟩ : ByteArray)) ++ t345).size + 43 ≤ 9223372036854775807) = true := decide_eq_true c18
          try have c18b2 : (9223372036854775807 < ((((a0_0 ++ (⟨#[61]⟩ : ByteArray)) ++ a0_1) ++ (⟨#[59, 32, 77, 97, 120, 45, 65, 103, 101, 61]⟩ : ByteArray)) ++ t345).size + 43) = False := eq_false (Nat.not_lt.2 c18)
          try (have c18b8 := c18b2; simp only [ByteArray.size_append, show ((⟨#[59, 32, 77, 97, 120, 45, 65, 103, 101, 61]⟩ : ByteArray) : ByteArray).size = 10 from rfl, show ((⟨#[61]⟩ : ByteArray) : ByteArray).size = 1 from rfl] at c18b8)
          simp only [Option.some.injEq, Prod.mk.injEq] at H
          obtain ⟨rfl, rfl⟩ := H
          go_enter Tryd.func23, Tryd.ntmps23
          try go_wp2_with (first | ((with_reducible refine gate_dst (N := 2) rfl ?_); refine box_event ?hg (N := 2) ?hd (cs := #[.string a0_0, .string a0_1]) (t := 38) ?hr ?_; (case hd => rfl); (case hg => rfl); (case hr => first | (go_simp; done) | (go_simp; rfl)); intro gb342 hg w19 hbox hb; have n0_ := Aside0.mk (below_step (by repeat (first | (with_reducible first | apply bA | apply bN | apply bD) | exact HB.out)) hb); have n1_ := Aside0.mk (hbox); have n2_ := Aside0.mk ((by rw [hg]; exact (below_size (by repeat (first | (with_reducible first | apply bA | apply bN | apply bD) | exact HB.out))) : w.heap.size ≤ gb342)); have n3_ := Aside0.mk ((by rw [hg]; exact (below_size (by repeat (first | (with_reducible first | apply bA | apply bN | apply bD) | exact HB.out))) : w.heap.size ≤ gb342)); clear HB; have HB := n0_; have BK342 := n1_; have GW342 := n2_; have GE342 := n3_; clear n0_ n1_ n2_ n3_; clear hb hbox hg; have hcz20_0 : w19.cell? ⟨gb342, 0, none⟩ = some (.string a0_0) := (blk_cell BK342.out 0).trans rfl; have hcz20_1 : w19.cell? ⟨gb342, 1, none⟩ = some (.string a0_1) := (blk_cell BK342.out 1).trans rfl; have hfz20_0 := blk_frozen BK342.out 0; have hfz20_1 := blk_frozen BK342.out 1) | ((with_reducible refine gate_callee (f := 38) rfl ?_); refine goesL_ (some 8) rfl rfl Tryd.func38 (by kernel_rfl) rfl #[.string a0_0] rfl (by (try simp only [List.map_toArray, List.map_cons, List.map_nil]); first | done | rfl | (simp only [List.length_drop, List.length_take]; rfl)) ?_; (with_reducible refine (wicketmanref08_Token.calls k a0_0 true _ A3.out).mono ?_); rintro e w' ⟨rfl, ⟨nd, rfl⟩⟩; refine ⟨_, rfl, ?_⟩) | (go_at_call 39; (with_reducible refine (wicketmanref11_Octets.calls k a0_1 true _ A5.out).mono ?_); rintro e w' ⟨rfl, ⟨nd, rfl⟩⟩))
          (try (rw [drewN_self w19]; generalize hq_ : World.drewN w19 _ = w19; have n0_ : Aside0 (w19.heap[gb342]? = some (.cells #[.string a0_0, .string a0_1] 38 (0, 0))) := ⟨by rw [← hq_]; exact (by (with_reducible repeat (first | refine blk_drewN ?_ _ | refine blk_drew ?_ | refine blk_alloc ?_ _)); exact BK342.out)⟩; have n1_ : Aside0 (Below w.heap.size w w19) := ⟨by rw [← hq_]; exact (by repeat (first | (with_reducible first | apply bA | apply bN | apply bD | refine below_set ?_ GE342.out) | exact HB.out))⟩; clear BK342 HB hq_; have BK342 := n0_; have HB := n1_; clear n0_ n1_))
          have n0_ := Aside0.mk (blk_drew BK342.out)
          have n1_ := Aside0.mk (below_drew1 HB.out)
          clear BK342
          clear HB
          have BK342 := n0_
          have HB := n1_
          clear n0_ n1_
          refine start_ (n := 13) (S := fun w' => w'.cell? ⟨gb342, 0, none⟩ = some (.string a0_0) ∧ w'.cell? ⟨gb342, 1, none⟩ = some (.string a0_1)) (ds := []) #[false, false, false, false, false, false, false, false, false, false, false, false, false] (by kernel_rfl) rfl rfl ⟨(blk_cell BK342.out 0).trans rfl, (blk_cell BK342.out 1).trans rfl⟩ (fun hHeld => ?_); refine with_tabW wicketmanref11_Set.tab3 wicketmanref11_Set.bits3 (fun HT_ HW_ => ?_)
          generalize w19.drew = w21 at BK342 HB hHeld ⊢
          refine pure_ (i := 0) (N := some 24) (v := ?_) (a' := ?_) #[true, false, false, false, false, false, false, false, false, false, false, false, false] rfl rfl (any_of HT_.out (by kernel_rfl)) (fun _ _ _ h => h) (Or.inl ⟨by rfl, ?_⟩) ?_ ?_
          rotate_left
          ·intro w'
           go_simp
           with_reducible rfl
          rotate_left
          ·simp only [Act.put, List.setIfInBounds_toArray, List.set_cons_zero, List.set_cons_succ, i64_w, i32_w]
           rfl
          refine pure_ (i := 3) (N := some 27) (v := ?_) (a' := ?_) #[true, false, false, true, false, false, false, false, false, false, false, false, false] rfl rfl (any_of HT_.out (by kernel_rfl)) (fun _ _ _ h => h) (Or.inl ⟨by rfl, ?_⟩) ?_ ?_
          rotate_left
          ·intro w'
           go_simp
           with_reducible rfl
          rotate_left
          ·simp only [Act.put, List.setIfInBounds_toArray, List.set_cons_zero, List.set_cons_succ, i64_w, i32_w]
           rfl
          refine pure_ (i := 7) (N := some 31) (v := ?_) (a' := ?_) #[true, false, false, true, false, false, false, true, false, false, false, false, false] rfl rfl (any_of HT_.out (by kernel_rfl)) (fun _ _ _ h => h) (Or.inl ⟨by rfl, ?_⟩) ?_ ?_
          rotate_left
          ·intro w'
           go_simp
           with_reducible rfl
          rotate_left
          ·simp only [Act.put, List.setIfInBounds_toArray, List.set_cons_zero, List.set_cons_succ, i64_w, i32_w]
           rfl
          refine take_ (i := 1) (N := some 25) (v := ?_) (a' := ?_) #[true, true, false, true, false, false, false, true, false, false, false, false, false] rfl rfl (take_ofW HT_.out HW_.out (by kernel_rfl)) (fun _ _ _ h => h) (Or.inl ⟨by rfl, ?_⟩) hHeld ?_ ?_
          rotate_left
          ·rintro w' ⟨s0, s1⟩
           go_simp
           with_reducible rfl
          rotate_left
          ·simp only [Act.put, List.setIfInBounds_toArray, List.set_cons_zero, List.set_cons_succ, i64_w, i32_w]
           rfl
          refine pure_ (i := 2) (N := some 26) (v := ?_) (a' := ?_) #[true, true, true, true, false, false, false, true, false, false, false, false, false] rfl rfl (any_of HT_.out (by kernel_rfl)) (fun _ _ _ h => h) (Or.inl ⟨by rfl, ?_⟩) ?_ ?_
          rotate_left
          ·intro w'
           go_simp
           with_reducible rfl
          rotate_left
          ·simp only [Act.put, List.setIfInBounds_toArray, List.set_cons_zero, List.set_cons_succ, i64_w, i32_w]
           rfl
          refine take_ (i := 4) (N := some 28) (v := ?_) (a' := ?_) #[true, true, true, true, true, false, false, true, false, false, false, false, false] rfl rfl (take_ofW HT_.out HW_.out (by kernel_rfl)) (fun _ _ _ h => h) (Or.inl ⟨by rfl, ?_⟩) hHeld ?_ ?_
          rotate_left
          ·rintro w' ⟨s0, s1⟩
           go_simp
           with_reducible rfl
          rotate_left
          ·simp only [Act.put, List.setIfInBounds_toArray, List.set_cons_zero, List.set_cons_succ, i64_w, i32_w]
           rfl
          refine pure_ (i := 5) (N := some 29) (v := ?_) (a' := ?_) #[true, true, true, true, true, true, false, true, false, false, false, false, false] rfl rfl (any_of HT_.out (by kernel_rfl)) (fun _ _ _ h => h) (Or.inl ⟨by rfl, ?_⟩) ?_ ?_
          rotate_left
          ·intro w'
           go_simp
           with_reducible rfl
          rotate_left
          ·simp only [Act.put, List.setIfInBounds_toArray, List.set_cons_zero, List.set_cons_succ, i64_w, i32_w]
           rfl
          refine pure_ (i := 6) (N := some 30) (v := ?_) (a' := ?_) #[true, true, true, true, true, true, true, true, false, false, false, false, false] rfl rfl (any_of HT_.out (by kernel_rfl)) (fun _ _ _ h => h) (Or.inl ⟨by rfl, ?_⟩) ?_ ?_
          rotate_left
          ·intro w'
           go_simp
           with_reducible rfl
          rotate_left
          ·simp only [Act.put, List.setIfInBounds_toArray, List.set_cons_zero, List.set_cons_succ, i64_w, i32_w]
           rfl
          refine one_ (i := 8) (N := some 32) #[true, true, true, true, true, true, true, true, true, false, false, false, false] rfl rfl (one_of HT_.out (by kernel_rfl)) (by decide) (fun K hK => ?_)
          refine goes_ Tryd.func34 (by kernel_rfl) rfl #[.int .i64 a1] (by rfl) rfl rfl (by (try simp only [List.map_toArray, List.map_cons, List.map_nil]); first | done | rfl | (simp only [List.length_drop, List.length_take]; rfl)) ?_
          with_reducible refine (strconv_Itoa.calls a1 t345 _ (by first | exact hS | (refine Sh.of_below hS ?_; repeat (first | (with_reducible first | apply bA | apply bN | apply bD) | exact HB.out | refine Below.setCell ?_ (Aside0.out (by assumption)) _)) | (refine Sh.of_below hS ?_; assumption)) A16.out).mono ?_
          rintro e w22 ⟨rfl, hb⟩
          refine ⟨_, rfl, ?_⟩
          have n0_ := Aside0.mk (blk_below (g := gb342) (o := .cells #[.string a0_0, .string a0_1] 38 (0, 0)) (by (with_reducible repeat (first | refine blk_drewN ?_ _ | refine blk_drew ?_ | refine blk_alloc ?_ _)); exact BK342.out) hb)
          have n1_ := Aside0.mk (below_step (by repeat (first | (with_reducible first | apply bA | apply bN | apply bD | refine below_set ?_ GE342.out) | exact HB.out)) hb)
          clear BK342
          clear HB
          have BK342 := n0_
          have HB := n1_
          clear n0_ n1_
          (try clear hb)
          (try clear hb2)
          (try clear hk)
          (try clear hi)
          refine hK.out _ _ ⟨(blk_cell BK342.out 0).trans rfl, (blk_cell BK342.out 1).trans rfl⟩ (fun hHeld => ?_)
          clear hK K
          refine norm_ (a' := ?_) ?_ ?_
          rotate_left
          ·show Act.put _ (some 32) _ = _
           simp only [Act.put, List.setIfInBounds_toArray, List.set_cons_zero, List.set_cons_succ, i64_w, i32_w]
           rfl
          refine pure_ (i := 9) (N := some 33) (v := ?_) (a' := ?_) #[true, true, true, true, true, true, true, true, true, true, false, false, false] rfl rfl (any_of HT_.out (by kernel_rfl)) (fun _ _ _ h => h) (Or.inl ⟨by rfl, ?_⟩) ?_ ?_
          rotate_left
          ·intro w'
           go_simp
           with_reducible rfl
          rotate_left
          ·simp only [Act.put, List.setIfInBounds_toArray, List.set_cons_zero, List.set_cons_succ, i64_w, i32_w]
           rfl
          refine pure_ (i := 10) (N := some 34) (v := ?_) (a' := ?_) #[true, true, true, true, true, true, true, true, true, true, true, false, false] rfl rfl (any_of HT_.out (by kernel_rfl)) (fun _ _ _ h => h) (Or.inl ⟨by rfl, ?_⟩) ?_ ?_
          rotate_left
          ·intro w'
           go_simp
           with_reducible rfl
          rotate_left
          ·simp only [Act.put, List.setIfInBounds_toArray, List.set_cons_zero, List.set_cons_succ, i64_w, i32_w]
           rfl
          refine pure_ (i := 11) (N := some 4) (v := ?_) (a' := ?_) #[true, true, true, true, true, true, true, true, true, true, true, true, false] rfl rfl (any_of HT_.out (by kernel_rfl)) (fun _ _ _ h => h) (Or.inl ⟨by rfl, ?_⟩) ?_ ?_
          rotate_left
          ·intro w'
           go_simp
           with_reducible rfl
          rotate_left
          ·simp only [Act.put, List.setIfInBounds_toArray, List.set_cons_zero, List.set_cons_succ, i64_w, i32_w]
           rfl
          refine pure_ (i := 12) (N := some 5) (v := ?_) (a' := ?_) #[true, true, true, true, true, true, true, true, true, true, true, true, true] rfl rfl (any_of HT_.out (by kernel_rfl)) (fun _ _ _ h => h) (Or.inl ⟨by rfl, ?_⟩) ?_ ?_
          rotate_left
          ·intro w'
           go_simp
           with_reducible rfl
          rotate_left
          ·simp only [Act.put, List.setIfInBounds_toArray, List.set_cons_zero, List.set_cons_succ, i64_w, i32_w]
           rfl
          refine done_ (done_of HT_.out (by kernel_rfl)) ?_
          try go_wp2
          go_ret2
          exact ⟨by first | rfl | (simp [errW_none, errW_some] <;> rfl) | (simp [*, errW_none, errW_some] <;> rfl), by repeat (first | (with_reducible first | apply bA | apply bN | apply bD | refine below_set ?_ GE342.out) | exact HB.out)⟩
         ·rw [if_neg c18] at H
          exact absurd H (by simp)
        ·rw [if_neg c17] at H
         exact absurd H (by simp)
       ·rw [if_neg c15] at H
        exact absurd H (by simp)
      ·rw [if_neg c14] at H
       exact absurd H (by simp)
     ·rw [if_neg c13] at H
      exact absurd H (by simp)
  ·replace c6 := Bool.eq_false_iff.mpr c6
   subst c6
   rw [if_neg (show ¬ (false = true) by decide)] at H
   simp only [Option.some.injEq, Prod.mk.injEq] at H
   obtain ⟨rfl, rfl⟩ := H
   go_enter Tryd.func23, Tryd.ntmps23
   go_wp2_with (first | ((with_reducible refine gate_dst (N := 2) rfl ?_); refine box_event ?hg (N := 2) ?hd (cs := #[.string a0_0, .string a0_1]) (t := 38) ?hr ?_; (case hd => rfl); (case hg => rfl); (case hr => first | (go_simp; done) | (go_simp; rfl)); intro gb342 hg w23 hbox hb; have n0_ := Aside0.mk (below_step (by repeat (first | (with_reducible first | apply bA | apply bN | apply bD) | exact HB.out)) hb); have n1_ := Aside0.mk (hbox); have n2_ := Aside0.mk ((by rw [hg]; exact (below_size (by repeat (first | (with_reducible first | apply bA | apply bN | apply bD) | exact HB.out))) : w.heap.size ≤ gb342)); have n3_ := Aside0.mk ((by rw [hg]; exact (below_size (by repeat (first | (with_reducible first | apply bA | apply bN | apply bD) | exact HB.out))) : w.heap.size ≤ gb342)); clear HB; have HB := n0_; have BK342 := n1_; have GW342 := n2_; have GE342 := n3_; clear n0_ n1_ n2_ n3_; clear hb hbox hg; have hcz24_0 : w23.cell? ⟨gb342, 0, none⟩ = some (.string a0_0) := (blk_cell BK342.out 0).trans rfl; have hcz24_1 : w23.cell? ⟨gb342, 1, none⟩ = some (.string a0_1) := (blk_cell BK342.out 1).trans rfl; have hfz24_0 := blk_frozen BK342.out 0; have hfz24_1 := blk_frozen BK342.out 1) | ((with_reducible refine gate_callee (f := 38) rfl ?_); refine goesL_ (some 8) rfl rfl Tryd.func38 (by kernel_rfl) rfl #[.string a0_0] rfl (by (try simp only [List.map_toArray, List.map_cons, List.map_nil]); first | done | rfl | (simp only [List.length_drop, List.length_take]; rfl)) ?_; (with_reducible refine (wicketmanref08_Token.calls k a0_0 true _ A3.out).mono ?_); rintro e w' ⟨rfl, ⟨nd, rfl⟩⟩; refine ⟨_, rfl, ?_⟩) | (go_at_call 39; (with_reducible refine (wicketmanref11_Octets.calls k a0_1 false _ A5.out).mono ?_); rintro e w' ⟨rfl, ⟨nd, rfl⟩⟩))
   go_ret2
   exact ⟨by first | rfl | (simp [errW_none, errW_some] <;> rfl) | (simp [*, errW_none, errW_some] <;> rfl), by repeat (first | (with_reducible first | apply bA | apply bN | apply bD | refine below_set ?_ GE342.out) | exact HB.out)⟩
 ·replace c4 := Bool.eq_false_iff.mpr c4
  subst c4
  rw [if_neg (show ¬ (false = true) by decide)] at H
  simp only [Option.some.injEq, Prod.mk.injEq] at H
  obtain ⟨rfl, rfl⟩ := H
  go_enter Tryd.func23, Tryd.ntmps23
  go_wp2_with (first | ((with_reducible refine gate_dst (N := 2) rfl ?_); refine box_event ?hg (N := 2) ?hd (cs := #[.string a0_0, .string a0_1]) (t := 38) ?hr ?_; (case hd => rfl); (case hg => rfl); (case hr => first | (go_simp; done) | (go_simp; rfl)); intro gb342 hg w25 hbox hb; have n0_ := Aside0.mk (below_step (by repeat (first | (with_reducible first | apply bA | apply bN | apply bD) | exact HB.out)) hb); have n1_ := Aside0.mk (hbox); have n2_ := Aside0.mk ((by rw [hg]; exact (below_size (by repeat (first | (with_reducible first | apply bA | apply bN | apply bD) | exact HB.out))) : w.heap.size ≤ gb342)); have n3_ := Aside0.mk ((by rw [hg]; exact (below_size (by repeat (first | (with_reducible first | apply bA | apply bN | apply bD) | exact HB.out))) : w.heap.size ≤ gb342)); clear HB; have HB := n0_; have BK342 := n1_; have GW342 := n2_; have GE342 := n3_; clear n0_ n1_ n2_ n3_; clear hb hbox hg; have hcz26_0 : w25.cell? ⟨gb342, 0, none⟩ = some (.string a0_0) := (blk_cell BK342.out 0).trans rfl; have hcz26_1 : w25.cell? ⟨gb342, 1, none⟩ = some (.string a0_1) := (blk_cell BK342.out 1).trans rfl; have hfz26_0 := blk_frozen BK342.out 0; have hfz26_1 := blk_frozen BK342.out 1) | ((with_reducible refine gate_callee (f := 38) rfl ?_); refine goesL_ (some 8) rfl rfl Tryd.func38 (by kernel_rfl) rfl #[.string a0_0] rfl (by (try simp only [List.map_toArray, List.map_cons, List.map_nil]); first | done | rfl | (simp only [List.length_drop, List.length_take]; rfl)) ?_; (with_reducible refine (wicketmanref08_Token.calls k a0_0 false _ A3.out).mono ?_); rintro e w' ⟨rfl, ⟨nd, rfl⟩⟩; refine ⟨_, rfl, ?_⟩))
  go_ret2
  exact ⟨by first | rfl | (simp [errW_none, errW_some] <;> rfl) | (simp [*, errW_none, errW_some] <;> rfl), by repeat (first | (with_reducible first | apply bA | apply bN | apply bD | refine below_set ?_ GE342.out) | exact HB.out)⟩

/-! ### wicketmanlaw11_sets: function 24 -/
def wicketmanlaw11_sets.f (k : Nat) (a0_0 : ByteArray) (a0_1 : ByteArray) (a1 : Int) : Option (Bool) := (cookie_Set.f a0_0 a0_1 a1).bind fun bt347 => ((wicketmanref11_Set.f k a0_0 a0_1 a1).bind fun bt349 => (if bt347.1.toList = bt349.1.toList then (some ((wrap64 (bt347.2)) == bt349.2)) else (some false)))
theorem wicketmanlaw11_sets.mono : ∀ a0 a1 a2 k, LeO (wicketmanlaw11_sets.f k a0 a1 a2) (wicketmanlaw11_sets.f (k + 1) a0 a1 a2) := by
 intro a0 a1 a2 k
 unfold wicketmanlaw11_sets.f
 repeat' first
   | (with_reducible exact wicketmanref11_Set.mono _ _ _ _)
   | (with_reducible exact LeO.refl _)
   | (with_reducible exact LeO.none _)
   | (with_reducible refine LeO.ite ?_ ?_)
   | (with_reducible refine LeO.bind ?_ (fun _ => ?_))
   | exact wicketmanref11_Set.mono _ _ _ _
   | exact LeO.none _
   | refine LeO.ite ?_ ?_
   | refine LeO.bind ?_ (fun _ => ?_)
set_option maxHeartbeats 8000000 in
set_option maxRecDepth 100000 in
theorem wicketmanlaw11_sets.calls (k : Nat) (a0_0 : ByteArray) (a0_1 : ByteArray) (a1 : Int) (r : Bool) (w : World) (hS : Sh w) (h : wicketmanlaw11_sets.f k a0_0 a0_1 a1 = some r) :
  Calls Tryd.prog 24 #[.agg #[.string a0_0, .string a0_1], .int .i64 a1] w fun e w' => e = .returned (.bool r) ∧ Below w.heap.size w w' := by
 have hu38 := Tryd.underlying38
 have HB := Aside0.mk (Below.refl w.heap.size w)
 have H : ((cookie_Set.f a0_0 a0_1 a1).bind fun bt347 => ((wicketmanref11_Set.f k a0_0 a0_1 a1).bind fun bt349 => (if bt347.1.toList = bt349.1.toList then (some ((wrap64 (bt347.2)) == bt349.2)) else (some false)))) = some r := h
 clear h
 replace H := Option.bind_eq_some_iff.mp H
 obtain ⟨⟨t347, t348⟩, A30, H⟩ := H
 try dsimp only at H
 have A3 := Aside0.mk A30
 clear A30
 replace H := Option.bind_eq_some_iff.mp H
 obtain ⟨⟨t349, t350⟩, A40, H⟩ := H
 try dsimp only at H
 have A4 := Aside0.mk A40
 clear A40
 by_cases c5 : t347.toList = t349.toList
 ·rw [if_pos c5] at H
  have c5b0 : (t347.toList == t349.toList) = true := beq_iff_eq.mpr c5
  have c5b1 : (t347.toList != t349.toList) = false := bne_eq_false_iff_eq.mpr c5
  clear c5
  obtain rfl := Option.some.inj H
  go_enter Tryd.func24, Tryd.ntmps24
  go_wp2_with (first | ((with_reducible refine gate_dst (N := 2) rfl ?_); refine box_event ?hg (N := 2) ?hd (cs := #[.string a0_0, .string a0_1]) (t := 38) ?hr ?_; (case hd => rfl); (case hg => rfl); (case hr => first | (go_simp; done) | (go_simp; rfl)); intro gb346 hg w6 hbox hb; have n0_ := Aside0.mk (below_step (by repeat (first | (with_reducible first | apply bA | apply bN | apply bD) | exact HB.out)) hb); have n1_ := Aside0.mk (hbox); have n2_ := Aside0.mk ((by rw [hg]; exact (below_size (by repeat (first | (with_reducible first | apply bA | apply bN | apply bD) | exact HB.out))) : w.heap.size ≤ gb346)); have n3_ := Aside0.mk ((by rw [hg]; exact (below_size (by repeat (first | (with_reducible first | apply bA | apply bN | apply bD) | exact HB.out))) : w.heap.size ≤ gb346)); clear HB; have HB := n0_; have BK346 := n1_; have GW346 := n2_; have GE346 := n3_; clear n0_ n1_ n2_ n3_; clear hb hbox hg; have hcz7_0 : w6.cell? ⟨gb346, 0, none⟩ = some (.string a0_0) := (blk_cell BK346.out 0).trans rfl; have hcz7_1 : w6.cell? ⟨gb346, 1, none⟩ = some (.string a0_1) := (blk_cell BK346.out 1).trans rfl; have hfz7_0 := blk_frozen BK346.out 0; have hfz7_1 := blk_frozen BK346.out 1) | ((with_reducible refine gate_callee (f := 18) rfl ?_); refine goesL_ (some 12) rfl rfl Tryd.func18 (by kernel_rfl) rfl #[.agg #[.string a0_0, .string a0_1], .int .i64 a1] rfl (by (try simp only [List.map_toArray, List.map_cons, List.map_nil]); first | done | rfl | (simp only [List.length_drop, List.length_take]; rfl)) ?_; (with_reducible refine (cookie_Set.calls a0_0 a0_1 a1 t347 t348 _ (by first | exact hS | (refine Sh.of_below hS ?_; repeat (first | (with_reducible first | apply bA | apply bN | apply bD) | exact HB.out | refine Below.setCell ?_ (Aside0.out (by assumption)) _)) | (refine Sh.of_below hS ?_; assumption)) A3.out).mono ?_); rintro e w8 ⟨rfl, hb⟩; refine ⟨_, rfl, ?_⟩; have n0_ := Aside0.mk (blk_below (g := gb346) (o := .cells #[.string a0_0, .string a0_1] 38 (0, 0)) (by (with_reducible repeat (first | refine blk_drewN ?_ _ | refine blk_drew ?_ | refine blk_alloc ?_ _)); exact BK346.out) hb); have n1_ := Aside0.mk (below_step (by repeat (first | (with_reducible first | apply bA | apply bN | apply bD | refine below_set ?_ GE346.out) | exact HB.out)) hb); clear BK346; clear HB; have BK346 := n0_; have HB := n1_; clear n0_ n1_; (try clear hb); (try clear hb2); (try clear hk); (try clear hi); have hcz9_0 : w8.cell? ⟨gb346, 0, none⟩ = some (.string a0_0) := (blk_cell BK346.out 0).trans rfl; have hcz9_1 : w8.cell? ⟨gb346, 1, none⟩ = some (.string a0_1) := (blk_cell BK346.out 1).trans rfl; have hfz9_0 := blk_frozen BK346.out 0; have hfz9_1 := blk_frozen BK346.out 1) | ((with_reducible refine gate_callee (f := 23) rfl ?_); refine goesL_ (some 18) rfl rfl Tryd.func23 (by kernel_rfl) rfl #[.agg #[.string a0_0, .string a0_1], .int .i64 a1] rfl (by (try simp only [List.map_toArray, List.map_cons, List.map_nil]); first | done | rfl | (simp only [List.length_drop, List.length_take]; rfl)) ?_; (with_reducible refine (wicketmanref11_Set.calls k a0_0 a0_1 a1 t349 t350 _ (by first | exact hS | (refine Sh.of_below hS ?_; repeat (first | (with_reducible first | apply bA | apply bN | apply bD) | exact HB.out | refine Below.setCell ?_ (Aside0.out (by assumption)) _)) | (refine Sh.of_below hS ?_; assumption)) A4.out).mono ?_); rintro e w10 ⟨rfl, hb⟩; refine ⟨_, rfl, ?_⟩; have n0_ := Aside0.mk (blk_below (g := gb346) (o := .cells #[.string a0_0, .string a0_1] 38 (0, 0)) (by (with_reducible repeat (first | refine blk_drewN ?_ _ | refine blk_drew ?_ | refine blk_alloc ?_ _)); exact BK346.out) hb); have n1_ := Aside0.mk (below_step (by repeat (first | (with_reducible first | apply bA | apply bN | apply bD | refine below_set ?_ GE346.out) | exact HB.out)) hb); clear BK346; clear HB; have BK346 := n0_; have HB := n1_; clear n0_ n1_; (try clear hb); (try clear hb2); (try clear hk); (try clear hi)))
  go_ret
  exact ⟨by first | rfl | (simp [errW_none, errW_some] <;> rfl) | (simp [*, errW_none, errW_some] <;> rfl), by repeat (first | (with_reducible first | apply bA | apply bN | apply bD | refine below_set ?_ GE346.out) | exact HB.out)⟩
 ·rw [if_neg c5] at H
  have c5b0 : (t347.toList == t349.toList) = false := beq_eq_false_iff_ne.mpr c5
  have c5b1 : (t347.toList != t349.toList) = true := bne_iff_ne.mpr c5
  obtain rfl := Option.some.inj H
  go_enter Tryd.func24, Tryd.ntmps24
  go_wp2_with (first | ((with_reducible refine gate_dst (N := 2) rfl ?_); refine box_event ?hg (N := 2) ?hd (cs := #[.string a0_0, .string a0_1]) (t := 38) ?hr ?_; (case hd => rfl); (case hg => rfl); (case hr => first | (go_simp; done) | (go_simp; rfl)); intro gb346 hg w11 hbox hb; have n0_ := Aside0.mk (below_step (by repeat (first | (with_reducible first | apply bA | apply bN | apply bD) | exact HB.out)) hb); have n1_ := Aside0.mk (hbox); have n2_ := Aside0.mk ((by rw [hg]; exact (below_size (by repeat (first | (with_reducible first | apply bA | apply bN | apply bD) | exact HB.out))) : w.heap.size ≤ gb346)); have n3_ := Aside0.mk ((by rw [hg]; exact (below_size (by repeat (first | (with_reducible first | apply bA | apply bN | apply bD) | exact HB.out))) : w.heap.size ≤ gb346)); clear HB; have HB := n0_; have BK346 := n1_; have GW346 := n2_; have GE346 := n3_; clear n0_ n1_ n2_ n3_; clear hb hbox hg; have hcz12_0 : w11.cell? ⟨gb346, 0, none⟩ = some (.string a0_0) := (blk_cell BK346.out 0).trans rfl; have hcz12_1 : w11.cell? ⟨gb346, 1, none⟩ = some (.string a0_1) := (blk_cell BK346.out 1).trans rfl; have hfz12_0 := blk_frozen BK346.out 0; have hfz12_1 := blk_frozen BK346.out 1) | ((with_reducible refine gate_callee (f := 18) rfl ?_); refine goesL_ (some 12) rfl rfl Tryd.func18 (by kernel_rfl) rfl #[.agg #[.string a0_0, .string a0_1], .int .i64 a1] rfl (by (try simp only [List.map_toArray, List.map_cons, List.map_nil]); first | done | rfl | (simp only [List.length_drop, List.length_take]; rfl)) ?_; (with_reducible refine (cookie_Set.calls a0_0 a0_1 a1 t347 t348 _ (by first | exact hS | (refine Sh.of_below hS ?_; repeat (first | (with_reducible first | apply bA | apply bN | apply bD) | exact HB.out | refine Below.setCell ?_ (Aside0.out (by assumption)) _)) | (refine Sh.of_below hS ?_; assumption)) A3.out).mono ?_); rintro e w13 ⟨rfl, hb⟩; refine ⟨_, rfl, ?_⟩; have n0_ := Aside0.mk (blk_below (g := gb346) (o := .cells #[.string a0_0, .string a0_1] 38 (0, 0)) (by (with_reducible repeat (first | refine blk_drewN ?_ _ | refine blk_drew ?_ | refine blk_alloc ?_ _)); exact BK346.out) hb); have n1_ := Aside0.mk (below_step (by repeat (first | (with_reducible first | apply bA | apply bN | apply bD | refine below_set ?_ GE346.out) | exact HB.out)) hb); clear BK346; clear HB; have BK346 := n0_; have HB := n1_; clear n0_ n1_; (try clear hb); (try clear hb2); (try clear hk); (try clear hi); have hcz14_0 : w13.cell? ⟨gb346, 0, none⟩ = some (.string a0_0) := (blk_cell BK346.out 0).trans rfl; have hcz14_1 : w13.cell? ⟨gb346, 1, none⟩ = some (.string a0_1) := (blk_cell BK346.out 1).trans rfl; have hfz14_0 := blk_frozen BK346.out 0; have hfz14_1 := blk_frozen BK346.out 1) | ((with_reducible refine gate_callee (f := 23) rfl ?_); refine goesL_ (some 18) rfl rfl Tryd.func23 (by kernel_rfl) rfl #[.agg #[.string a0_0, .string a0_1], .int .i64 a1] rfl (by (try simp only [List.map_toArray, List.map_cons, List.map_nil]); first | done | rfl | (simp only [List.length_drop, List.length_take]; rfl)) ?_; (with_reducible refine (wicketmanref11_Set.calls k a0_0 a0_1 a1 t349 t350 _ (by first | exact hS | (refine Sh.of_below hS ?_; repeat (first | (with_reducible first | apply bA | apply bN | apply bD) | exact HB.out | refine Below.setCell ?_ (Aside0.out (by assumption)) _)) | (refine Sh.of_below hS ?_; assumption)) A4.out).mono ?_); rintro e w15 ⟨rfl, hb⟩; refine ⟨_, rfl, ?_⟩; have n0_ := Aside0.mk (blk_below (g := gb346) (o := .cells #[.string a0_0, .string a0_1] 38 (0, 0)) (by (with_reducible repeat (first | refine blk_drewN ?_ _ | refine blk_drew ?_ | refine blk_alloc ?_ _)); exact BK346.out) hb); have n1_ := Aside0.mk (below_step (by repeat (first | (with_reducible first | apply bA | apply bN | apply bD | refine below_set ?_ GE346.out) | exact HB.out)) hb); clear BK346; clear HB; have BK346 := n0_; have HB := n1_; clear n0_ n1_; (try clear hb); (try clear hb2); (try clear hk); (try clear hi)))
  go_ret
  exact ⟨by first | rfl | (simp [errW_none, errW_some] <;> rfl) | (simp [*, errW_none, errW_some] <;> rfl), by repeat (first | (with_reducible first | apply bA | apply bN | apply bD | refine below_set ?_ GE346.out) | exact HB.out)⟩

/-! ### wicketmanref01_Decimal: function 53 -/
mutual
def wicketmanref01_Decimal.j0 : Nat → ByteArray → Int → Bool → Option (Int × Bool)
 | 0, _, _, _ => none
 | k + 1, x0, x1, x15 => if x15 = true then (some (0, false)) else (wicketmanref01_Decimal.l0 k x0 x1 0 0)
def wicketmanref01_Decimal.l0 : Nat → ByteArray → Int → Int → Int → Option (Int × Bool)
 | 0, _, _, _, _ => none
 | k + 1, x0, x1, x6, x7 => if x7 < (x0.size : Int) then (if 0 ≤ x7 then (if (bt x0 x7) < 48 then (some (0, false)) else (if (bt x0 x7) > 57 then (some (0, false)) else (wicketmanref01_Decimal.l0 k x0 x1 (wrap64 ((wrap64 (10 * x6)) + (((bt x0 x7) - 48) % 256))) (wrap64 (x7 + 1))))) else (none)) else (if x6 > x1 then (some (0, false)) else (some (x6, true)))
end
def wicketmanref01_Decimal.f (k : Nat) (a0 : ByteArray) (a1 : Int) : Option (Int × Bool) := if (a0.size : Int) < 1 then (wicketmanref01_Decimal.j0 k a0 a1 true) else (wicketmanref01_Decimal.j0 k a0 a1 (decide ((a0.size : Int) > 9)))
theorem wicketmanref01_Decimal.mono_l : ∀ k, (∀ y0 y1 y2, LeO (wicketmanref01_Decimal.j0 k y0 y1 y2) (wicketmanref01_Decimal.j0 (k + 1) y0 y1 y2)) ∧ (∀ y0 y1 y2 y3, LeO (wicketmanref01_Decimal.l0 k y0 y1 y2 y3) (wicketmanref01_Decimal.l0 (k + 1) y0 y1 y2 y3))
 | 0 => ⟨fun _ _ _ r h => by simp [wicketmanref01_Decimal.j0] at h, fun _ _ _ _ r h => by simp [wicketmanref01_Decimal.l0] at h⟩
 | k + 1 => by
  obtain ⟨ih0, ih1⟩ := wicketmanref01_Decimal.mono_l k
  refine ⟨?_, ?_⟩
  ·intro y0 y1 y2
   unfold wicketmanref01_Decimal.j0
   repeat' first
   | (with_reducible exact ih0 _ _ _)
   | (with_reducible exact ih1 _ _ _ _)
   | (with_reducible exact LeO.refl _)
   | (with_reducible exact LeO.none _)
   | (with_reducible refine LeO.ite ?_ ?_)
   | (with_reducible refine LeO.bind ?_ (fun _ => ?_))
   | exact ih0 _ _ _
   | exact ih1 _ _ _ _
   | exact LeO.none _
   | refine LeO.ite ?_ ?_
   | refine LeO.bind ?_ (fun _ => ?_)
  ·intro y0 y1 y2 y3
   unfold wicketmanref01_Decimal.l0
   repeat' first
   | (with_reducible exact ih0 _ _ _)
   | (with_reducible exact ih1 _ _ _ _)
   | (with_reducible exact LeO.refl _)
   | (with_reducible exact LeO.none _)
   | (with_reducible refine LeO.ite ?_ ?_)
   | (with_reducible refine LeO.bind ?_ (fun _ => ?_))
   | exact ih0 _ _ _
   | exact ih1 _ _ _ _
   | exact LeO.none _
   | refine LeO.ite ?_ ?_
   | refine LeO.bind ?_ (fun _ => ?_)
theorem wicketmanref01_Decimal.mono : ∀ a0 a1 k, LeO (wicketmanref01_Decimal.f k a0 a1) (wicketmanref01_Decimal.f (k + 1) a0 a1) := by
 intro a0 a1 k
 obtain ⟨ih0, ih1⟩ := wicketmanref01_Decimal.mono_l k
 unfold wicketmanref01_Decimal.f
 repeat' first
   | (with_reducible exact ih0 _ _ _)
   | (with_reducible exact ih1 _ _ _ _)
   | (with_reducible exact LeO.refl _)
   | (with_reducible exact LeO.none _)
   | (with_reducible refine LeO.ite ?_ ?_)
   | (with_reducible refine LeO.bind ?_ (fun _ => ?_))
   | exact ih0 _ _ _
   | exact ih1 _ _ _ _
   | exact LeO.none _
   | refine LeO.ite ?_ ?_
   | refine LeO.bind ?_ (fun _ => ?_)
set_option maxHeartbeats 8000000 in
set_option maxRecDepth 100000 in
theorem wicketmanref01_Decimal.calls (k : Nat) (a0 : ByteArray) (a1 : Int) (r1 : Int) (r2 : Bool) (w : World) (h : wicketmanref01_Decimal.f k a0 a1 = some (r1, r2)) :
  Calls Tryd.prog 53 #[.string a0, .int .i64 a1] w fun e w' => e = .returned (.tuple #[.int .i64 r1, .bool r2]) ∧ Drawn0 w w' := by
 have H : (if (a0.size : Int) < 1 then (wicketmanref01_Decimal.j0 k a0 a1 true) else (wicketmanref01_Decimal.j0 k a0 a1 (decide ((a0.size : Int) > 9)))) = some (r1, r2) := h
 clear h
 have HC3 := Aside0.mk H
 clear H
 go_enter Tryd.func53, Tryd.ntmps53
 go_upto_region 1 with (fail)
 go_cut [15] (fun v15 wc => ∃ (kq : Nat) (x15_2 : Bool), v15 = .bool x15_2 ∧ Aside0 (wicketmanref01_Decimal.j0 kq a0 a1 x15_2 = some (r1, r2)) ∧ Aside0 (kq ≤ k) ∧ Drawn0 w wc)
 case first =>
  have H := HC3.out
  clear HC3
  by_cases c4 : (a0.size : Int) < 1
  ·rw [if_pos c4] at H
   have c4b0 : decide ((a0.size : Int) < 1) = true := decide_eq_true c4
   have c4b1 : decide (a0.size < 1) = true := decide_eq_true (by omega)
   clear c4
   (first | rw [c4b0] | (simp only [i64_w, i32_w]; rw [c4b0]) | skip)
   have H' := Aside0.mk H
   clear H
   go_wp2
   go_meet
   case rel => exact ⟨_, (true), (by first | rfl | (simp; done) | (simp [*]; done)), H', ⟨by first | omega | exact Nat.le_refl _⟩, by repeat (first | exact Drawn0.refl _ | apply Drawn0.step)⟩
  ·rw [if_neg c4] at H
   have c4b0 : decide ((a0.size : Int) < 1) = false := decide_eq_false c4
   have c4b1 : decide (a0.size < 1) = false := decide_eq_false (by omega)
   clear c4
   (first | rw [c4b0] | (simp only [i64_w, i32_w]; rw [c4b0]) | skip)
   have H' := Aside0.mk H
   clear H
   go_wp2
   go_meet
   case rel => exact ⟨_, (decide ((a0.size : Int) > 9)), (by first | rfl | (simp; done) | (simp [*]; done)), H', ⟨by first | omega | exact Nat.le_refl _⟩, by repeat (first | exact Drawn0.refl _ | apply Drawn0.step)⟩
 case rest =>
  clear HC3
  try clear p2
  try clear c4
  try clear c4b0
  try clear c4b1
  obtain ⟨kq, x15_2, rfl, HA, HJ2, ⟨mc2, rfl⟩⟩ := hcut
  cases kq with
  | zero => exact absurd HA.out (by simp [wicketmanref01_Decimal.j0])
  | succ kj2 =>
   have H := HA.out
   clear HA
   simp only [wicketmanref01_Decimal.j0] at H
   by_cases c5 : x15_2 = true
   ·subst c5
    rw [if_pos rfl] at H
    simp only [Option.some.injEq, Prod.mk.injEq] at H
    obtain ⟨rfl, rfl⟩ := H
    go_wp2
    go_ret2
    exact ⟨by first | rfl | (simp; done) | (simp [*]; done), by repeat (first | exact Drawn0.refl _ | apply Drawn0.step)⟩
   ·replace c5 := Bool.eq_false_iff.mpr c5
    subst c5
    rw [if_neg (show ¬ (false = true) by decide)] at H
    have H' := Aside0.mk H
    clear H
    go_wp2
    go_loopg [6, 7] kj2 (fun kq v6 v7 w' => ∃ (x6_2 : Int) (x7_2 : Int), v6 = .int .i64 x6_2 ∧ v7 = .int .i64 x7_2 ∧ Aside0 (wicketmanref01_Decimal.l0 kq a0 a1 x6_2 x7_2 = some (r1, r2)) ∧ Aside0 (kq ≤ kj2) ∧ Drawn0 w w')
    case atStart => exact ⟨(0), (0), (by first | rfl | (simp; done) | (simp [*]; done)), (by first | rfl | (simp; done) | (simp [*]; done)), H', ⟨Nat.le_refl _⟩, by repeat (first | exact Drawn0.refl _ | apply Drawn0.step)⟩
    case round =>
     clear H'
     try clear c2
     try clear p2
     try clear c4
     try clear c4b0
     try clear c4b1
     try clear c5
     try clear p2
     obtain ⟨x6_2, x7_2, rfl, rfl, HA, HK2, ⟨m2, rfl⟩⟩ := hrel
     cases gk with
     | zero => exact absurd HA.out (by simp [wicketmanref01_Decimal.l0])
     | succ k2 =>
      have H := HA.out
      clear HA
      simp only [wicketmanref01_Decimal.l0] at H
      by_cases c6 : x7_2 < (a0.size : Int)
      ·rw [if_pos c6] at H
       have c6b0 : decide (x7_2 < (a0.size : Int)) = true := decide_eq_true c6
       clear c6
       by_cases c7 : 0 ≤ x7_2
       ·rw [if_pos c7] at H
        have c7b0 : decide (0 ≤ x7_2) = true := decide_eq_true c7
        clear c7
        by_cases c9 : (bt a0 x7_2) < 48
        ·rw [if_pos c9] at H
         have c9b0 : decide ((bt a0 x7_2) < 48) = true := decide_eq_true c9
         clear c9
         simp only [Option.some.injEq, Prod.mk.injEq] at H
         obtain ⟨rfl, rfl⟩ := H
         have p8 : 0 ≤ (x7_2 : Int) := of_decide_eq_true (by first | (with_reducible assumption) | assumption)
         have q8 : x7_2 < (a0.size : Int) := of_decide_eq_true (by first | (with_reducible assumption) | assumption)
         have hx8 := bt_at a0 x7_2
         replace p8 := eq_true p8
         replace q8 := eq_true q8
         go_wp2
         go_ret2
         exact ⟨by first | rfl | (simp; done) | (simp [*]; done), by repeat (first | exact Drawn0.refl _ | apply Drawn0.step)⟩
        ·rw [if_neg c9] at H
         have c9b0 : decide ((bt a0 x7_2) < 48) = false := decide_eq_false c9
         clear c9
         by_cases c11 : (bt a0 x7_2) > 57
         ·rw [if_pos c11] at H
          have c11b0 : decide (57 < (bt a0 x7_2)) = true := decide_eq_true c11
          clear c11
          simp only [Option.some.injEq, Prod.mk.injEq] at H
          obtain ⟨rfl, rfl⟩ := H
          have p8 : 0 ≤ (x7_2 : Int) := of_decide_eq_true (by first | (with_reducible assumption) | assumption)
          have q8 : x7_2 < (a0.size : Int) := of_decide_eq_true (by first | (with_reducible assumption) | assumption)
          have hx8 := bt_at a0 x7_2
          replace p8 := eq_true p8
          replace q8 := eq_true q8
          have p10 : 0 ≤ (x7_2 : Int) := of_decide_eq_true (by first | (with_reducible assumption) | assumption)
          have q10 : x7_2 < (a0.size : Int) := of_decide_eq_true (by first | (with_reducible assumption) | assumption)
          have hx10 := bt_at a0 x7_2
          replace p10 := eq_true p10
          replace q10 := eq_true q10
          go_wp2
          go_ret2
          exact ⟨by first | rfl | (simp; done) | (simp [*]; done), by repeat (first | exact Drawn0.refl _ | apply Drawn0.step)⟩
         ·rw [if_neg c11] at H
          have c11b0 : decide (57 < (bt a0 x7_2)) = false := decide_eq_false c11
          clear c11
          have H' := Aside0.mk H
          clear H
          have p8 : 0 ≤ (x7_2 : Int) := of_decide_eq_true (by first | (with_reducible assumption) | assumption)
          have q8 : x7_2 < (a0.size : Int) := of_decide_eq_true (by first | (with_reducible assumption) | assumption)
          have hx8 := bt_at a0 x7_2
          replace p8 := eq_true p8
          replace q8 := eq_true q8
          have p10 : 0 ≤ (x7_2 : Int) := of_decide_eq_true (by first | (with_reducible assumption) | assumption)
          have q10 : x7_2 < (a0.size : Int) := of_decide_eq_true (by first | (with_reducible assumption) | assumption)
          have hx10 := bt_at a0 x7_2
          replace p10 := eq_true p10
          replace q10 := eq_true q10
          have p12 : 0 ≤ (x7_2 : Int) := of_decide_eq_true (by first | (with_reducible assumption) | assumption)
          have q12 : x7_2 < (a0.size : Int) := of_decide_eq_true (by first | (with_reducible assumption) | assumption)
          have hx12 := bt_at a0 x7_2
          replace p12 := eq_true p12
          replace q12 := eq_true q12
          go_wp2
          go_roundg k2
          case measure => have := HJ2.out; have := HK2.out; omega
          case rel => exact ⟨(wrap64 ((wrap64 (10 * x6_2)) + (((bt a0 x7_2) - 48) % 256))), (wrap64 (x7_2 + 1)), (by first | rfl | (simp; done) | (simp [*]; done)), (by first | rfl | (simp; done) | (simp [*]; done)), H', ⟨by have := HJ2.out; have := HK2.out; omega⟩, by repeat (first | exact Drawn0.refl _ | apply Drawn0.step)⟩
       ·rw [if_neg c7] at H
        exact absurd H (by simp)
      ·rw [if_neg c6] at H
       have c6b0 : decide (x7_2 < (a0.size : Int)) = false := decide_eq_false c6
       clear c6
       by_cases c13 : x6_2 > a1
       ·rw [if_pos c13] at H
        have c13b0 : decide (a1 < x6_2) = true := decide_eq_true c13
        clear c13
        simp only [Option.some.injEq, Prod.mk.injEq] at H
        obtain ⟨rfl, rfl⟩ := H
        go_wp2
        go_ret2
        exact ⟨by first | rfl | (simp; done) | (simp [*]; done), by repeat (first | exact Drawn0.refl _ | apply Drawn0.step)⟩
       ·rw [if_neg c13] at H
        have c13b0 : decide (a1 < x6_2) = false := decide_eq_false c13
        clear c13
        simp only [Option.some.injEq, Prod.mk.injEq] at H
        obtain ⟨rfl, rfl⟩ := H
        go_wp2
        go_ret2
        exact ⟨by first | rfl | (simp; done) | (simp [*]; done), by repeat (first | exact Drawn0.refl _ | apply Drawn0.step)⟩

end Go.Proofs.YtipbgnhhmgljnaaDoor.Pall
