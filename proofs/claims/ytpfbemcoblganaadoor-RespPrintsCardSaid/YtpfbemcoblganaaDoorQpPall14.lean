import Derived.Test.YtpfbemcoblganaaDoorQpPall0
namespace Go.Proofs.YtpfbemcoblganaaDoor.Pall
open Go.RowKit Go.Proofs.YtpfbemcoblganaaDoorW.PrintWords Go.Proofs.YtpfbemcoblganaaDoorW.PrintLast
set_option linter.unusedVariables false
set_option linter.unusedSimpArgs false
def wicketmanlaw08_Line.l0 : Nat → List Int → List ByteArray → ByteArray → Int → Option (ByteArray)
 | 0, _, _, _, _ => none
 | k + 1, x0, x3, x4, x5 => if x5 < (x0.length : Int) then (if x5 < 30 then (if 0 ≤ x5 then (if (x3.length : Int) = 0 then (none) else (if 0 ≤ (Int.tmod (wrap64 (rd x0 x5)) (x3.length : Int)) then (if (Int.tmod (wrap64 (rd x0 x5)) (x3.length : Int)) < (x3.length : Int) then (if x4.size + (rdOf ByteArray.empty x3 (Int.tmod (wrap64 (rd x0 x5)) (x3.length : Int))).size ≤ 9223372036854775807 then (wicketmanlaw08_Line.l0 k x0 x3 (x4 ++ (rdOf ByteArray.empty x3 (Int.tmod (wrap64 (rd x0 x5)) (x3.length : Int)))) (wrap64 (x5 + 1))) else (none)) else (none)) else (none))) else (none)) else (some x4)) else (some x4)
def wicketmanlaw08_Line.f (k : Nat) (l0 : List Int) : Option (ByteArray) := wicketmanlaw08_Line.l0 k l0 (([(⟨#[72, 111, 115, 116]⟩ : ByteArray), (⟨#[67, 111, 111, 107, 105, 101]⟩ : ByteArray), (⟨#[58]⟩ : ByteArray), (⟨#[58, 32]⟩ : ByteArray), (⟨#[32]⟩ : ByteArray), (⟨#[9]⟩ : ByteArray), (⟨#[97]⟩ : ByteArray), (⟨#[67, 111, 110, 116, 101, 110, 116, 45, 76, 101, 110, 103, 116, 104]⟩ : ByteArray), (⟨#[53]⟩ : ByteArray), (⟨#[95, 95, 72, 111, 115, 116, 45, 105, 100, 61]⟩ : ByteArray), (⟨#[59, 32]⟩ : ByteArray), (⟨#[0]⟩ : ByteArray), (⟨#[127]⟩ : ByteArray), (⟨#[233]⟩ : ByteArray), (⟨#[40]⟩ : ByteArray), (⟨#[120, 61, 49]⟩ : ByteArray), (⟨#[34]⟩ : ByteArray), (⟨#[44]⟩ : ByteArray)] : List ByteArray)) (⟨#[]⟩ : ByteArray) 0
theorem wicketmanlaw08_Line.mono_l : ∀ k, (∀ y0 y1 y2 y3, LeO (wicketmanlaw08_Line.l0 k y0 y1 y2 y3) (wicketmanlaw08_Line.l0 (k + 1) y0 y1 y2 y3))
 | 0 => fun _ _ _ _ r h => by simp [wicketmanlaw08_Line.l0] at h
 | k + 1 => by
  have ih0 := wicketmanlaw08_Line.mono_l k
  ·intro y0 y1 y2 y3
   unfold wicketmanlaw08_Line.l0
   repeat' first
   | (with_reducible exact ih0 _ _ _ _)
   | (with_reducible exact LeO.refl _)
   | (with_reducible exact LeO.none _)
   | (with_reducible refine LeO.ite ?_ ?_)
   | (with_reducible refine LeO.bind ?_ (fun _ => ?_))
   | exact ih0 _ _ _ _
   | exact LeO.none _
   | refine LeO.ite ?_ ?_
   | refine LeO.bind ?_ (fun _ => ?_)
theorem wicketmanlaw08_Line.mono : ∀ a0 k, LeO (wicketmanlaw08_Line.f k a0) (wicketmanlaw08_Line.f (k + 1) a0) := by
 intro a0 k
 have ih0 := wicketmanlaw08_Line.mono_l k
 unfold wicketmanlaw08_Line.f
 repeat' first
   | (with_reducible exact ih0 _ _ _ _)
   | (with_reducible exact LeO.refl _)
   | (with_reducible exact LeO.none _)
   | (with_reducible refine LeO.ite ?_ ?_)
   | (with_reducible refine LeO.bind ?_ (fun _ => ?_))
   | exact ih0 _ _ _ _
   | exact LeO.none _
   | refine LeO.ite ?_ ?_
   | refine LeO.bind ?_ (fun _ => ?_)
set_option maxHeartbeats 8000000 in
set_option maxRecDepth 100000 in
theorem wicketmanlaw08_Line.calls (k : Nat) (A0 : Option Addr) (c0 : Nat) (l0 : List Int) (r : ByteArray) (w : World) (hr0 : Kd.C (Kd.int .u8) w A0 l0.length l0) (hc0 : l0.length ≤ c0) (h : wicketmanlaw08_Line.f k l0 = some r) :
  Calls Tryd.prog 22 #[.slice A0 l0.length c0] w fun e w' => e = .returned (.string r) ∧ Below w.heap.size w w' := by
 have HR0 := Aside0.mk hr0
 have HC0 := Aside0.mk hc0
 clear hr0 hc0
 have HB := Aside0.mk (Below.refl w.heap.size w)
 have H : (wicketmanlaw08_Line.l0 k l0 (([(⟨#[72, 111, 115, 116]⟩ : ByteArray), (⟨#[67, 111, 111, 107, 105, 101]⟩ : ByteArray), (⟨#[58]⟩ : ByteArray), (⟨#[58, 32]⟩ : ByteArray), (⟨#[32]⟩ : ByteArray), (⟨#[9]⟩ : ByteArray), (⟨#[97]⟩ : ByteArray), (⟨#[67, 111, 110, 116, 101, 110, 116, 45, 76, 101, 110, 103, 116, 104]⟩ : ByteArray), (⟨#[53]⟩ : ByteArray), (⟨#[95, 95, 72, 111, 115, 116, 45, 105, 100, 61]⟩ : ByteArray), (⟨#[59, 32]⟩ : ByteArray), (⟨#[0]⟩ : ByteArray), (⟨#[127]⟩ : ByteArray), (⟨#[233]⟩ : ByteArray), (⟨#[40]⟩ : ByteArray), (⟨#[120, 61, 49]⟩ : ByteArray), (⟨#[34]⟩ : ByteArray), (⟨#[44]⟩ : ByteArray)] : List ByteArray)) (⟨#[]⟩ : ByteArray) 0) = some r := h
 clear h
 obtain ⟨y320, hy320⟩ : ∃ y_ : List ByteArray, y_ = (([(⟨#[72, 111, 115, 116]⟩ : ByteArray), (⟨#[67, 111, 111, 107, 105, 101]⟩ : ByteArray), (⟨#[58]⟩ : ByteArray), (⟨#[58, 32]⟩ : ByteArray), (⟨#[32]⟩ : ByteArray), (⟨#[9]⟩ : ByteArray), (⟨#[97]⟩ : ByteArray), (⟨#[67, 111, 110, 116, 101, 110, 116, 45, 76, 101, 110, 103, 116, 104]⟩ : ByteArray), (⟨#[53]⟩ : ByteArray), (⟨#[95, 95, 72, 111, 115, 116, 45, 105, 100, 61]⟩ : ByteArray), (⟨#[59, 32]⟩ : ByteArray), (⟨#[0]⟩ : ByteArray), (⟨#[127]⟩ : ByteArray), (⟨#[233]⟩ : ByteArray), (⟨#[40]⟩ : ByteArray), (⟨#[120, 61, 49]⟩ : ByteArray), (⟨#[34]⟩ : ByteArray), (⟨#[44]⟩ : ByteArray)] : List ByteArray)) := ⟨_, rfl⟩
 replace H : (wicketmanlaw08_Line.l0 k l0 y320 (⟨#[]⟩ : ByteArray) 0) = some r := by first | (rw [hy320]; with_reducible exact H) | (have H2_ := (Option.bind_some _ _).symm.trans H; rw [hy320]; with_reducible exact H2_) | (have H2_ := (Option.bind_some _ _).symm.trans H; with_reducible exact H2_) | with_reducible exact H | (rw [hy320]; exact H) | exact H
 have Ny320 := Aside0.mk hy320
 clear hy320
 have H' := Aside0.mk H
 clear H
 go_enter Tryd.func22, Tryd.ntmps22
 go_wp2_with (first | ((with_reducible refine gate_dst (N := 6) rfl ?_); refine Kd.R_lit Kd.string _ 9 ?hg (N := 6) ?hd (xs := ([(⟨#[72, 111, 115, 116]⟩ : ByteArray), (⟨#[67, 111, 111, 107, 105, 101]⟩ : ByteArray), (⟨#[58]⟩ : ByteArray), (⟨#[58, 32]⟩ : ByteArray), (⟨#[32]⟩ : ByteArray), (⟨#[9]⟩ : ByteArray), (⟨#[97]⟩ : ByteArray), (⟨#[67, 111, 110, 116, 101, 110, 116, 45, 76, 101, 110, 103, 116, 104]⟩ : ByteArray), (⟨#[53]⟩ : ByteArray), (⟨#[95, 95, 72, 111, 115, 116, 45, 105, 100, 61]⟩ : ByteArray), (⟨#[59, 32]⟩ : ByteArray), (⟨#[0]⟩ : ByteArray), (⟨#[127]⟩ : ByteArray), (⟨#[233]⟩ : ByteArray), (⟨#[40]⟩ : ByteArray), (⟨#[120, 61, 49]⟩ : ByteArray), (⟨#[34]⟩ : ByteArray), (⟨#[44]⟩ : ByteArray)] : List ByteArray)) (inner := [.string (⟨#[72, 111, 115, 116]⟩ : ByteArray), .string (⟨#[67, 111, 111, 107, 105, 101]⟩ : ByteArray), .string (⟨#[58]⟩ : ByteArray), .string (⟨#[58, 32]⟩ : ByteArray), .string (⟨#[32]⟩ : ByteArray), .string (⟨#[9]⟩ : ByteArray), .string (⟨#[97]⟩ : ByteArray), .string (⟨#[67, 111, 110, 116, 101, 110, 116, 45, 76, 101, 110, 103, 116, 104]⟩ : ByteArray), .string (⟨#[53]⟩ : ByteArray), .string (⟨#[95, 95, 72, 111, 115, 116, 45, 105, 100, 61]⟩ : ByteArray), .string (⟨#[59, 32]⟩ : ByteArray), .string (⟨#[0]⟩ : ByteArray), .string (⟨#[127]⟩ : ByteArray), .string (⟨#[233]⟩ : ByteArray), .string (⟨#[40]⟩ : ByteArray), .string (⟨#[120, 61, 49]⟩ : ByteArray), .string (⟨#[34]⟩ : ByteArray), .string (⟨#[44]⟩ : ByteArray)]) (ok := fun _ => True) (okp := fun _ => True) ?hr ?hp (fun _ hk => hk) trivial (Below.refl _ _) (Nat.le_refl _) (by simp) ?_; (case hd => rfl); (case hg => rfl); (case hr => first | (go_simp; done) | (go_simp; rfl)); (case hp => exact (Reps.one (show Kd.M Kd.string _ _ _ (⟨#[72, 111, 115, 116]⟩ : ByteArray) [.string (⟨#[72, 111, 115, 116]⟩ : ByteArray)] from rfl) (Reps.one (show Kd.M Kd.string _ _ _ (⟨#[67, 111, 111, 107, 105, 101]⟩ : ByteArray) [.string (⟨#[67, 111, 111, 107, 105, 101]⟩ : ByteArray)] from rfl) (Reps.one (show Kd.M Kd.string _ _ _ (⟨#[58]⟩ : ByteArray) [.string (⟨#[58]⟩ : ByteArray)] from rfl) (Reps.one (show Kd.M Kd.string _ _ _ (⟨#[58, 32]⟩ : ByteArray) [.string (⟨#[58, 32]⟩ : ByteArray)] from rfl) (Reps.one (show Kd.M Kd.string _ _ _ (⟨#[32]⟩ : ByteArray) [.string (⟨#[32]⟩ : ByteArray)] from rfl) (Reps.one (show Kd.M Kd.string _ _ _ (⟨#[9]⟩ : ByteArray) [.string (⟨#[9]⟩ : ByteArray)] from rfl) (Reps.one (show Kd.M Kd.string _ _ _ (⟨#[97]⟩ : ByteArray) [.string (⟨#[97]⟩ : ByteArray)] from rfl) (Reps.one (show Kd.M Kd.string _ _ _ (⟨#[67, 111, 110, 116, 101, 110, 116, 45, 76, 101, 110, 103, 116, 104]⟩ : ByteArray) [.string (⟨#[67, 111, 110, 116, 101, 110, 116, 45, 76, 101, 110, 103, 116, 104]⟩ : ByteArray)] from rfl) (Reps.one (show Kd.M Kd.string _ _ _ (⟨#[53]⟩ : ByteArray) [.string (⟨#[53]⟩ : ByteArray)] from rfl) (Reps.one (show Kd.M Kd.string _ _ _ (⟨#[95, 95, 72, 111, 115, 116, 45, 105, 100, 61]⟩ : ByteArray) [.string (⟨#[95, 95, 72, 111, 115, 116, 45, 105, 100, 61]⟩ : ByteArray)] from rfl) (Reps.one (show Kd.M Kd.string _ _ _ (⟨#[59, 32]⟩ : ByteArray) [.string (⟨#[59, 32]⟩ : ByteArray)] from rfl) (Reps.one (show Kd.M Kd.string _ _ _ (⟨#[0]⟩ : ByteArray) [.string (⟨#[0]⟩ : ByteArray)] from rfl) (Reps.one (show Kd.M Kd.string _ _ _ (⟨#[127]⟩ : ByteArray) [.string (⟨#[127]⟩ : ByteArray)] from rfl) (Reps.one (show Kd.M Kd.string _ _ _ (⟨#[233]⟩ : ByteArray) [.string (⟨#[233]⟩ : ByteArray)] from rfl) (Reps.one (show Kd.M Kd.string _ _ _ (⟨#[40]⟩ : ByteArray) [.string (⟨#[40]⟩ : ByteArray)] from rfl) (Reps.one (show Kd.M Kd.string _ _ _ (⟨#[120, 61, 49]⟩ : ByteArray) [.string (⟨#[120, 61, 49]⟩ : ByteArray)] from rfl) (Reps.one (show Kd.M Kd.string _ _ _ (⟨#[34]⟩ : ByteArray) [.string (⟨#[34]⟩ : ByteArray)] from rfl) (Reps.one (show Kd.M Kd.string _ _ _ (⟨#[44]⟩ : ByteArray) [.string (⟨#[44]⟩ : ByteArray)] from rfl) (Reps.none _ _)))))))))))))))))))); intro v321 w2 ho3 hb hg_ hnew_; clear hg_ hnew_; (first | rw [← Ny320.out] at ho3 | (simp only [Int.reduceToNat] at ho3; rw [← Ny320.out] at ho3)); have n0_ := Aside0.mk (Kd.R_lower ho3 (below_size (by repeat (first | (with_reducible first | apply bA | apply bN | apply bD) | exact HB.out)))); have n1_ := Aside0.mk (below_step (by repeat (first | (with_reducible first | apply bA | apply bN | apply bD) | exact HB.out)) hb); clear HB; have HO322 := n0_; have HB := n1_; clear n0_ n1_; clear hb ho3))
 go_loopg [4, 5] k (fun kq v4 v5 w' => ∃ (x4_1 : ByteArray) (x5_1 : Int), v4 = .string x4_1 ∧ v5 = .int .i64 x5_1 ∧ Aside0 (wicketmanlaw08_Line.l0 kq l0 y320 x4_1 x5_1 = some r) ∧ Aside0 (kq ≤ k) ∧ Aside0 (Kd.R Kd.string 9 w' w.heap.size (fun _ => True) v321 y320) ∧ Aside0 (Below w.heap.size w w'))
 case atStart => exact ⟨((⟨#[]⟩ : ByteArray)), (0), (by first | rfl | (simp; done) | (simp [*]; done)), (by first | rfl | (simp; done) | (simp [*]; done)), H', ⟨Nat.le_refl _⟩, ⟨by (with_reducible repeat (first | apply Kd.R_alloc | apply Kd.R_drewN | apply Kd.R_drew)); exact HO322.out⟩, ⟨by repeat (first | (with_reducible first | apply bA | apply bN | apply bD) | exact HB.out)⟩⟩
 case round =>
  clear H'
  try clear c2
  try clear p2
  obtain ⟨x4_1, x5_1, rfl, rfl, HA, HK1, HO_3, HB⟩ := hrel
  cases gk with
  | zero => exact absurd HA.out (by simp [wicketmanlaw08_Line.l0])
  | succ k1 =>
   have H := HA.out
   clear HA
   simp only [wicketmanlaw08_Line.l0] at H
   by_cases c4 : x5_1 < (l0.length : Int)
   ·rw [if_pos c4] at H
    have c4b0 : decide (x5_1 < (l0.length : Int)) = true := decide_eq_true c4
    clear c4
    by_cases c5 : x5_1 < 30
    ·rw [if_pos c5] at H
     have c5b0 : decide (x5_1 < 30) = true := decide_eq_true c5
     clear c5
     by_cases c6 : 0 ≤ x5_1
     ·rw [if_pos c6] at H
      have c6b0 : decide (0 ≤ x5_1) = true := decide_eq_true c6
      clear c6
      by_cases c7 : (y320.length : Int) = 0
      ·rw [if_pos c7] at H
       exact absurd H (by simp)
      ·rw [if_neg c7] at H
       have c7b0 : ((y320.length : Int) == 0) = false := beq_eq_false_iff_ne.mpr c7
       have c7b1 : ((y320.length : Int) != 0) = true := bne_iff_ne.mpr c7
       have c7b2 : ¬ (y320 = []) := fun h_ => c7 (by rw [h_]; rfl)
       obtain ⟨ji8, hji8⟩ : ∃ j_ : Int, (Int.tmod (wrap64 (rd l0 x5_1)) (y320.length : Int)) = j_ := ⟨_, rfl⟩
       replace H : (if 0 ≤ (ji8) then (if (ji8) < (y320.length : Int) then (if x4_1.size + (rdOf ByteArray.empty y320 (ji8)).size ≤ 9223372036854775807 then (wicketmanlaw08_Line.l0 k1 l0 y320 (x4_1 ++ (rdOf ByteArray.empty y320 (ji8))) (wrap64 (x5_1 + 1))) else (none)) else (none)) else (none)) = some r := by first | (rw [hji8] at H; exact H) | (simp only [hji8] at H ⊢; exact H)
       by_cases c9 : 0 ≤ (ji8)
       ·rw [if_pos c9] at H
        have c9b0 : decide (0 ≤ (ji8)) = true := decide_eq_true c9
        clear c9
        by_cases c10 : (ji8) < (y320.length : Int)
        ·rw [if_pos c10] at H
         have c10b0 : decide ((ji8) < (y320.length : Int)) = true := decide_eq_true c10
         clear c10
         by_cases c11 : x4_1.size + (rdOf ByteArray.empty y320 (ji8)).size ≤ 9223372036854775807
         ·rw [if_pos c11] at H
          have c11b0 := eq_true c11
          have c11b1 : decide (x4_1.size + (rdOf ByteArray.empty y320 (ji8)).size ≤ 9223372036854775807) = true := decide_eq_true c11
          try have c11b2 : (9223372036854775807 < x4_1.size + (rdOf ByteArray.empty y320 (ji8)).size) = False := eq_false (Nat.not_lt.2 c11)
          have H' := Aside0.mk H
          clear H
          have p323 : 0 ≤ (x5_1 : Int) := of_decide_eq_true (by first | (with_reducible assumption) | assumption)
          have q323 : x5_1 < (l0.length : Int) := of_decide_eq_true (by first | (with_reducible assumption) | assumption)
          obtain ⟨ad323, e323, hx323_0⟩ := Kd.at_int HR0.out x5_1 p323 q323
          cases e323
          replace hx323_0 := (HB.out.cell (World.block_lt_of_cell? w _ hx323_0)).trans hx323_0
          replace p323 := eq_true p323
          replace q323 := eq_true q323
          obtain ⟨Ao12, co12, eo12⟩ := Kd.R_slice HO_3.out
          subst eo12
          have p324 : 0 ≤ ((ji8) : Int) := of_decide_eq_true (by first | (with_reducible assumption) | assumption)
          have q324 : (ji8) < (y320.length : Int) := of_decide_eq_true (by first | (with_reducible assumption) | assumption)
          obtain ⟨ad324, e324, hx324_0⟩ := Kd.at_string (Kd.R_reads' HO_3.out).2.2 (ji8) p324 q324
          cases e324
          replace p324 := eq_true p324
          replace q324 := eq_true q324
          go_wp2
          go_roundg k1
          case measure => have := HK1.out; omega
          case rel => exact ⟨(x4_1 ++ (rdOf ByteArray.empty y320 (ji8))), (wrap64 (x5_1 + 1)), (by first | rfl | (simp; done) | (simp only [← hji8] <;> (first | rfl | simp)) | (simp [*]; done)), (by first | rfl | (simp; done) | (simp [*]; done)), H', ⟨by have := HK1.out; omega⟩, ⟨by (with_reducible repeat (first | apply Kd.R_alloc | apply Kd.R_drewN | apply Kd.R_drew)); exact HO_3.out⟩, ⟨by repeat (first | (with_reducible first | apply bA | apply bN | apply bD) | exact HB.out)⟩⟩
         ·rw [if_neg c11] at H
          exact absurd H (by simp)
        ·rw [if_neg c10] at H
         exact absurd H (by simp)
       ·rw [if_neg c9] at H
        exact absurd H (by simp)
     ·rw [if_neg c6] at H
      exact absurd H (by simp)
    ·rw [if_neg c5] at H
     have c5b0 : decide (x5_1 < 30) = false := decide_eq_false c5
     clear c5
     obtain rfl := Option.some.inj H
     go_wp2
     go_ret
     exact ⟨by first | rfl | (simp [errW_none, errW_some] <;> rfl) | (simp [*, errW_none, errW_some] <;> rfl), by repeat (first | (with_reducible first | apply bA | apply bN | apply bD) | exact HB.out)⟩
   ·rw [if_neg c4] at H
    have c4b0 : decide (x5_1 < (l0.length : Int)) = false := decide_eq_false c4
    clear c4
    obtain rfl := Option.some.inj H
    go_wp2
    go_ret
    exact ⟨by first | rfl | (simp [errW_none, errW_some] <;> rfl) | (simp [*, errW_none, errW_some] <;> rfl), by repeat (first | (with_reducible first | apply bA | apply bN | apply bD) | exact HB.out)⟩
end Go.Proofs.YtpfbemcoblganaaDoor.Pall
