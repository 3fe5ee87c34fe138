import Derived.Test.YtpfbemcoblganaaDoorQpPall0
import Derived.Test.YtpfbemcoblganaaDoorQpPall5
import Derived.Test.YtpfbemcoblganaaDoorQpPall6
import Derived.Test.YtpfbemcoblganaaDoorQpPall22
namespace Go.Proofs.YtpfbemcoblganaaDoor.Pall
open Go.RowKit Go.Proofs.YtpfbemcoblganaaDoorW.PrintWords Go.Proofs.YtpfbemcoblganaaDoorW.PrintLast
set_option linter.unusedVariables false
set_option linter.unusedSimpArgs false
def wicketmanlaw10_heavy.l0 : Nat → Int → Int → Int → List (S43) → List Int → Option (Bool)
 | 0, _, _, _, _, _ => none
 | k + 1, x3, x4, x784000, x784001, x784002 => if x4 < (x784001.length : Int) then (if 0 ≤ x4 then (wicketmanlaw10_heavy.l0 k (wrap64 (x3 + (wrap64 ((wrap64 (1 + (((rd_T43 x784001 x4).f0).size : Int))) + (((rd_T43 x784001 x4).f1).size : Int))))) (wrap64 (x4 + 1)) x784000 x784001 x784002) else (none)) else (some (decide (x3 > 400)))
def wicketmanlaw10_heavy.f (k : Nat) (a0_0 : Int) (l0_1 : List (S43)) (l0_2 : List Int) : Option (Bool) := wicketmanlaw10_heavy.l0 k (l0_2.length : Int) 0 a0_0 l0_1 l0_2
theorem wicketmanlaw10_heavy.mono_l : ∀ k, (∀ y0 y1 y2 y3 y4, LeO (wicketmanlaw10_heavy.l0 k y0 y1 y2 y3 y4) (wicketmanlaw10_heavy.l0 (k + 1) y0 y1 y2 y3 y4))
 | 0 => fun _ _ _ _ _ r h => by simp [wicketmanlaw10_heavy.l0] at h
 | k + 1 => by
  have ih0 := wicketmanlaw10_heavy.mono_l k
  ·intro y0 y1 y2 y3 y4
   unfold wicketmanlaw10_heavy.l0
   repeat' first
   | (with_reducible exact ih0 _ _ _ _ _)
   | (with_reducible exact LeO.refl _)
   | (with_reducible exact LeO.none _)
   | (with_reducible refine LeO.ite ?_ ?_)
   | (with_reducible refine LeO.bind ?_ (fun _ => ?_))
   | exact ih0 _ _ _ _ _
   | exact LeO.none _
   | refine LeO.ite ?_ ?_
   | refine LeO.bind ?_ (fun _ => ?_)
theorem wicketmanlaw10_heavy.mono : ∀ a0 a1 a2 k, LeO (wicketmanlaw10_heavy.f k a0 a1 a2) (wicketmanlaw10_heavy.f (k + 1) a0 a1 a2) := by
 intro a0 a1 a2 k
 have ih0 := wicketmanlaw10_heavy.mono_l k
 unfold wicketmanlaw10_heavy.f
 repeat' first
   | (with_reducible exact ih0 _ _ _ _ _)
   | (with_reducible exact LeO.refl _)
   | (with_reducible exact LeO.none _)
   | (with_reducible refine LeO.ite ?_ ?_)
   | (with_reducible refine LeO.bind ?_ (fun _ => ?_))
   | exact ih0 _ _ _ _ _
   | exact LeO.none _
   | refine LeO.ite ?_ ?_
   | refine LeO.bind ?_ (fun _ => ?_)
set_option maxHeartbeats 8000000 in
set_option maxRecDepth 100000 in
theorem wicketmanlaw10_heavy.calls (k : Nat) (a0_0 : Int) (A0_1 : Option Addr) (c0_1 : Nat) (l0_1 : List (S43)) (A0_2 : Option Addr) (c0_2 : Nat) (l0_2 : List Int) (r : Bool) (w : World) (hr0_1 : Kd.C k43 w A0_1 l0_1.length l0_1) (hc0_1 : l0_1.length ≤ c0_1) (hr0_2 : Kd.C (Kd.int .u8) w A0_2 l0_2.length l0_2) (hc0_2 : l0_2.length ≤ c0_2) (h : wicketmanlaw10_heavy.f k a0_0 l0_1 l0_2 = some r) :
  Calls Tryd.prog 37 #[.agg #[.int .i64 a0_0, .slice A0_1 l0_1.length c0_1, .slice A0_2 l0_2.length c0_2]] w fun e w' => e = .returned (.bool r) ∧ Below w.heap.size w w' := by
 have hu51 := Tryd.underlying51
 have HR0_1 := Aside0.mk hr0_1
 have HC0_1 := Aside0.mk hc0_1
 clear hr0_1 hc0_1
 have HR0_2 := Aside0.mk hr0_2
 have HC0_2 := Aside0.mk hc0_2
 clear hr0_2 hc0_2
 have HB := Aside0.mk (Below.refl w.heap.size w)
 have H : (wicketmanlaw10_heavy.l0 k (l0_2.length : Int) 0 a0_0 l0_1 l0_2) = some r := h
 clear h
 have H' := Aside0.mk H
 clear H
 go_enter Tryd.func37, Tryd.ntmps37
 go_wp2_with (first | ((with_reducible refine gate_dst (N := 1) rfl ?_); refine box_event ?hg (N := 1) ?hd (cs := #[.int .i64 a0_0, .slice A0_1 l0_1.length c0_1, .slice A0_2 l0_2.length c0_2]) (t := 51) ?hr ?_; (case hd => rfl); (case hg => rfl); (case hr => first | (go_simp; done) | (go_simp; rfl)); intro gb783 hg w2 hbox hb; have n0_ := Aside0.mk (below_step (by repeat (first | (with_reducible first | apply bA | apply bN | apply bD) | exact HB.out)) hb); have n1_ := Aside0.mk (hbox); have n2_ := Aside0.mk ((by rw [hg]; exact (below_size (by repeat (first | (with_reducible first | apply bA | apply bN | apply bD) | exact HB.out))) : w.heap.size ≤ gb783)); have n3_ := Aside0.mk ((by rw [hg]; exact (below_size (by repeat (first | (with_reducible first | apply bA | apply bN | apply bD) | exact HB.out))) : w.heap.size ≤ gb783)); clear HB; have HB := n0_; have BK783 := n1_; have GW783 := n2_; have GE783 := n3_; clear n0_ n1_ n2_ n3_; clear hb hbox hg; have hcz3_0 : w2.cell? ⟨gb783, 0, none⟩ = some (.int .i64 a0_0) := (blk_cell BK783.out 0).trans rfl; have hcz3_1 : w2.cell? ⟨gb783, 1, none⟩ = some (.slice A0_1 l0_1.length c0_1) := (blk_cell BK783.out 1).trans rfl; have hcz3_2 : w2.cell? ⟨gb783, 2, none⟩ = some (.slice A0_2 l0_2.length c0_2) := (blk_cell BK783.out 2).trans rfl; have hfz3_0 := blk_frozen BK783.out 0; have hfz3_1 := blk_frozen BK783.out 1; have hfz3_2 := blk_frozen BK783.out 2))
 repeat (go_quiet (first | ((with_reducible refine gate_dst (N := 1) rfl ?_); refine box_event ?hg (N := 1) ?hd (cs := #[.int .i64 a0_0, .slice A0_1 l0_1.length c0_1, .slice A0_2 l0_2.length c0_2]) (t := 51) ?hr ?_; (case hd => rfl); (case hg => rfl); (case hr => first | (go_simp; done) | (go_simp; rfl)); intro gb783 hg w2 hbox hb; have n0_ := Aside0.mk (below_step (by repeat (first | (with_reducible first | apply bA | apply bN | apply bD) | exact HB.out)) hb); have n1_ := Aside0.mk (hbox); have n2_ := Aside0.mk ((by rw [hg]; exact (below_size (by repeat (first | (with_reducible first | apply bA | apply bN | apply bD) | exact HB.out))) : w.heap.size ≤ gb783)); have n3_ := Aside0.mk ((by rw [hg]; exact (below_size (by repeat (first | (with_reducible first | apply bA | apply bN | apply bD) | exact HB.out))) : w.heap.size ≤ gb783)); clear HB; have HB := n0_; have BK783 := n1_; have GW783 := n2_; have GE783 := n3_; clear n0_ n1_ n2_ n3_; clear hb hbox hg; have hcz3_0 : w2.cell? ⟨gb783, 0, none⟩ = some (.int .i64 a0_0) := (blk_cell BK783.out 0).trans rfl; have hcz3_1 : w2.cell? ⟨gb783, 1, none⟩ = some (.slice A0_1 l0_1.length c0_1) := (blk_cell BK783.out 1).trans rfl; have hcz3_2 : w2.cell? ⟨gb783, 2, none⟩ = some (.slice A0_2 l0_2.length c0_2) := (blk_cell BK783.out 2).trans rfl; have hfz3_0 := blk_frozen BK783.out 0; have hfz3_1 := blk_frozen BK783.out 1; have hfz3_2 := blk_frozen BK783.out 2)); try go_wp2_with (first | ((with_reducible refine gate_dst (N := 1) rfl ?_); refine box_event ?hg (N := 1) ?hd (cs := #[.int .i64 a0_0, .slice A0_1 l0_1.length c0_1, .slice A0_2 l0_2.length c0_2]) (t := 51) ?hr ?_; (case hd => rfl); (case hg => rfl); (case hr => first | (go_simp; done) | (go_simp; rfl)); intro gb783 hg w2 hbox hb; have n0_ := Aside0.mk (below_step (by repeat (first | (with_reducible first | apply bA | apply bN | apply bD) | exact HB.out)) hb); have n1_ := Aside0.mk (hbox); have n2_ := Aside0.mk ((by rw [hg]; exact (below_size (by repeat (first | (with_reducible first | apply bA | apply bN | apply bD) | exact HB.out))) : w.heap.size ≤ gb783)); have n3_ := Aside0.mk ((by rw [hg]; exact (below_size (by repeat (first | (with_reducible first | apply bA | apply bN | apply bD) | exact HB.out))) : w.heap.size ≤ gb783)); clear HB; have HB := n0_; have BK783 := n1_; have GW783 := n2_; have GE783 := n3_; clear n0_ n1_ n2_ n3_; clear hb hbox hg; have hcz3_0 : w2.cell? ⟨gb783, 0, none⟩ = some (.int .i64 a0_0) := (blk_cell BK783.out 0).trans rfl; have hcz3_1 : w2.cell? ⟨gb783, 1, none⟩ = some (.slice A0_1 l0_1.length c0_1) := (blk_cell BK783.out 1).trans rfl; have hcz3_2 : w2.cell? ⟨gb783, 2, none⟩ = some (.slice A0_2 l0_2.length c0_2) := (blk_cell BK783.out 2).trans rfl; have hfz3_0 := blk_frozen BK783.out 0; have hfz3_1 := blk_frozen BK783.out 1; have hfz3_2 := blk_frozen BK783.out 2)))
 go_loopg [3, 4] k (fun kq v3 v4 w' => ∃ (x3_1 : Int) (x4_1 : Int), v3 = .int .i64 x3_1 ∧ v4 = .int .i64 x4_1 ∧ Aside0 (wicketmanlaw10_heavy.l0 kq x3_1 x4_1 a0_0 l0_1 l0_2 = some r) ∧ Aside0 (kq ≤ k) ∧ Aside0 (w'.heap[gb783]? = some (.cells #[.int .i64 a0_0, (.slice A0_1 l0_1.length c0_1), (.slice A0_2 l0_2.length c0_2)] 51 (0, 0))) ∧ Aside0 (Below w.heap.size w w'))
 case atStart => exact ⟨((l0_2.length : Int)), (0), (by first | rfl | (simp; done) | (simp [*]; done)), (by first | rfl | (simp; done) | (simp [*]; done)), H', ⟨Nat.le_refl _⟩, ⟨by (with_reducible repeat (first | refine blk_drewN ?_ _ | refine blk_drew ?_ | refine blk_alloc ?_ _)); exact BK783.out⟩, ⟨by repeat (first | (with_reducible first | apply bA | apply bN | apply bD | refine below_set ?_ GE783.out) | exact HB.out)⟩⟩
 case round =>
  clear H'
  try clear p2
  try clear c3
  try clear hcz3_0
  try clear hcz3_1
  try clear hcz3_2
  try clear hfz3_0
  try clear hfz3_1
  try clear hfz3_2
  obtain ⟨x3_1, x4_1, rfl, rfl, HA, HK1, BK783, HB⟩ := hrel
  cases gk with
  | zero => exact absurd HA.out (by simp [wicketmanlaw10_heavy.l0])
  | succ k1 =>
   have H := HA.out
   clear HA
   simp only [wicketmanlaw10_heavy.l0] at H
   by_cases c4 : x4_1 < (l0_1.length : Int)
   ·rw [if_pos c4] at H
    have c4b0 : decide (x4_1 < (l0_1.length : Int)) = true := decide_eq_true c4
    clear c4
    by_cases c5 : 0 ≤ x4_1
    ·rw [if_pos c5] at H
     have c5b0 : decide (0 ≤ x4_1) = true := decide_eq_true c5
     clear c5
     have H' := Aside0.mk H
     clear H
     have hcz6_0 : wr.cell? ⟨gb783, 0, none⟩ = some (.int .i64 a0_0) := (blk_cell BK783.out 0).trans rfl
     have hcz6_1 : wr.cell? ⟨gb783, 1, none⟩ = some (.slice A0_1 l0_1.length c0_1) := (blk_cell BK783.out 1).trans rfl
     have hcz6_2 : wr.cell? ⟨gb783, 2, none⟩ = some (.slice A0_2 l0_2.length c0_2) := (blk_cell BK783.out 2).trans rfl
     have hfz6_0 := blk_frozen BK783.out 0
     have hfz6_1 := blk_frozen BK783.out 1
     have hfz6_2 := blk_frozen BK783.out 2
     have p784 : 0 ≤ (x4_1 : Int) := of_decide_eq_true (by first | (with_reducible assumption) | assumption)
     have q784 : x4_1 < (l0_1.length : Int) := of_decide_eq_true (by first | (with_reducible assumption) | assumption)
     obtain ⟨ad784, e784, hx784_0, hx784_1⟩ := at_T43 HR0_1.out x4_1 p784 q784
     cases e784
     replace hx784_0 := (HB.out.cell (World.block_lt_of_cell? w _ hx784_0)).trans hx784_0
     replace hx784_1 := (HB.out.cell (World.block_lt_of_cell? w _ hx784_1)).trans hx784_1
     replace p784 := eq_true p784
     replace q784 := eq_true q784
     have p785 : 0 ≤ (x4_1 : Int) := of_decide_eq_true (by first | (with_reducible assumption) | assumption)
     have q785 : x4_1 < (l0_1.length : Int) := of_decide_eq_true (by first | (with_reducible assumption) | assumption)
     obtain ⟨ad785, e785, hx785_0, hx785_1⟩ := at_T43 HR0_1.out x4_1 p785 q785
     obtain rfl : ad784 = ad785 := (by injection e785)
     replace hx785_0 := (HB.out.cell (World.block_lt_of_cell? w _ hx785_0)).trans hx785_0
     replace hx785_1 := (HB.out.cell (World.block_lt_of_cell? w _ hx785_1)).trans hx785_1
     replace p785 := eq_true p785
     replace q785 := eq_true q785
     go_wp2
     repeat (go_quiet (fail); try go_wp2)
     go_roundg k1
     case measure => have := HK1.out; omega
     case rel => exact ⟨(wrap64 (x3_1 + (wrap64 ((wrap64 (1 + (((rd_T43 l0_1 x4_1).f0).size : Int))) + (((rd_T43 l0_1 x4_1).f1).size : Int))))), (wrap64 (x4_1 + 1)), (by first | rfl | (simp; done) | (simp [*]; done)), (by first | rfl | (simp; done) | (simp [*]; done)), H', ⟨by have := HK1.out; omega⟩, ⟨by (with_reducible repeat (first | refine blk_drewN ?_ _ | refine blk_drew ?_ | refine blk_alloc ?_ _)); exact BK783.out⟩, ⟨by repeat (first | (with_reducible first | apply bA | apply bN | apply bD | refine below_set ?_ GE783.out) | exact HB.out)⟩⟩
    ·rw [if_neg c5] at H
     exact absurd H (by simp)
   ·rw [if_neg c4] at H
    have c4b0 : decide (x4_1 < (l0_1.length : Int)) = false := decide_eq_false c4
    clear c4
    obtain rfl := Option.some.inj H
    have hcz7_0 : wr.cell? ⟨gb783, 0, none⟩ = some (.int .i64 a0_0) := (blk_cell BK783.out 0).trans rfl
    have hcz7_1 : wr.cell? ⟨gb783, 1, none⟩ = some (.slice A0_1 l0_1.length c0_1) := (blk_cell BK783.out 1).trans rfl
    have hcz7_2 : wr.cell? ⟨gb783, 2, none⟩ = some (.slice A0_2 l0_2.length c0_2) := (blk_cell BK783.out 2).trans rfl
    have hfz7_0 := blk_frozen BK783.out 0
    have hfz7_1 := blk_frozen BK783.out 1
    have hfz7_2 := blk_frozen BK783.out 2
    go_wp2
    repeat (go_quiet (fail); try go_wp2)
    go_ret
    exact ⟨by first | rfl | (simp [errW_none, errW_some] <;> rfl) | (simp [*, errW_none, errW_some] <;> rfl), by repeat (first | (with_reducible first | apply bA | apply bN | apply bD | refine below_set ?_ GE783.out) | exact HB.out)⟩
def wicketmanref10_Reason.l0 : Nat → Int → List ByteArray → List Int → Int → Option (ByteArray)
 | 0, _, _, _, _ => none
 | k + 1, x0, x3, x4, x5 => if x5 < (x4.length : Int) then (if 0 ≤ x5 then (if (rd x4 x5) = x0 then (if x5 < (x3.length : Int) then (some (rdOf ByteArray.empty x3 x5)) else (none)) else (wicketmanref10_Reason.l0 k x0 x3 x4 (wrap64 (x5 + 1)))) else (none)) else (some (⟨#[]⟩ : ByteArray))
def wicketmanref10_Reason.f (k : Nat) (a0 : Int) : Option (ByteArray) := (wicketmanref10_Statuses.f).bind fun t789 => (wicketmanref10_Reason.l0 k a0 (([(⟨#[79, 75]⟩ : ByteArray), (⟨#[83, 101, 101, 32, 79, 116, 104, 101, 114]⟩ : ByteArray), (⟨#[66, 97, 100, 32, 82, 101, 113, 117, 101, 115, 116]⟩ : ByteArray), (⟨#[85, 110, 97, 117, 116, 104, 111, 114, 105, 122, 101, 100]⟩ : ByteArray), (⟨#[70, 111, 114, 98, 105, 100, 100, 101, 110]⟩ : ByteArray), (⟨#[78, 111, 116, 32, 70, 111, 117, 110, 100]⟩ : ByteArray), (⟨#[77, 101, 116, 104, 111, 100, 32, 78, 111, 116, 32, 65, 108, 108, 111, 119, 101, 100]⟩ : ByteArray), (⟨#[67, 111, 110, 102, 108, 105, 99, 116]⟩ : ByteArray), (⟨#[67, 111, 110, 116, 101, 110, 116, 32, 84, 111, 111, 32, 76, 97, 114, 103, 101]⟩ : ByteArray), (⟨#[84, 111, 111, 32, 77, 97, 110, 121, 32, 82, 101, 113, 117, 101, 115, 116, 115]⟩ : ByteArray), (⟨#[82, 101, 113, 117, 101, 115, 116, 32, 72, 101, 97, 100, 101, 114, 32, 70, 105, 101, 108, 100, 115, 32, 84, 111, 111, 32, 76, 97, 114, 103, 101]⟩ : ByteArray), (⟨#[83, 101, 114, 118, 105, 99, 101, 32, 85, 110, 97, 118, 97, 105, 108, 97, 98, 108, 101]⟩ : ByteArray)] : List ByteArray)) t789 0)
theorem wicketmanref10_Reason.mono_l : ∀ k, (∀ y0 y1 y2 y3, LeO (wicketmanref10_Reason.l0 k y0 y1 y2 y3) (wicketmanref10_Reason.l0 (k + 1) y0 y1 y2 y3))
 | 0 => fun _ _ _ _ r h => by simp [wicketmanref10_Reason.l0] at h
 | k + 1 => by
  have ih0 := wicketmanref10_Reason.mono_l k
  ·intro y0 y1 y2 y3
   unfold wicketmanref10_Reason.l0
   repeat' first
   | (with_reducible exact ih0 _ _ _ _)
   | (with_reducible exact LeO.refl _)
   | (with_reducible exact LeO.none _)
   | (with_reducible refine LeO.ite ?_ ?_)
   | (with_reducible refine LeO.bind ?_ (fun _ => ?_))
   | exact ih0 _ _ _ _
   | exact LeO.none _
   | refine LeO.ite ?_ ?_
   | refine LeO.bind ?_ (fun _ => ?_)
theorem wicketmanref10_Reason.mono : ∀ a0 k, LeO (wicketmanref10_Reason.f k a0) (wicketmanref10_Reason.f (k + 1) a0) := by
 intro a0 k
 have ih0 := wicketmanref10_Reason.mono_l k
 unfold wicketmanref10_Reason.f
 repeat' first
   | (with_reducible exact ih0 _ _ _ _)
   | (with_reducible exact LeO.refl _)
   | (with_reducible exact LeO.none _)
   | (with_reducible refine LeO.ite ?_ ?_)
   | (with_reducible refine LeO.bind ?_ (fun _ => ?_))
   | exact ih0 _ _ _ _
   | exact LeO.none _
   | refine LeO.ite ?_ ?_
   | refine LeO.bind ?_ (fun _ => ?_)
set_option maxHeartbeats 8000000 in
set_option maxRecDepth 100000 in
theorem wicketmanref10_Reason.calls (k : Nat) (a0 : Int) (r : ByteArray) (w : World) (h : wicketmanref10_Reason.f k a0 = some r) :
  Calls Tryd.prog 41 #[.int .i64 a0] w fun e w' => e = .returned (.string r) ∧ Below w.heap.size w w' := by
 have HB := Aside0.mk (Below.refl w.heap.size w)
 have H : ((wicketmanref10_Statuses.f).bind fun t789 => (wicketmanref10_Reason.l0 k a0 (([(⟨#[79, 75]⟩ : ByteArray), (⟨#[83, 101, 101, 32, 79, 116, 104, 101, 114]⟩ : ByteArray), (⟨#[66, 97, 100, 32, 82, 101, 113, 117, 101, 115, 116]⟩ : ByteArray), (⟨#[85, 110, 97, 117, 116, 104, 111, 114, 105, 122, 101, 100]⟩ : ByteArray), (⟨#[70, 111, 114, 98, 105, 100, 100, 101, 110]⟩ : ByteArray), (⟨#[78, 111, 116, 32, 70, 111, 117, 110, 100]⟩ : ByteArray), (⟨#[77, 101, 116, 104, 111, 100, 32, 78, 111, 116, 32, 65, 108, 108, 111, 119, 101, 100]⟩ : ByteArray), (⟨#[67, 111, 110, 102, 108, 105, 99, 116]⟩ : ByteArray), (⟨#[67, 111, 110, 116, 101, 110, 116, 32, 84, 111, 111, 32, 76, 97, 114, 103, 101]⟩ : ByteArray), (⟨#[84, 111, 111, 32, 77, 97, 110, 121, 32, 82, 101, 113, 117, 101, 115, 116, 115]⟩ : ByteArray), (⟨#[82, 101, 113, 117, 101, 115, 116, 32, 72, 101, 97, 100, 101, 114, 32, 70, 105, 101, 108, 100, 115, 32, 84, 111, 111, 32, 76, 97, 114, 103, 101]⟩ : ByteArray), (⟨#[83, 101, 114, 118, 105, 99, 101, 32, 85, 110, 97, 118, 97, 105, 108, 97, 98, 108, 101]⟩ : ByteArray)] : List ByteArray)) t789 0)) = some r := h
 clear h
 obtain ⟨y786, hy786⟩ : ∃ y_ : List ByteArray, y_ = (([(⟨#[79, 75]⟩ : ByteArray), (⟨#[83, 101, 101, 32, 79, 116, 104, 101, 114]⟩ : ByteArray), (⟨#[66, 97, 100, 32, 82, 101, 113, 117, 101, 115, 116]⟩ : ByteArray), (⟨#[85, 110, 97, 117, 116, 104, 111, 114, 105, 122, 101, 100]⟩ : ByteArray), (⟨#[70, 111, 114, 98, 105, 100, 100, 101, 110]⟩ : ByteArray), (⟨#[78, 111, 116, 32, 70, 111, 117, 110, 100]⟩ : ByteArray), (⟨#[77, 101, 116, 104, 111, 100, 32, 78, 111, 116, 32, 65, 108, 108, 111, 119, 101, 100]⟩ : ByteArray), (⟨#[67, 111, 110, 102, 108, 105, 99, 116]⟩ : ByteArray), (⟨#[67, 111, 110, 116, 101, 110, 116, 32, 84, 111, 111, 32, 76, 97, 114, 103, 101]⟩ : ByteArray), (⟨#[84, 111, 111, 32, 77, 97, 110, 121, 32, 82, 101, 113, 117, 101, 115, 116, 115]⟩ : ByteArray), (⟨#[82, 101, 113, 117, 101, 115, 116, 32, 72, 101, 97, 100, 101, 114, 32, 70, 105, 101, 108, 100, 115, 32, 84, 111, 111, 32, 76, 97, 114, 103, 101]⟩ : ByteArray), (⟨#[83, 101, 114, 118, 105, 99, 101, 32, 85, 110, 97, 118, 97, 105, 108, 97, 98, 108, 101]⟩ : ByteArray)] : List ByteArray)) := ⟨_, rfl⟩
 replace H : ((wicketmanref10_Statuses.f).bind fun t789 => (wicketmanref10_Reason.l0 k a0 y786 t789 0)) = some r := by first | (rw [hy786]; with_reducible exact H) | (have H2_ := (Option.bind_some _ _).symm.trans H; rw [hy786]; with_reducible exact H2_) | (have H2_ := (Option.bind_some _ _).symm.trans H; with_reducible exact H2_) | with_reducible exact H | (rw [hy786]; exact H) | exact H
 have Ny786 := Aside0.mk hy786
 clear hy786
 replace H := Option.bind_eq_some_iff.mp H
 obtain ⟨t789, A20, H⟩ := H
 try dsimp only at H
 have A2 := Aside0.mk A20
 clear A20
 have H' := Aside0.mk H
 clear H
 go_enter Tryd.func41, Tryd.ntmps41
 go_wp2_with (first | ((with_reducible refine gate_dst (N := 6) rfl ?_); refine Kd.R_lit Kd.string _ 9 ?hg (N := 6) ?hd (xs := ([(⟨#[79, 75]⟩ : ByteArray), (⟨#[83, 101, 101, 32, 79, 116, 104, 101, 114]⟩ : ByteArray), (⟨#[66, 97, 100, 32, 82, 101, 113, 117, 101, 115, 116]⟩ : ByteArray), (⟨#[85, 110, 97, 117, 116, 104, 111, 114, 105, 122, 101, 100]⟩ : ByteArray), (⟨#[70, 111, 114, 98, 105, 100, 100, 101, 110]⟩ : ByteArray), (⟨#[78, 111, 116, 32, 70, 111, 117, 110, 100]⟩ : ByteArray), (⟨#[77, 101, 116, 104, 111, 100, 32, 78, 111, 116, 32, 65, 108, 108, 111, 119, 101, 100]⟩ : ByteArray), (⟨#[67, 111, 110, 102, 108, 105, 99, 116]⟩ : ByteArray), (⟨#[67, 111, 110, 116, 101, 110, 116, 32, 84, 111, 111, 32, 76, 97, 114, 103, 101]⟩ : ByteArray), (⟨#[84, 111, 111, 32, 77, 97, 110, 121, 32, 82, 101, 113, 117, 101, 115, 116, 115]⟩ : ByteArray), (⟨#[82, 101, 113, 117, 101, 115, 116, 32, 72, 101, 97, 100, 101, 114, 32, 70, 105, 101, 108, 100, 115, 32, 84, 111, 111, 32, 76, 97, 114, 103, 101]⟩ : ByteArray), (⟨#[83, 101, 114, 118, 105, 99, 101, 32, 85, 110, 97, 118, 97, 105, 108, 97, 98, 108, 101]⟩ : ByteArray)] : List ByteArray)) (inner := [.string (⟨#[79, 75]⟩ : ByteArray), .string (⟨#[83, 101, 101, 32, 79, 116, 104, 101, 114]⟩ : ByteArray), .string (⟨#[66, 97, 100, 32, 82, 101, 113, 117, 101, 115, 116]⟩ : ByteArray), .string (⟨#[85, 110, 97, 117, 116, 104, 111, 114, 105, 122, 101, 100]⟩ : ByteArray), .string (⟨#[70, 111, 114, 98, 105, 100, 100, 101, 110]⟩ : ByteArray), .string (⟨#[78, 111, 116, 32, 70, 111, 117, 110, 100]⟩ : ByteArray), .string (⟨#[77, 101, 116, 104, 111, 100, 32, 78, 111, 116, 32, 65, 108, 108, 111, 119, 101, 100]⟩ : ByteArray), .string (⟨#[67, 111, 110, 102, 108, 105, 99, 116]⟩ : ByteArray), .string (⟨#[67, 111, 110, 116, 101, 110, 116, 32, 84, 111, 111, 32, 76, 97, 114, 103, 101]⟩ : ByteArray), .string (⟨#[84, 111, 111, 32, 77, 97, 110, 121, 32, 82, 101, 113, 117, 101, 115, 116, 115]⟩ : ByteArray), .string (⟨#[82, 101, 113, 117, 101, 115, 116, 32, 72, 101, 97, 100, 101, 114, 32, 70, 105, 101, 108, 100, 115, 32, 84, 111, 111, 32, 76, 97, 114, 103, 101]⟩ : ByteArray), .string (⟨#[83, 101, 114, 118, 105, 99, 101, 32, 85, 110, 97, 118, 97, 105, 108, 97, 98, 108, 101]⟩ : ByteArray)]) (ok := fun _ => True) (okp := fun _ => True) ?hr ?hp (fun _ hk => hk) trivial (Below.refl _ _) (Nat.le_refl _) (by simp) ?_; (case hd => rfl); (case hg => rfl); (case hr => first | (go_simp; done) | (go_simp; rfl)); (case hp => exact (Reps.one (show Kd.M Kd.string _ _ _ (⟨#[79, 75]⟩ : ByteArray) [.string (⟨#[79, 75]⟩ : ByteArray)] from rfl) (Reps.one (show Kd.M Kd.string _ _ _ (⟨#[83, 101, 101, 32, 79, 116, 104, 101, 114]⟩ : ByteArray) [.string (⟨#[83, 101, 101, 32, 79, 116, 104, 101, 114]⟩ : ByteArray)] from rfl) (Reps.one (show Kd.M Kd.string _ _ _ (⟨#[66, 97, 100, 32, 82, 101, 113, 117, 101, 115, 116]⟩ : ByteArray) [.string (⟨#[66, 97, 100, 32, 82, 101, 113, 117, 101, 115, 116]⟩ : ByteArray)] from rfl) (Reps.one (show Kd.M Kd.string _ _ _ (⟨#[85, 110, 97, 117, 116, 104, 111, 114, 105, 122, 101, 100]⟩ : ByteArray) [.string (⟨#[85, 110, 97, 117, 116, 104, 111, 114, 105, 122, 101, 100]⟩ : ByteArray)] from rfl) (Reps.one (show Kd.M Kd.string _ _ _ (⟨#[70, 111, 114, 98, 105, 100, 100, 101, 110]⟩ : ByteArray) [.string (⟨#[70, 111, 114, 98, 105, 100, 100, 101, 110]⟩ : ByteArray)] from rfl) (Reps.one (show Kd.M Kd.string _ _ _ (⟨#[78, 111, 116, 32, 70, 111, 117, 110, 100]⟩ : ByteArray) [.string (⟨#[78, 111, 116, 32, 70, 111, 117, 110, 100]⟩ : ByteArray)] from rfl) (Reps.one (show Kd.M Kd.string _ _ _ (⟨#[77, 101, 116, 104, 111, 100, 32, 78, 111, 116, 32, 65, 108, 108, 111, 119, 101, 100]⟩ : ByteArray) [.string (⟨#[77, 101, 116, 104, 111, 100, 32, 78, 111, 116, 32, 65, 108, 108, 111, 119, 101, 100]⟩ : ByteArray)] from rfl) (Reps.one (show Kd.M Kd.string _ _ _ (⟨#[67, 111, 110, 102, 108, 105, 99, 116]⟩ : ByteArray) [.string (⟨#[67, 111, 110, 102, 108, 105, 99, 116]⟩ : ByteArray)] from rfl) (Reps.one (show Kd.M Kd.string _ _ _ (⟨#[67, 111, 110, 116, 101, 110, 116, 32, 84, 111, 111, 32, 76, 97, 114, 103, 101]⟩ : ByteArray) [.string (⟨#[67, 111, 110, 116, 101, 110, 116, 32, 84, 111, 111, 32, 76, 97, 114, 103, 101]⟩ : ByteArray)] from rfl) (Reps.one (show Kd.M Kd.string _ _ _ (⟨#[84, 111, 111, 32, 77, 97, 110, 121, 32, 82, 101, 113, 117, 101, 115, 116, 115]⟩ : ByteArray) [.string (⟨#[84, 111, 111, 32, 77, 97, 110, 121, 32, 82, 101, 113, 117, 101, 115, 116, 115]⟩ : ByteArray)] from rfl) (Reps.one (show Kd.M Kd.string _ _ _ (⟨#[82, 101, 113, 117, 101, 115, 116, 32, 72, 101, 97, 100, 101, 114, 32, 70, 105, 101, 108, 100, 115, 32, 84, 111, 111, 32, 76, 97, 114, 103, 101]⟩ : ByteArray) [.string (⟨#[82, 101, 113, 117, 101, 115, 116, 32, 72, 101, 97, 100, 101, 114, 32, 70, 105, 101, 108, 100, 115, 32, 84, 111, 111, 32, 76, 97, 114, 103, 101]⟩ : ByteArray)] from rfl) (Reps.one (show Kd.M Kd.string _ _ _ (⟨#[83, 101, 114, 118, 105, 99, 101, 32, 85, 110, 97, 118, 97, 105, 108, 97, 98, 108, 101]⟩ : ByteArray) [.string (⟨#[83, 101, 114, 118, 105, 99, 101, 32, 85, 110, 97, 118, 97, 105, 108, 97, 98, 108, 101]⟩ : ByteArray)] from rfl) (Reps.none _ _)))))))))))))); intro v787 w3 ho4 hb hg_ hnew_; clear hg_ hnew_; (first | rw [← Ny786.out] at ho4 | (simp only [Int.reduceToNat] at ho4; rw [← Ny786.out] at ho4)); have n0_ := Aside0.mk (Kd.R_lower ho4 (below_size (by repeat (first | (with_reducible first | apply bA | apply bN | apply bD) | exact HB.out)))); have n1_ := Aside0.mk (below_step (by repeat (first | (with_reducible first | apply bA | apply bN | apply bD) | exact HB.out)) hb); clear HB; have HO788 := n0_; have HB := n1_; clear n0_ n1_; clear hb ho4) | ((with_reducible refine gate_callee (f := 29) rfl ?_); refine goesL_ (some 7) rfl rfl Tryd.func29 (by kernel_rfl) rfl #[] rfl (by (try simp only [List.map_toArray, List.map_cons, List.map_nil]); first | done | rfl | (simp only [List.length_drop, List.length_take]; rfl)) ?_; (with_reducible refine (wicketmanref10_Statuses.calls  t789 _ A2.out).mono ?_); rintro e w5 ⟨v790, rfl, ho0, hb⟩; refine ⟨_, rfl, ?_⟩; have n0_ := Aside0.mk (Kd.R_below (by (with_reducible repeat (first | apply Kd.R_alloc | apply Kd.R_drewN | apply Kd.R_drew)); exact HO788.out) hb); have n1_ := Aside0.mk (Kd.R_lower ho0 (below_size (by repeat (first | (with_reducible first | apply bA | apply bN | apply bD) | exact HB.out)))); have n2_ := Aside0.mk (below_step (by repeat (first | (with_reducible first | apply bA | apply bN | apply bD) | exact HB.out)) hb); clear HO788; clear HB; have HO788 := n0_; have HO791 := n1_; have HB := n2_; clear n0_ n1_ n2_; (try clear hb); (try clear hb2); (try clear hk); (try clear hi); (try clear ho0)))
 go_loopg [5] k (fun kq v5 w' => ∃ (x5_1 : Int), v5 = .int .i64 x5_1 ∧ Aside0 (wicketmanref10_Reason.l0 kq a0 y786 t789 x5_1 = some r) ∧ Aside0 (kq ≤ k) ∧ Aside0 (Kd.R Kd.string 9 w' w.heap.size (fun _ => True) v787 y786) ∧ Aside0 (Kd.R (Kd.int .i64) 3 w' w.heap.size (fun _ => True) v790 t789) ∧ Aside0 (Below w.heap.size w w'))
 case atStart => exact ⟨(0), (by first | rfl | (simp; done) | (simp [*]; done)), H', ⟨Nat.le_refl _⟩, ⟨by (with_reducible repeat (first | apply Kd.R_alloc | apply Kd.R_drewN | apply Kd.R_drew)); exact HO788.out⟩, ⟨by (with_reducible repeat (first | apply Kd.R_alloc | apply Kd.R_drewN | apply Kd.R_drew)); exact HO791.out⟩, ⟨by repeat (first | (with_reducible first | apply bA | apply bN | apply bD) | exact HB.out)⟩⟩
 case round =>
  clear H'
  try clear c2
  try clear p2
  try clear c4
  obtain ⟨x5_1, rfl, HA, HK1, HO_3, HO_4, HB⟩ := hrel
  cases gk with
  | zero => exact absurd HA.out (by simp [wicketmanref10_Reason.l0])
  | succ k1 =>
   have H := HA.out
   clear HA
   simp only [wicketmanref10_Reason.l0] at H
   by_cases c6 : x5_1 < (t789.length : Int)
   ·rw [if_pos c6] at H
    have c6b0 : decide (x5_1 < (t789.length : Int)) = true := decide_eq_true c6
    clear c6
    by_cases c7 : 0 ≤ x5_1
    ·rw [if_pos c7] at H
     have c7b0 : decide (0 ≤ x5_1) = true := decide_eq_true c7
     clear c7
     by_cases c8 : (rd t789 x5_1) = a0
     ·rw [if_pos c8] at H
      have c8b0 : ((rd t789 x5_1) == a0) = true := beq_iff_eq.mpr c8
      have c8b1 : ((rd t789 x5_1) != a0) = false := bne_eq_false_iff_eq.mpr c8
      clear c8
      by_cases c9 : x5_1 < (y786.length : Int)
      ·rw [if_pos c9] at H
       have c9b0 : decide (x5_1 < (y786.length : Int)) = true := decide_eq_true c9
       clear c9
       obtain rfl := Option.some.inj H
       obtain ⟨Ao10, co10, eo10⟩ := Kd.R_slice HO_4.out
       subst eo10
       have p792 : 0 ≤ (x5_1 : Int) := of_decide_eq_true (by first | (with_reducible assumption) | assumption)
       have q792 : x5_1 < (t789.length : Int) := of_decide_eq_true (by first | (with_reducible assumption) | assumption)
       obtain ⟨ad792, e792, hx792_0⟩ := Kd.at_int (Kd.R_reads' HO_4.out).2.2 x5_1 p792 q792
       cases e792
       replace p792 := eq_true p792
       replace q792 := eq_true q792
       obtain ⟨Ao11, co11, eo11⟩ := Kd.R_slice HO_3.out
       subst eo11
       have p793 : 0 ≤ (x5_1 : Int) := of_decide_eq_true (by first | (with_reducible assumption) | assumption)
       have q793 : x5_1 < (y786.length : Int) := of_decide_eq_true (by first | (with_reducible assumption) | assumption)
       obtain ⟨ad793, e793, hx793_0⟩ := Kd.at_string (Kd.R_reads' HO_3.out).2.2 x5_1 p793 q793
       cases e793
       replace p793 := eq_true p793
       replace q793 := eq_true q793
       go_wp2
       go_ret
       exact ⟨by first | rfl | (simp [errW_none, errW_some] <;> rfl) | (simp [*, errW_none, errW_some] <;> rfl), by repeat (first | (with_reducible first | apply bA | apply bN | apply bD) | exact HB.out)⟩
      ·rw [if_neg c9] at H
       exact absurd H (by simp)
     ·rw [if_neg c8] at H
      have c8b0 : ((rd t789 x5_1) == a0) = false := beq_eq_false_iff_ne.mpr c8
      have c8b1 : ((rd t789 x5_1) != a0) = true := bne_iff_ne.mpr c8
      have H' := Aside0.mk H
      clear H
      obtain ⟨Ao12, co12, eo12⟩ := Kd.R_slice HO_4.out
      subst eo12
      have p792 : 0 ≤ (x5_1 : Int) := of_decide_eq_true (by first | (with_reducible assumption) | assumption)
      have q792 : x5_1 < (t789.length : Int) := of_decide_eq_true (by first | (with_reducible assumption) | assumption)
      obtain ⟨ad792, e792, hx792_0⟩ := Kd.at_int (Kd.R_reads' HO_4.out).2.2 x5_1 p792 q792
      cases e792
      replace p792 := eq_true p792
      replace q792 := eq_true q792
      go_wp2
      go_roundg k1
      case measure => have := HK1.out; omega
      case rel => exact ⟨(wrap64 (x5_1 + 1)), (by first | rfl | (simp; done) | (simp [*]; done)), H', ⟨by have := HK1.out; omega⟩, ⟨by (with_reducible repeat (first | apply Kd.R_alloc | apply Kd.R_drewN | apply Kd.R_drew)); exact HO_3.out⟩, ⟨by (with_reducible repeat (first | apply Kd.R_alloc | apply Kd.R_drewN | apply Kd.R_drew)); exact HO_4.out⟩, ⟨by repeat (first | (with_reducible first | apply bA | apply bN | apply bD) | exact HB.out)⟩⟩
    ·rw [if_neg c7] at H
     exact absurd H (by simp)
   ·rw [if_neg c6] at H
    have c6b0 : decide (x5_1 < (t789.length : Int)) = false := decide_eq_false c6
    clear c6
    obtain rfl := Option.some.inj H
    obtain ⟨Ao13, co13, eo13⟩ := Kd.R_slice HO_4.out
    subst eo13
    go_wp2
    go_ret
    exact ⟨by first | rfl | (simp [errW_none, errW_some] <;> rfl) | (simp [*, errW_none, errW_some] <;> rfl), by repeat (first | (with_reducible first | apply bA | apply bN | apply bD) | exact HB.out)⟩
def wicketmanref08_Print.j0 : Nat → Bool → ByteArray → ByteArray → Option (ByteArray × Int)
 | 0, _, _, _ => none
 | k + 1, x14, x795000, x795001 => if x14 = true then (some ((⟨#[]⟩ : ByteArray), 12)) else (if x795000.size + 2 ≤ 9223372036854775807 then (if (x795000 ++ (⟨#[58, 32]⟩ : ByteArray)).size + x795001.size ≤ 9223372036854775807 then (if (((x795000 ++ (⟨#[58, 32]⟩ : ByteArray)) ++ x795001).size : Int) > 2000 then (some ((⟨#[]⟩ : ByteArray), 3)) else (some ((x795000 ++ (⟨#[58, 32]⟩ : ByteArray)) ++ x795001, 0))) else (none)) else (none))
def wicketmanref08_Print.f (k : Nat) (a0_0 : ByteArray) (a0_1 : ByteArray) : Option (ByteArray × Int) := (wicketmanref08_Token.f k a0_0).bind fun t795 => (if t795 = true then ((wicketmanref08_Value.f k a0_1).bind fun t796 => (wicketmanref08_Print.j0 k (!t796) a0_0 a0_1)) else (wicketmanref08_Print.j0 k true a0_0 a0_1))
theorem wicketmanref08_Print.mono_l : ∀ k, (∀ y0 y1 y2, LeO (wicketmanref08_Print.j0 k y0 y1 y2) (wicketmanref08_Print.j0 (k + 1) y0 y1 y2))
 | 0 => fun _ _ _ r h => by simp [wicketmanref08_Print.j0] at h
 | k + 1 => by
  have ih0 := wicketmanref08_Print.mono_l k
  ·intro y0 y1 y2
   unfold wicketmanref08_Print.j0
   repeat' first
   | (with_reducible exact ih0 _ _ _)
   | (with_reducible exact wicketmanref08_Token.mono _ _)
   | (with_reducible exact wicketmanref08_Value.mono _ _)
   | (with_reducible exact LeO.refl _)
   | (with_reducible exact LeO.none _)
   | (with_reducible refine LeO.ite ?_ ?_)
   | (with_reducible refine LeO.bind ?_ (fun _ => ?_))
   | exact ih0 _ _ _
   | exact wicketmanref08_Token.mono _ _
   | exact wicketmanref08_Value.mono _ _
   | exact LeO.none _
   | refine LeO.ite ?_ ?_
   | refine LeO.bind ?_ (fun _ => ?_)
theorem wicketmanref08_Print.mono : ∀ a0 a1 k, LeO (wicketmanref08_Print.f k a0 a1) (wicketmanref08_Print.f (k + 1) a0 a1) := by
 intro a0 a1 k
 have ih0 := wicketmanref08_Print.mono_l k
 unfold wicketmanref08_Print.f
 repeat' first
   | (with_reducible exact ih0 _ _ _)
   | (with_reducible exact wicketmanref08_Token.mono _ _)
   | (with_reducible exact wicketmanref08_Value.mono _ _)
   | (with_reducible exact LeO.refl _)
   | (with_reducible exact LeO.none _)
   | (with_reducible refine LeO.ite ?_ ?_)
   | (with_reducible refine LeO.bind ?_ (fun _ => ?_))
   | exact ih0 _ _ _
   | exact wicketmanref08_Token.mono _ _
   | exact wicketmanref08_Value.mono _ _
   | exact LeO.none _
   | refine LeO.ite ?_ ?_
   | refine LeO.bind ?_ (fun _ => ?_)
set_option maxHeartbeats 8000000 in
set_option maxRecDepth 100000 in
theorem wicketmanref08_Print.calls (k : Nat) (a0_0 : ByteArray) (a0_1 : ByteArray) (r1 : ByteArray) (r2 : Int) (w : World) (h : wicketmanref08_Print.f k a0_0 a0_1 = some (r1, r2)) :
  Calls Tryd.prog 63 #[.agg #[.string a0_0, .string a0_1]] w fun e w' => e = .returned (.tuple #[.string r1, .int .i64 r2]) ∧ Below w.heap.size w w' := by
 have hu43 := Tryd.underlying43
 have HB := Aside0.mk (Below.refl w.heap.size w)
 have H : ((wicketmanref08_Token.f k a0_0).bind fun t795 => (if t795 = true then ((wicketmanref08_Value.f k a0_1).bind fun t796 => (wicketmanref08_Print.j0 k (!t796) a0_0 a0_1)) else (wicketmanref08_Print.j0 k true a0_0 a0_1))) = some (r1, r2) := h
 clear h
 have HC2 := Aside0.mk H
 clear H
 go_enter Tryd.func63, Tryd.ntmps63
 go_upto_region 1 with (first | ((with_reducible refine gate_dst (N := 1) rfl ?_); refine box_event ?hg (N := 1) ?hd (cs := #[.string a0_0, .string a0_1]) (t := 43) ?hr ?_; (case hd => rfl); (case hg => rfl); (case hr => first | (go_simp; done) | (go_simp; rfl)); intro gb794 hg w3 hbox hb; have n0_ := Aside0.mk (below_step (by repeat (first | (with_reducible first | apply bA | apply bN | apply bD) | exact HB.out)) hb); have n1_ := Aside0.mk (hbox); have n2_ := Aside0.mk ((by rw [hg]; exact (below_size (by repeat (first | (with_reducible first | apply bA | apply bN | apply bD) | exact HB.out))) : w.heap.size ≤ gb794)); have n3_ := Aside0.mk ((by rw [hg]; exact (below_size (by repeat (first | (with_reducible first | apply bA | apply bN | apply bD) | exact HB.out))) : w.heap.size ≤ gb794)); clear HB; have HB := n0_; have BK794 := n1_; have GW794 := n2_; have GE794 := n3_; clear n0_ n1_ n2_ n3_; clear hb hbox hg))
 (try simp only [Act.put, List.setIfInBounds_toArray, List.set_cons_zero, List.set_cons_succ])
 go_cut [14] (fun v14 wc => ∃ (kq : Nat) (x14_1 : Bool), v14 = .bool x14_1 ∧ Aside0 (wicketmanref08_Print.j0 kq x14_1 a0_0 a0_1 = some (r1, r2)) ∧ Aside0 (kq ≤ k) ∧ Aside0 (wc.heap[gb794]? = some (.cells #[.string a0_0, .string a0_1] 43 (0, 0))) ∧ Aside0 (Below w.heap.size w wc))
 case first =>
  have H := HC2.out
  clear HC2
  replace H := Option.bind_eq_some_iff.mp H
  obtain ⟨t795, A40, H⟩ := H
  try dsimp only at H
  have A4 := Aside0.mk A40
  clear A40
  by_cases c5 : t795 = true
  ·subst c5
   rw [if_pos rfl] at H
   replace H := Option.bind_eq_some_iff.mp H
   obtain ⟨t796, A60, H⟩ := H
   try dsimp only at H
   have A6 := Aside0.mk A60
   clear A60
   have H' := Aside0.mk H
   clear H
   have hcz7_0 : w3.cell? ⟨gb794, 0, none⟩ = some (.string a0_0) := (blk_cell BK794.out 0).trans rfl
   have hcz7_1 : w3.cell? ⟨gb794, 1, none⟩ = some (.string a0_1) := (blk_cell BK794.out 1).trans rfl
   have hfz7_0 := blk_frozen BK794.out 0
   have hfz7_1 := blk_frozen BK794.out 1
   go_wp2_with (first | ((with_reducible refine gate_callee (f := 82) rfl ?_); refine goesL_ (some 7) rfl rfl Tryd.func82 (by kernel_rfl) rfl #[.string a0_0] rfl (by (try simp only [List.map_toArray, List.map_cons, List.map_nil]); first | done | rfl | (simp only [List.length_drop, List.length_take]; rfl)) ?_; (with_reducible refine (wicketmanref08_Token.calls k a0_0 true _ A4.out).mono ?_); rintro e w' ⟨rfl, ⟨nd, rfl⟩⟩; refine ⟨_, rfl, ?_⟩) | (go_at_call 83; (with_reducible refine (wicketmanref08_Value.calls k a0_1 t796 _ A6.out).mono ?_); rintro e w' ⟨rfl, ⟨nd, rfl⟩⟩))
   go_meet
   case rel => exact ⟨_, (!t796), (by first | rfl | (simp; done) | (simp [*]; done)), H', ⟨by first | omega | exact Nat.le_refl _⟩, ⟨by (with_reducible repeat (first | refine blk_drewN ?_ _ | refine blk_drew ?_ | refine blk_alloc ?_ _)); exact BK794.out⟩, ⟨by repeat (first | (with_reducible first | apply bA | apply bN | apply bD | refine below_set ?_ GE794.out) | exact HB.out)⟩⟩
  ·replace c5 := Bool.eq_false_iff.mpr c5
   subst c5
   rw [if_neg (show ¬ (false = true) by decide)] at H
   have H' := Aside0.mk H
   clear H
   have hcz8_0 : w3.cell? ⟨gb794, 0, none⟩ = some (.string a0_0) := (blk_cell BK794.out 0).trans rfl
   have hcz8_1 : w3.cell? ⟨gb794, 1, none⟩ = some (.string a0_1) := (blk_cell BK794.out 1).trans rfl
   have hfz8_0 := blk_frozen BK794.out 0
   have hfz8_1 := blk_frozen BK794.out 1
   go_wp2_with (first | ((with_reducible refine gate_callee (f := 82) rfl ?_); refine goesL_ (some 7) rfl rfl Tryd.func82 (by kernel_rfl) rfl #[.string a0_0] rfl (by (try simp only [List.map_toArray, List.map_cons, List.map_nil]); first | done | rfl | (simp only [List.length_drop, List.length_take]; rfl)) ?_; (with_reducible refine (wicketmanref08_Token.calls k a0_0 false _ A4.out).mono ?_); rintro e w' ⟨rfl, ⟨nd, rfl⟩⟩; refine ⟨_, rfl, ?_⟩))
   go_meet
   case rel => exact ⟨_, (true), (by first | rfl | (simp; done) | (simp [*]; done)), H', ⟨by first | omega | exact Nat.le_refl _⟩, ⟨by (with_reducible repeat (first | refine blk_drewN ?_ _ | refine blk_drew ?_ | refine blk_alloc ?_ _)); exact BK794.out⟩, ⟨by repeat (first | (with_reducible first | apply bA | apply bN | apply bD | refine below_set ?_ GE794.out) | exact HB.out)⟩⟩
 case rest =>
  clear HC2
  try clear p2
  try clear c5
  try clear c6
  try clear c8
  try clear hcz7_0
  try clear hcz7_1
  try clear hcz8_0
  try clear hcz8_1
  try clear hfz7_0
  try clear hfz7_1
  try clear hfz8_0
  try clear hfz8_1
  obtain ⟨kq, x14_1, rfl, HA, HJ1, BK794, HB⟩ := hcut
  cases kq with
  | zero => exact absurd HA.out (by simp [wicketmanref08_Print.j0])
  | succ kj1 =>
   have H := HA.out
   clear HA
   simp only [wicketmanref08_Print.j0] at H
   by_cases c9 : x14_1 = true
   ·subst c9
    rw [if_pos rfl] at H
    simp only [Option.some.injEq, Prod.mk.injEq] at H
    obtain ⟨rfl, rfl⟩ := H
    go_wp2
    go_ret2
    exact ⟨by first | rfl | (simp [errW_none, errW_some] <;> rfl) | (simp [*, errW_none, errW_some] <;> rfl), by repeat (first | (with_reducible first | apply bA | apply bN | apply bD | refine below_set ?_ GE794.out) | exact HB.out)⟩
   ·replace c9 := Bool.eq_false_iff.mpr c9
    subst c9
    rw [if_neg (show ¬ (false = true) by decide)] at H
    by_cases c10 : a0_0.size + 2 ≤ 9223372036854775807
    ·rw [if_pos c10] at H
     have c10b0 := eq_true c10
     have c10b1 : decide (a0_0.size + 2 ≤ 9223372036854775807) = true := decide_eq_true c10
     try have c10b2 : (9223372036854775807 < a0_0.size + 2) = False := eq_false (Nat.not_lt.2 c10)
     by_cases c11 : (a0_0 ++ (⟨#[58, 32]⟩ : ByteArray)).size + a0_1.size ≤ 9223372036854775807
     ·rw [if_pos c11] at H
      have c11b0 := eq_true c11
      have c11b1 : decide ((a0_0 ++ (⟨#[58, 32]⟩ : ByteArray)).size + a0_1.size ≤ 9223372036854775807) = true := decide_eq_true c11
      try have c11b2 : (9223372036854775807 < (a0_0 ++ (⟨#[58, 32]⟩ : ByteArray)).size + a0_1.size) = False := eq_false (Nat.not_lt.2 c11)
      try (have c11b8 := c11b2; simp only [ByteArray.size_append, show ((⟨#[58, 32]⟩ : ByteArray) : ByteArray).size = 2 from rfl] at c11b8)
      by_cases c12 : (((a0_0 ++ (⟨#[58, 32]⟩ : ByteArray)) ++ a0_1).size : Int) > 2000
      ·rw [if_pos c12] at H
       have c12b0 : decide (2000 < (((a0_0 ++ (⟨#[58, 32]⟩ : ByteArray)) ++ a0_1).size : Int)) = true := decide_eq_true c12
       have c12b1 : decide (2000 < ((a0_0 ++ (⟨#[58, 32]⟩ : ByteArray)) ++ a0_1).size) = true := decide_eq_true (by omega)
       try (have c12b9 := c12; simp [ByteArray.size_append, show ((⟨#[58, 32]⟩ : ByteArray)).size = 2 from rfl] at c12b9)
       clear c12
       simp only [Option.some.injEq, Prod.mk.injEq] at H
       obtain ⟨rfl, rfl⟩ := H
       have hcz13_0 : wc.cell? ⟨gb794, 0, none⟩ = some (.string a0_0) := (blk_cell BK794.out 0).trans rfl
       have hcz13_1 : wc.cell? ⟨gb794, 1, none⟩ = some (.string a0_1) := (blk_cell BK794.out 1).trans rfl
       have hfz13_0 := blk_frozen BK794.out 0
       have hfz13_1 := blk_frozen BK794.out 1
       go_wp2
       go_ret2
       exact ⟨by first | rfl | (simp [errW_none, errW_some] <;> rfl) | (simp [*, errW_none, errW_some] <;> rfl), by repeat (first | (with_reducible first | apply bA | apply bN | apply bD | refine below_set ?_ GE794.out) | exact HB.out)⟩
      ·rw [if_neg c12] at H
       have c12b0 : decide (2000 < (((a0_0 ++ (⟨#[58, 32]⟩ : ByteArray)) ++ a0_1).size : Int)) = false := decide_eq_false c12
       have c12b1 : decide (2000 < ((a0_0 ++ (⟨#[58, 32]⟩ : ByteArray)) ++ a0_1).size) = false := decide_eq_false (by omega)
       try (have c12b9 := c12; simp [ByteArray.size_append, show ((⟨#[58, 32]⟩ : ByteArray)).size = 2 from rfl] at c12b9)
       clear c12
       simp only [Option.some.injEq, Prod.mk.injEq] at H
       obtain ⟨rfl, rfl⟩ := H
       have hcz14_0 : wc.cell? ⟨gb794, 0, none⟩ = some (.string a0_0) := (blk_cell BK794.out 0).trans rfl
       have hcz14_1 : wc.cell? ⟨gb794, 1, none⟩ = some (.string a0_1) := (blk_cell BK794.out 1).trans rfl
       have hfz14_0 := blk_frozen BK794.out 0
       have hfz14_1 := blk_frozen BK794.out 1
       go_wp2
       go_ret2
       exact ⟨by first | rfl | (simp [errW_none, errW_some] <;> rfl) | (simp [*, errW_none, errW_some] <;> rfl), by repeat (first | (with_reducible first | apply bA | apply bN | apply bD | refine below_set ?_ GE794.out) | exact HB.out)⟩
     ·rw [if_neg c11] at H
      exact absurd H (by simp)
    ·rw [if_neg c10] at H
     exact absurd H (by simp)
end Go.Proofs.YtpfbemcoblganaaDoor.Pall
