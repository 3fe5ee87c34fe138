/-
Pages, responses that are the same, reasons: the document's and the program's.
wicketmanref19.Busy by hand: a page where nothing is said but a status.
-/
import Derived.Test.YthdiiiopjkaifaaGreatDoorZdPall0
import Derived.Test.YthdiiiopjkaifaaGreatDoorZdPall17
import Derived.Test.YthdiiiopjkaifaaGreatDoorZdPlb
import Derived.Test.YthdiiiopjkaifaaGreatDoorZdReason
import Derived.Test.YthdiiiopjkaifaaGreatDoorZdPall15
import Derived.Test.YthdiiiopjkaifaaGreatDoorZdPall4
import Derived.Test.YthdiiiopjkaifaaGreatDoorZdPall9
import Derived.Test.YthdiiiopjkaifaaGreatDoorZdPall5
import Derived.Test.YthdiiiopjkaifaaGreatDoorZdSt
import Derived.Test.YthdiiiopjkaifaaGreatDoorZdGpage
import Derived.Test.YthdiiiopjkaifaaGreatDoorZdReal
import Derived.Test.YthdiiiopjkaifaaGreatDoorZdPall10
section
namespace Go.Proofs.YthdiiiopjkaifaaGreatDoor.Pall
open Go.RowKit Go.Proofs.YthdiiiopjkaifaaGreatDoorW.PrintWords Go.Proofs.YthdiiiopjkaifaaGreatDoorW.PrintLast
set_option linter.unusedVariables false
set_option linter.unusedSimpArgs false
def wicketmanlaw06_Text.l0 : Nat → List Int → List ByteArray → ByteArray → Int → Option (ByteArray)
 | 0, _, _, _, _ => none
 | k + 1, x0, x3, x4, x5 => if x5 < (x0.length : Int) then (if x5 < 60 then (if 0 ≤ x5 then (if (x3.length : Int) = 0 then (none) else (if 0 ≤ (Int.tmod (wrap64 (rd x0 x5)) (x3.length : Int)) then (if (Int.tmod (wrap64 (rd x0 x5)) (x3.length : Int)) < (x3.length : Int) then (if x4.size + (rdOf ByteArray.empty x3 (Int.tmod (wrap64 (rd x0 x5)) (x3.length : Int))).size ≤ 9223372036854775807 then (wicketmanlaw06_Text.l0 k x0 x3 (x4 ++ (rdOf ByteArray.empty x3 (Int.tmod (wrap64 (rd x0 x5)) (x3.length : Int)))) (wrap64 (x5 + 1))) else (none)) else (none)) else (none))) else (none)) else (some x4)) else (some x4)
def wicketmanlaw06_Text.f (k : Nat) (l0 : List Int) : Option (ByteArray) := wicketmanlaw06_Text.l0 k l0 (([(⟨#[97]⟩ : ByteArray), (⟨#[98]⟩ : ByteArray), (⟨#[122]⟩ : ByteArray), (⟨#[95]⟩ : ByteArray), (⟨#[48]⟩ : ByteArray), (⟨#[55]⟩ : ByteArray), (⟨#[32]⟩ : ByteArray), (⟨#[10]⟩ : ByteArray), (⟨#[195, 169]⟩ : ByteArray), (⟨#[226, 130, 172]⟩ : ByteArray), (⟨#[240, 159, 152, 128]⟩ : ByteArray), (⟨#[38]⟩ : ByteArray), (⟨#[60]⟩ : ByteArray), (⟨#[62]⟩ : ByteArray), (⟨#[34]⟩ : ByteArray), (⟨#[39]⟩ : ByteArray), (⟨#[255]⟩ : ByteArray), (⟨#[195]⟩ : ByteArray), (⟨#[127]⟩ : ByteArray), (⟨#[237, 160, 128]⟩ : ByteArray), (⟨#[192, 128]⟩ : ByteArray), (⟨#[239, 191, 189]⟩ : ByteArray), (⟨#[65]⟩ : ByteArray), (⟨#[61]⟩ : ByteArray)] : List ByteArray)) (⟨#[]⟩ : ByteArray) 0
theorem wicketmanlaw06_Text.mono_l : ∀ k, (∀ y0 y1 y2 y3, LeO (wicketmanlaw06_Text.l0 k y0 y1 y2 y3) (wicketmanlaw06_Text.l0 (k + 1) y0 y1 y2 y3))
 | 0 => fun _ _ _ _ r h => by simp [wicketmanlaw06_Text.l0] at h
 | k + 1 => by
  have ih0 := wicketmanlaw06_Text.mono_l k
  ·intro y0 y1 y2 y3
   unfold wicketmanlaw06_Text.l0
   repeat' first | (with_reducible first | exact ih0 _ _ _ _ | exact LeO.refl _ | exact LeO.none _ | refine LeO.ite ?_ ?_ | refine LeO.bind ?_ (fun _ => ?_)) | exact LeO.none _ | refine LeO.ite ?_ ?_ | refine LeO.bind ?_ (fun _ => ?_)
theorem wicketmanlaw06_Text.mono : ∀ a0 k, LeO (wicketmanlaw06_Text.f k a0) (wicketmanlaw06_Text.f (k + 1) a0) := by
 intro a0 k
 have ih0 := wicketmanlaw06_Text.mono_l k
 unfold wicketmanlaw06_Text.f
 repeat' first | (with_reducible first | exact ih0 _ _ _ _ | exact LeO.refl _ | exact LeO.none _ | refine LeO.ite ?_ ?_ | refine LeO.bind ?_ (fun _ => ?_)) | exact LeO.none _ | refine LeO.ite ?_ ?_ | refine LeO.bind ?_ (fun _ => ?_)
def wicketmanlaw16_ID.f (k : Nat) (a0 : Int) : Option (ByteArray) := if 32 ≤ 281474976710656 then ((some (List.replicate 32 0 : List Int)).bind fun y374 => (if 0 < (y374.length : Int) then (if 31 < (y374.length : Int) then ((wicketmanref05_Text.f k ((y374.set (0 : Int).toNat a0).set (31 : Int).toNat (Go.bits .xor .u8 a0 90))).bind fun t379 => (some t379)) else (none)) else (none))) else (none)
theorem wicketmanlaw16_ID.mono : ∀ a0 k, LeO (wicketmanlaw16_ID.f k a0) (wicketmanlaw16_ID.f (k + 1) a0) := by
 intro a0 k
 unfold wicketmanlaw16_ID.f
 repeat' first | (with_reducible first | exact wicketmanref05_Text.mono _ _ | exact LeO.refl _ | exact LeO.none _ | refine LeO.ite ?_ ?_ | refine LeO.bind ?_ (fun _ => ?_)) | exact LeO.none _ | refine LeO.ite ?_ ?_ | refine LeO.bind ?_ (fun _ => ?_)
def wicketmanref07_Same.l0 : Nat → List (S76) → List (S76) → Int → Option (Bool)
 | 0, _, _, _ => none
 | k + 1, x0, x1, x5 => if x5 < (x0.length : Int) then (if 0 ≤ x5 then (if x5 < (x1.length : Int) then (if (!((((rd_T76 x0 x5).f0).toList) == (((rd_T76 x1 x5).f0).toList)) || (!((((rd_T76 x0 x5).f1).toList) == (((rd_T76 x1 x5).f1).toList)))) = true then (some false) else (wicketmanref07_Same.l0 k x0 x1 (wrap64 (x5 + 1)))) else (none)) else (none)) else (some true)
def wicketmanref07_Same.f (k : Nat) (l0 : List (S76)) (l1 : List (S76)) : Option (Bool) := if (l0.length : Int) = (l1.length : Int) then (wicketmanref07_Same.l0 k l0 l1 0) else (some false)
theorem wicketmanref07_Same.mono_l : ∀ k, (∀ y0 y1 y2, LeO (wicketmanref07_Same.l0 k y0 y1 y2) (wicketmanref07_Same.l0 (k + 1) y0 y1 y2))
 | 0 => fun _ _ _ r h => by simp [wicketmanref07_Same.l0] at h
 | k + 1 => by
  have ih0 := wicketmanref07_Same.mono_l k
  ·intro y0 y1 y2
   unfold wicketmanref07_Same.l0
   repeat' first | (with_reducible first | exact ih0 _ _ _ | exact LeO.refl _ | exact LeO.none _ | refine LeO.ite ?_ ?_ | refine LeO.bind ?_ (fun _ => ?_)) | exact LeO.none _ | refine LeO.ite ?_ ?_ | refine LeO.bind ?_ (fun _ => ?_)
theorem wicketmanref07_Same.mono : ∀ a0 a1 k, LeO (wicketmanref07_Same.f k a0 a1) (wicketmanref07_Same.f (k + 1) a0 a1) := by
 intro a0 a1 k
 have ih0 := wicketmanref07_Same.mono_l k
 unfold wicketmanref07_Same.f
 repeat' first | (with_reducible first | exact ih0 _ _ _ | exact LeO.refl _ | exact LeO.none _ | refine LeO.ite ?_ ?_ | refine LeO.bind ?_ (fun _ => ?_)) | exact LeO.none _ | refine LeO.ite ?_ ?_ | refine LeO.bind ?_ (fun _ => ?_)
def wicketmanref10_Same.f (k : Nat) (a0_0 : Int) (l0_1 : List (S76)) (l0_2 : List Int) (a1_0 : Int) (l1_1 : List (S76)) (l1_2 : List Int) : Option (Bool) := if a0_0 = a1_0 then ((wicketmanref07_Same.f k l0_1 l1_1).bind fun t384 => (if t384 = true then (some ((strOfNums l0_2).toList == (strOfNums l1_2).toList)) else (some false))) else (some false)
theorem wicketmanref10_Same.mono : ∀ a0 a1 a2 a3 a4 a5 k, LeO (wicketmanref10_Same.f k a0 a1 a2 a3 a4 a5) (wicketmanref10_Same.f (k + 1) a0 a1 a2 a3 a4 a5) := by
 intro a0 a1 a2 a3 a4 a5 k
 unfold wicketmanref10_Same.f
 repeat' first | (with_reducible first | exact wicketmanref07_Same.mono _ _ _ | exact LeO.refl _ | exact LeO.none _ | refine LeO.ite ?_ ?_ | refine LeO.bind ?_ (fun _ => ?_)) | exact LeO.none _ | refine LeO.ite ?_ ?_ | refine LeO.bind ?_ (fun _ => ?_)
end Go.Proofs.YthdiiiopjkaifaaGreatDoor.Pall
end
section
namespace Go.Proofs.YthdiiiopjkaifaaGreatDoor.Pl
open Go.RowKit Go.Proofs.YthdiiiopjkaifaaGreatDoor.Pall Go.Proofs.YthdiiiopjkaifaaGreatDoorW.PrintWords
set_option linter.unusedVariables false
set_option linter.unusedSimpArgs false
def two : List S76 := [⟨⟨#[67, 111, 110, 116, 101, 110, 116, 45, 84, 121, 112, 101]⟩, ⟨#[116, 101, 120, 116, 47, 112, 108, 97, 105, 110, 59, 32, 99, 104, 97, 114, 115, 101, 116, 61, 117, 116, 102, 45, 56]⟩⟩, ⟨⟨#[67, 97, 99, 104, 101, 45, 67, 111, 110, 116, 114, 111, 108]⟩, ⟨#[110, 111, 45, 115, 116, 111, 114, 101]⟩⟩]
theorem page_some (a : Int) (s : ByteArray) (l : List S76) (hs : s.size ≤ 140737488351232) (hl : l.length ≤ 1000000000) : resp_Page.f a s l = some (a, two ++ l, btsOf s) := by
 unfold resp_Page.f
 rw [Option.bind_some, if_pos (by simp only [List.length_cons, List.length_nil]; omega), if_pos hs]; rfl
theorem refPage_some (a : Int) (s : ByteArray) (l : List S76) (hs : s.size ≤ 140737488351232) (hl : l.length ≤ 1000000000) : wicketmanref10_Page.f a s l = some (a, two ++ l, btsOf s) := by
 unfold wicketmanref10_Page.f
 rw [Option.bind_some, if_pos (by simp only [List.length_cons, List.length_nil]; omega), if_pos hs]; rfl
end Go.Proofs.YthdiiiopjkaifaaGreatDoor.Pl
end
section
namespace Go.Proofs.YthdiiiopjkaifaaGreatDoor.Pall
open Go.RowKit Go.Proofs.YthdiiiopjkaifaaGreatDoorW.PrintWords Go.Proofs.YthdiiiopjkaifaaGreatDoorW.PrintLast
set_option linter.unusedVariables false
set_option linter.unusedSimpArgs false
def gate_Busy.f  : Option (List Int) := (gate_bytes.f 0 0 0 0 ([] : List Int) 503 (⟨#[]⟩ : ByteArray) false (⟨#[]⟩ : ByteArray) (⟨#[]⟩ : ByteArray) (⟨#[]⟩ : ByteArray)).bind fun t257 => (some t257)
set_option maxHeartbeats 8000000 in
set_option maxRecDepth 100000 in
theorem gate_Busy.calls  (r : List Int) (w : World) (hT : Tb w) (h : gate_Busy.f  = some r) :
  Calls Tryz.prog 37 #[] w fun e w' => ∃ v0_ : Value, e = .returned (v0_) ∧ Kd.R (Kd.int .u8) 5 w' w.heap.size (fun _ => True) v0_ r ∧ Below w.heap.size w w' := by
 have hu40 := Tryz.underlying40
 have hu42 := Tryz.underlying42
 have HB := Aside0.mk (Below.refl w.heap.size w)
 have H : ((gate_bytes.f 0 0 0 0 ([] : List Int) 503 (⟨#[]⟩ : ByteArray) false (⟨#[]⟩ : ByteArray) (⟨#[]⟩ : ByteArray) (⟨#[]⟩ : ByteArray)).bind fun t257 => (some t257)) = some r := h
 clear h
 replace H := Option.bind_eq_some_iff.mp H
 obtain ⟨t257, A10, H⟩ := H
 try dsimp only at H
 have A1 := Aside0.mk A10
 clear A10
 obtain rfl := Option.some.inj H
 go_enter Tryz.func37, Tryz.ntmps37
 go_wp2_with (first | ((with_reducible refine gate_callee (f := 54) rfl ?_); refine goesL_ (some 3) rfl rfl Tryz.func54 (by kernel_rfl) rfl #[.agg #[.int .u64 0, .int .u64 0, .int .u64 0, .int .i64 0, .slice none 0 0], .agg #[.int .i64 503, .string (⟨#[]⟩ : ByteArray), .bool false, .string (⟨#[]⟩ : ByteArray), .string (⟨#[]⟩ : ByteArray), .string (⟨#[]⟩ : ByteArray)]] rfl (by (try simp only [List.map_toArray, List.map_cons, List.map_nil]); first | done | rfl | (simp only [List.length_drop, List.length_take]; rfl)) ?_; (refine (gate_bytes.calls 0 0 0 0 _ _ ([] : List Int) 503 (⟨#[]⟩ : ByteArray) false (⟨#[]⟩ : ByteArray) (⟨#[]⟩ : ByteArray) (⟨#[]⟩ : ByteArray) t257 _ ?side1 ?side2 (by first | exact hT | (refine Tb.of_below hT ?_; repeat (first | (with_reducible first | apply bA | apply bN | apply bD) | exact HB.out | refine Below.setCell ?_ (Aside0.out (by assumption)) _)) | (refine Tb.of_below hT ?_; assumption)) A1.out).mono ?_); (case side1 => exact Kd.C_nil _ _); (case side2 => exact Nat.le_refl _); rintro e w2 ⟨v258, rfl, ho0, hb⟩; refine ⟨_, rfl, ?_⟩; have n0_ := Aside0.mk (Kd.R_lower ho0 (below_size (by repeat (first | (with_reducible first | apply bA | apply bN | apply bD) | exact HB.out)))); have n1_ := Aside0.mk (below_step (by repeat (first | (with_reducible first | apply bA | apply bN | apply bD) | exact HB.out)) hb); clear HB; have HO259 := n0_; have HB := n1_; clear n0_ n1_; try clear hb; (try clear ho0)))
 go_ret
 exact ⟨_, by first | rfl | (simp [errW_none, errW_some] <;> rfl) | (simp [*, errW_none, errW_some] <;> rfl), by (with_reducible repeat (first | apply Kd.R_alloc | apply Kd.R_drewN | apply Kd.R_drew)); exact HO259.out, by repeat (first | (with_reducible first | apply bA | apply bN | apply bD) | exact HB.out)⟩
end Go.Proofs.YthdiiiopjkaifaaGreatDoor.Pall
end
section
namespace Go.Proofs.YthdiiiopjkaifaaGreatDoor.Pl
open Go Go.RowKit Go.Proofs.YthdiiiopjkaifaaGreatDoor.St Go.Proofs.YthdiiiopjkaifaaGreatDoor.Pall Go.Proofs.YthdiiiopjkaifaaGreatDoorW.PrintWords Go.Proofs.YthdiiiopjkaifaaGreatDoorW.PrintLast
set_option linter.unusedVariables false
set_option linter.unusedSimpArgs false
def bzB : ByteArray := reasonS 503 ++ (⟨#[10]⟩ : ByteArray)
theorem bz_reason : (wicketmanref10_Reason.f 30 503) = some (reasonS 503) := by decide +kernel
theorem bz_same : gate_Busy.f.isSome = true ∧ (wicketmanref10_Print.f 1000 503 two (btsOf bzB)) = (gate_Busy.f).map (fun b => (b, 0)) := by decide +kernel
theorem bz_size : (reasonS 503).size = 19 := by decide +kernel
theorem busypg_results (tmps : Array Value) (W : World) (N : Nat) (h4 : tmps.getD 4 undef = .pointer (some ⟨N, 0, none⟩)) (v0 v1 v2 : Value) (c : W.heap[N]? = some (.cells #[v0, v1, v2] 71 (0, 0))) :
  (results Tryz.f47 tmps).run Tryz.prog W = .ok (.agg #[v0, v1, v2]) W := by
 have hr : Tryz.f47.results = #[.cell 4 71] := rfl
 have hu := Tryz.underlying71
 have a0 := (blk_cell c 0).trans (show _ = some v0 from rfl)
 have a1 := (blk_cell c 1).trans (show _ = some v1 from rfl)
 have a2 := (blk_cell c 2).trans (show _ = some v2 from rfl)
 unfold results
 rw [hr]
 rw [Array.getD_eq_getD_getElem?] at h4
 simp [h4, loadVar, a0, a1, a2, go_sem, hu, isAgg, asAddr]
set_option maxRecDepth 100000 in
set_option maxHeartbeats 2000000 in
theorem busypage_any (W : World) : Calls Tryz.prog 47 #[.agg #[.int .u64 0, .int .u64 0, .int .u64 0, .int .i64 0, .slice none 0 0], .agg #[.int .i64 503, .string ⟨#[]⟩, .bool false, .string ⟨#[]⟩, .string ⟨#[]⟩, .string ⟨#[]⟩]] W (PgDone W 503 two (btsOf bzB)) := by
 have HS := hid ((((St.nil (Below.refl W.heap.size W)).newAt W.heap.size rfl #[.int .u64 0, .int .u64 0, .int .u64 0, .int .i64 0, .slice none 0 0] 40).newAt (W.heap.size + 1) (size_alloc _ _) #[.int .i64 503, .string ⟨#[]⟩, .bool false, .string ⟨#[]⟩, .string ⟨#[]⟩, .string ⟨#[]⟩] 42).newAt (W.heap.size + 1 + 1) (by rw [size_alloc, size_alloc]) #[.int .i64 0, .slice none 0 0, .slice none 0 0] 71)
 have hu1 := Tryz.underlying40
 have hu2 := Tryz.underlying42
 have hu3 := Tryz.underlying71
 have HREA := hid (fun (w : World) => wicketmanref10_Reason.calls 30 503 _ w bz_reason)
 have HPG := hid (fun (w : World) => (show Calls Tryz.prog 92 #[.int .i64 503, .string bzB, .slice none 0 0] w fun e w' => ∃ v1_ v2_ : Value, e = .returned (.agg #[.int .i64 503, v1_, v2_]) ∧ Kd.R k76 76 w' w.heap.size (fun k_ => (w.heap.size ≤ k_)) v1_ two ∧ Kd.V (Kd.int .u8) 5 w' w.heap.size (fun k_ => (w.heap.size ≤ k_) ∧ some k_ ≠ (v1_ : Value).ownBlock) v2_ (btsOf bzB) ∧ Below w.heap.size w w' from
  wicketmanref10_Page.calls 503 bzB none 0 [] _ _ _ w ⟨rfl, by decide, fun h => absurd h (by decide)⟩ (Nat.le_refl _) (refPage_some 503 bzB [] (by decide +kernel) (by decide))))
 obtain ⟨rs, hrs⟩ : ∃ s, s = reasonS 503 := ⟨_, rfl⟩
 have hsz : rs.size + 1 ≤ 9223372036854775807 := by rw [hrs, bz_size]; decide
 unfold bzB at HPG
 rw [← hrs] at HREA HPG
 have HRS := hid hrs
 clear hrs
 go_enter Tryz.func47, Tryz.ntmps47
 go_upto_region 2 with (fail)
 generalize ((W.alloc (.cells #[.int .u64 0, .int .u64 0, .int .u64 0, .int .i64 0, .slice none 0 0] 40)).alloc (.cells #[.int .i64 503, .string ⟨#[]⟩, .bool false, .string ⟨#[]⟩, .string ⟨#[]⟩, .string ⟨#[]⟩] 42)).alloc (.cells #[.int .i64 0, .slice none 0 0, .slice none 0 0] 71) = w0 at HS ⊢
 have y0 := HS.out.cell 1 0 rfl
 have y1 := HS.out.cell 1 1 rfl
 have y2 := HS.out.cell 1 2 rfl
 have y3 := HS.out.cell 1 3 rfl
 have y4 := HS.out.cell 1 4 rfl
 have y5 := HS.out.cell 1 5 rfl
 go_wp2_with (first
  | (go_at_call 91; refine (HREA.out _).mono ?_; rintro e w1 ⟨rfl, hb⟩; have HS1 := hid (HS.out.go hb); have t0 := HS1.out.cell 1 0 rfl; have t1 := HS1.out.cell 1 1 rfl; have t2 := HS1.out.cell 1 2 rfl; clear hb)
  | (go_at_call 92; refine (HPG.out _).mono ?_; rintro e w5 ⟨v1, v2, rfl, h1, h2, hb5⟩; have hs1 := Kd.R_slice h1; obtain ⟨A1, k1, rfl⟩ := hs1; have hs2 := Kd.V_slice h2; obtain ⟨A2, k2, rfl⟩ := hs2; have HS5 := hid (HS1.out.go hb5); have H1 := hid h1; have H2 := hid h2; have o0 := HS5.out.cell 0 0 rfl; have o1 := HS5.out.cell 0 1 rfl; have o2 := HS5.out.cell 0 2 rfl; have p0 := HS5.out.fz 0 0 rfl; have p1 := HS5.out.fz 0 1 rfl; have p2 := HS5.out.fz 0 2 rfl; clear h1 h2 hb5))
 have hlt : W.heap.size + 1 + 1 < w1.heap.size := HS1.out.lt 0 rfl (List.mem_singleton_self _)
 have hd := pg_done (r1 := 503) (HS5.out.box 0 rfl) (by omega) hlt HS1.out.bel.size HS5.out.bel H1.out H2.out
 refine ⟨rfl, _, busypg_results _ _ (W.heap.size + 1 + 1) rfl _ _ _ (blk_set (blk_set (blk_set (HS5.out.box 0 rfl) 0 _) 1 _) 2 _), ?_⟩
 have e := HRS.out
 subst e
 exact hd
set_option maxRecDepth 100000 in
set_option maxHeartbeats 2000000 in
theorem busyprint_any (W : World) (hT : Tb W) (bz : List Int) (hb : gate_Busy.f = some bz) : Calls Tryz.prog 82 #[.agg #[.int .u64 0, .int .u64 0, .int .u64 0, .int .i64 0, .slice none 0 0], .agg #[.int .i64 503, .string ⟨#[]⟩, .bool false, .string ⟨#[]⟩, .string ⟨#[]⟩, .string ⟨#[]⟩]] W
  fun e w' => ∃ v0_ : Value, e = .returned v0_ ∧ Kd.V (Kd.int .u8) 5 w' W.heap.size (fun k_ => (W.heap.size ≤ k_)) v0_ bz ∧ Below W.heap.size W w' := by
 have hp : wicketmanref10_Print.f 1000 503 two (btsOf bzB) = some (bz, 0) := by rw [bz_same.2, hb]; rfl
 have HS := hid (((St.nil (Below.refl W.heap.size W)).newAt W.heap.size rfl #[.int .u64 0, .int .u64 0, .int .u64 0, .int .i64 0, .slice none 0 0] 40).newAt (W.heap.size + 1) (size_alloc _ _) #[.int .i64 503, .string ⟨#[]⟩, .bool false, .string ⟨#[]⟩, .string ⟨#[]⟩, .string ⟨#[]⟩] 42)
 have HP := hid hp
 have HT := hid hT
 have hu1 := Tryz.underlying40
 have hu2 := Tryz.underlying42
 have hu3 := Tryz.underlying71
 clear hp hb hT
 go_enter Tryz.func82, Tryz.ntmps82
 go_upto_region 1 with (fail)
 generalize (W.alloc (.cells #[.int .u64 0, .int .u64 0, .int .u64 0, .int .i64 0, .slice none 0 0] 40)).alloc (.cells #[.int .i64 503, .string ⟨#[]⟩, .bool false, .string ⟨#[]⟩, .string ⟨#[]⟩, .string ⟨#[]⟩] 42) = w0 at HS ⊢
 have x0 := HS.out.cell 1 0 rfl
 have x1 := HS.out.cell 1 1 rfl
 have x2 := HS.out.cell 1 2 rfl
 have x3 := HS.out.cell 1 3 rfl
 have x4 := HS.out.cell 1 4 rfl
 have y0 := HS.out.cell 0 0 rfl
 have y1 := HS.out.cell 0 1 rfl
 have y2 := HS.out.cell 0 2 rfl
 have y3 := HS.out.cell 0 3 rfl
 have y4 := HS.out.cell 0 4 rfl
 have y5 := HS.out.cell 0 5 rfl
 go_wp2_with (first
  | (go_at_call 47; refine (busypage_any _).mono ?_; rintro e w1 ⟨v1, v2, rfl, h1, h2, hb1⟩; have hs1 := Kd.R_reads h1; obtain ⟨A1, k1, rfl, hk1, hC1⟩ := hs1; have hs2 := h2; obtain ⟨A2, k2, rfl, hk2, hF2⟩ := hs2; have HB1 := hid (HS.out.bel.trans (hb1.mono HS.out.bel.size)); have HC1 := hid hC1; have HC2 := hid (Kd.F_now hF2); clear h1 h2 hb1 hC1 hF2)
  | (go_at_call 61; refine (wicketmanref10_Print.calls 1000 503 A1 k1 two A2 k2 (btsOf bzB) bz 0 _ HC1.out hk1 HC2.out hk2 (HT.out.of_below HB1.out) HP.out).mono ?_; rintro e w2 ⟨v0, rfl, h0, hb2⟩; have HV := hid h0; have HB2 := hid (HB1.out.trans (hb2.mono HB1.out.size)); clear h0 hb2))
 go_ret
 exact ⟨_, rfl, Kd.V_mono (Kd.V_lower HV.out HB1.out.size) (fun k hk => Nat.le_trans HB1.out.size hk), HB2.out⟩
set_option maxRecDepth 100000 in
set_option maxHeartbeats 2000000 in
theorem refbusy_any (W : World) (hT : Tb W) (bz : List Int) (hb : gate_Busy.f = some bz) : Calls Tryz.prog 38 #[] W fun e w' => ∃ v0_ : Value, e = .returned v0_ ∧ Kd.V (Kd.int .u8) 5 w' W.heap.size (fun k_ => (W.heap.size ≤ k_)) v0_ bz ∧ Below W.heap.size W w' := by
 have HP := hid (busyprint_any W hT bz hb)
 clear hT hb
 go_enter Tryz.func38, Tryz.ntmps38
 go_wp2_with (go_at_call 82; refine HP.out.mono ?_; rintro e w1 ⟨v0, rfl, h0, hb⟩; have HV := hid h0; have HB := hid hb; clear h0 hb)
 go_ret
 exact ⟨_, rfl, HV.out, HB.out⟩
end Go.Proofs.YthdiiiopjkaifaaGreatDoor.Pl
end
