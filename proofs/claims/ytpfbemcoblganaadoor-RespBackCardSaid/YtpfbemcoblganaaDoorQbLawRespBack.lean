/-
  RespBack: a response that is printed is parsed as it was; cut off, or with a byte more, it is none.
-/
import Derived.Test.YtpfbemcoblganaaDoorQbRow
import Derived.Test.YtpfbemcoblganaaDoorTie
import Derived.Test.YtpfbemcoblganaaDoorCards
import Derived.Test.YtpfbemcoblganaaDoorQbPl10v
import Derived.Test.YtpfbemcoblganaaDoorQbPl10p
import Derived.Test.YtpfbemcoblganaaDoorQbPall20
import Derived.Test.YtpfbemcoblganaaDoorQbPall22
import Derived.Deep.RegionLaw
namespace Go.Proofs.YtpfbemcoblganaaDoor.respBack
open Go.RowKit Go.Proofs.YtpfbemcoblganaaDoor.Pl Go.Proofs.YtpfbemcoblganaaDoor.Pall Go.Proofs.YtpfbemcoblganaaDoorW.PrintWords Go.Proofs.YtpfbemcoblganaaDoorW.PrintLast
set_option linter.unusedVariables false
set_option linter.unusedSimpArgs false
theorem good_small {fs : List S43} (h : ∀ p ∈ fs, goodP p) : smallF fs = true := by
  unfold smallF
  rw [List.all_eq_true]
  intro p hp
  have h1 := (h p hp).2.2
  rw [len_data, len_data] at h1
  exact decide_eq_true ⟨by omega, by omega⟩
theorem pr_len {st : Int} (fs : List S43) (b : List Int) (h : reasonS st ≠ ⟨#[]⟩) (hb : b.length ≤ 400) (hf : fs.length ≤ 6) : (prS st fs b).1.length ≤ 100000 := by
  unfold prS
  rw [if_neg h, if_neg (by omega)]
  split
  · exact Nat.zero_le _
  · have h1 := hdT_len st h
    have h2 := fsTxt_len fs
    have h3 := itoa_len (b.length : Int) (by omega) (by omega)
    have h4 : (lenT b.length).length = 16 + (Lib.itoa (b.length : Int)).length + 4 := by unfold lenT; simp; omega
    rw [List.length_append, numsL_len, List.length_append, List.length_append]
    omega
set_option maxRecDepth 100000 in
set_option maxHeartbeats 4000000 in
theorem walk (A0 : Option Addr) (c0 : Nat) (l0 : List Int) {W : World} (hr0 : Kd.C (Kd.int .u8) W A0 l0.length l0) (hc0 : l0.length ≤ c0) (hw0 : ∀ x ∈ l0, (Lit.int .u8 x).wf = true) (y0 : l0.length ≤ 140737488351232)
    (A1 : Option Addr) (c1 : Nat) (l1 : List Int) (hr1 : Kd.C (Kd.int .u8) W A1 l1.length l1) (hc1 : l1.length ≤ c1) (hw1 : ∀ x ∈ l1, (Lit.int .u8 x).wf = true) (y1 : l1.length ≤ 140737488351232)
    (a2 : Int) (w2 : (Lit.int .u8 a2).wf = true) (a3 : Int) (w3 : (Lit.int .u16 a3).wf = true) (W' : World) (e : W' = W) (hS : Sh W) (hT : Tb W) :
    Calls Tryd.prog 12 #[.slice A0 l0.length c0, .slice A1 l1.length c1, .int .u8 a2, .int .u16 a3] W fun e W' => e = .returned (.bool true) ∧ Below W.heap.size W W' := by
  simp [Lit.wf, IntKind.min, IntKind.max, IntKind.signed, IntKind.bits] at w2 w3
  clear e W'
  have hu := Tryd.underlying51
  have HK := hid (fun (W' : World) (h : Below W.heap.size W W') => wicketmanlaw10_known.calls true W' (hT.of_below h) (Aside0.mk rfl) wicketmanlaw10_known.told)
  by_cases hbig : (300 : Int) < (l1.length : Int)
  · have HB0 := hid (Below.refl W.heap.size W)
    clear hr0 hc0 hw0 hr1 hc1 hw1 hS hT
    go_enter Tryd.func12, Tryd.ntmps12
    go_wp2_with (go_at_call 28; refine (HK.out _ HB0.out).mono ?_; rintro e W1 ⟨rfl, hb⟩)
    go_ret
    exact ⟨rfl, hb⟩
  · obtain ⟨bs, rfl⟩ := nums_of l1 (u8s_of_wf hw1)
    have hbl : bs.length ≤ 300 := by rw [numsL_len] at hbig; omega
    obtain ⟨st, fs, hst, hg, hl, hev⟩ := resp_ev l0 (numsL bs) (u8s_of_wf hw0) (by omega) (a2 % 200) (by omega) (by omega)
    obtain ⟨k, hk⟩ := hev.rounds
    obtain ⟨k2, hk2⟩ := (same10_true st fs (numsL bs) (by omega)).rounds
    obtain ⟨p2, pne, ppar, pmore, pcut⟩ := back_all bs hst hg (by omega) (by omega)
    have hpl := pr_len fs (numsL bs) (sts_one hst).2.2.1 (by rw [numsL_len]; omega) hl
    have hpf : resp_Print.f st fs (numsL bs) = some (prS st fs (numsL bs)) := by unfold resp_Print.f; rw [if_pos (good_small hg)]
    generalize prS st fs (numsL bs) = pr at *
    obtain ⟨pl, pe⟩ := pr
    dsimp only at p2 pne ppar pmore pcut hpl
    subst p2
    have hpos : 0 < pl.length := by cases pl with | nil => exact absurd rfl pne | cons a l => simp
    obtain ⟨m, hm⟩ : ∃ m : Nat, a3 % (pl.length : Int) = (m : Int) := ⟨(a3 % (pl.length : Int)).toNat, by have := Int.emod_nonneg a3 (show (pl.length : Int) ≠ 0 by omega); omega⟩
    have hml : m < pl.length := by have := Int.emod_lt_of_pos a3 (show (0 : Int) < (pl.length : Int) by omega); omega
    have hpa : resp_Parse.f pl = some (st, fs, numsL bs, 0) := by unfold resp_Parse.f; rw [if_pos (by omega), ppar]
    obtain ⟨m1, m2, m3, hmo⟩ : ∃ (m1 : Int) (m2 : List S43) (m3 : List Int), resp_Parse.f (pl ++ [120]) = some (m1, m2, m3, 10) := by
      have h := pmore 120
      unfold resp_Parse.f
      rw [if_pos (by rw [List.length_append, List.length_singleton]; omega)]
      exact ⟨_, _, _, congrArg some (by rw [← h]; rfl)⟩
    obtain ⟨q1, q2, q3, hcu⟩ : ∃ (m1 : Int) (m2 : List S43) (m3 : List Int), resp_Parse.f (pl.take m) = some (m1, m2, m3, 10) := by
      have h := pcut m hml
      unfold resp_Parse.f
      rw [if_pos (by rw [List.length_take]; omega)]
      exact ⟨_, _, _, congrArg some (by rw [← h])⟩
    have hlen : (pl.take m).length = m := by rw [List.length_take]; omega
    have hlen1 : (pl ++ [120]).length = pl.length + 1 := by rw [List.length_append, List.length_singleton]
    have HRS := hid (fun (W' : World) (h : Below W.heap.size W W') => wicketmanlaw10_Response.calls k A0 c0 l0 (fun k_ => k_ < W'.heap.size) A1 c1 (numsL bs) (a2 % 200) st fs (numsL bs) W' (Kd.C_below hr0 h) hc0 (Kd.V_mk hc1 (Kd.C_F (Kd.heap_int .u8) (Kd.C_below hr1 h))) hk)
    have HPR := hid (fun (W' : World) (h : Below W.heap.size W W') (A : Option Addr) (c : Nat) (A' : Option Addr) (c' : Nat) (h1 : Kd.C k43 W' A fs.length fs) (h2 : fs.length ≤ c) (h3 : Kd.C (Kd.int .u8) W' A' (numsL bs).length (numsL bs)) (h4 : (numsL bs).length ≤ c') => resp_Print.calls st A c fs A' c' (numsL bs) pl 0 W' h1 h2 h3 h4 (hT.of_below h) hpf)
    have HPA := hid (fun (W' : World) (h : Below W.heap.size W W') (A : Option Addr) (c : Nat) (h1 : Kd.C (Kd.int .u8) W' A pl.length pl) (h2 : pl.length ≤ c) => resp_Parse.calls A c pl st fs (numsL bs) 0 W' h1 h2 (hS.of_below h) (hT.of_below h) hpa)
    have HMO := hid (fun (W' : World) (h : Below W.heap.size W W') (A : Option Addr) (c : Nat) (h1 : Kd.C (Kd.int .u8) W' A (pl ++ [120]).length (pl ++ [120])) (h2 : (pl ++ [120]).length ≤ c) => resp_Parse.calls A c (pl ++ [120]) m1 m2 m3 10 W' h1 h2 (hS.of_below h) (hT.of_below h) hmo)
    have HCU := hid (fun (W' : World) (h : Below W.heap.size W W') (A : Option Addr) (c : Nat) (h1 : Kd.C (Kd.int .u8) W' A pl.length pl) (h2 : pl.length ≤ c) => resp_Parse.calls A c (pl.take m) q1 q2 q3 10 W' (Kd.C_take h1 (Nat.le_of_lt hml)) (Nat.le_trans (by rw [hlen]; omega) h2) (hS.of_below h) (hT.of_below h) hcu)
    rw [hlen] at HCU
    have HSA := hid (fun (W' : World) (A : Option Addr) (c : Nat) (A' : Option Addr) (c' : Nat) (B : Option Addr) (d : Nat) (B' : Option Addr) (d' : Nat) (h1 : Kd.C k43 W' A fs.length fs) (h2 : fs.length ≤ c) (h3 : Kd.C (Kd.int .u8) W' A' (numsL bs).length (numsL bs)) (h4 : (numsL bs).length ≤ c') (g1 : Kd.C k43 W' B fs.length fs) (g2 : fs.length ≤ d) (g3 : Kd.C (Kd.int .u8) W' B' (numsL bs).length (numsL bs)) (g4 : (numsL bs).length ≤ d') => wicketmanref10_Same.calls k2 st A c fs A' c' (numsL bs) st B d fs B' d' (numsL bs) true W' h1 h2 h3 h4 g1 g2 g3 g4 hk2)
    obtain ⟨ie, hie, _, hze, _⟩ := info_parts info5
    have HCT := hid (fun (A : Option Addr) (c : Nat) (hc : pl.length ≤ c) (W : World) => (show (Instr.slice 22 (.slice A pl.length c) none (some (.int .i64 (m : Int))) none).run Tryd.prog W = .ok (.slice A m c) W from by
      have h := cut_to (P := Tryd.prog) 22 5 .i64 Tryd.underlying22 hie A pl.length c (m : Int) (by omega) (by omega) hc W
      rw [Int.toNat_natCast] at h
      exact h))
    have HB0 := hid (Below.refl W.heap.size W)
    have hposI : 0 < (pl.length : Int) := by omega
    have hplI : (pl.length : Int) ≤ 100000 := by omega
    have HM := hid hm
    have HMT := hid (show Int.tmod a3 (pl.length : Int) = (m : Int) by rw [Int.tmod_eq_emod_of_nonneg (by omega)]; exact hm)
    have HL1 := hid hlen1
    have HPL := hid hpl
    clear hr0 hc0 hw0 hr1 hw1 hS hT hev hk hk2 hst hg hl pne ppar pmore pcut hpf hpl hpa hmo hcu hlen hm hlen1 hie hze hml
    generalize numsL bs = nb at *
    go_enter Tryd.func12, Tryd.ntmps12
    go_upto_region 5 with (first
      | (go_at_call 34; refine (HRS.out _ HB0.out).mono ?_; rintro e W1 ⟨v1, v2, rfl, ho1, ho2, hb⟩; have HB1 := hid hb; obtain ⟨Aa, ca, rfl, hca, hCa⟩ := Kd.R_reads ho1; obtain ⟨Ab, cb, rfl⟩ := Kd.V_slice ho2; have HV := Kd.V_reads' ho2; have hcb := HV.2.1; have HC1 := hid hCa; have HC2 := hid HV.2.2; clear hb ho1 ho2 hCa HV)
      | (go_at_call 27; refine (HPR.out _ (bA HB1.out _) Aa ca Ab cb (Kd.C_alloc HC1.out _) hca (Kd.C_alloc HC2.out _) hcb).mono ?_; rintro e W2 ⟨v3, rfl, ho3, hb⟩; have HB2 := hid ((bA HB1.out _).trans (hb.mono (bA HB1.out (.cells #[.int .i64 st, .slice Aa fs.length ca, .slice Ab nb.length cb] 51)).size)); have HX2 := hid (blk_below (blk_new W1 (.cells #[.int .i64 st, .slice Aa fs.length ca, .slice Ab nb.length cb] 51)) hb); have HC12 := hid (Kd.C_below (Kd.C_alloc HC1.out _) hb); have HC22 := hid (Kd.C_below (Kd.C_alloc HC2.out _) hb); have hsl := Kd.R_reads ho3; obtain ⟨A3, c3, rfl, hc3, hC3⟩ := hsl; have HC3 := hid hC3; clear hb ho3 hC3))
    go_upto_region 8 with (first
      | (go_at_call 35; refine (HPA.out _ HB2.out A3 c3 HC3.out hc3).mono ?_; rintro e W3 ⟨v4, v5, rfl, ho4, ho5, hb⟩; obtain ⟨A4, c4, rfl, hc4, hC4⟩ := Kd.R_reads ho4; obtain ⟨A5, c5, rfl, hc5, hC5⟩ := Kd.R_reads ho5; have HB3 := hid (bA (HB2.out.trans (hb.mono HB2.out.size)) (.cells #[.int .i64 st, .slice A4 fs.length c4, .slice A5 nb.length c5] 51)); have hx3 := blk_below (blk_below HX2.out hb) ((Below.refl _ W3).alloc (Nat.le_refl _) (.cells #[.int .i64 st, .slice A4 fs.length c4, .slice A5 nb.length c5] 51)); have z0 := blk_cell hx3 0; have z1 := blk_cell hx3 1; have z2 := blk_cell hx3 2; have HC13 := hid (Kd.C_alloc (Kd.C_below HC12.out hb) (.cells #[.int .i64 st, .slice A4 fs.length c4, .slice A5 nb.length c5] 51)); have HC23 := hid (Kd.C_alloc (Kd.C_below HC22.out hb) (.cells #[.int .i64 st, .slice A4 fs.length c4, .slice A5 nb.length c5] 51)); have HC33 := hid (Kd.C_alloc (Kd.C_below HC3.out hb) (.cells #[.int .i64 st, .slice A4 fs.length c4, .slice A5 nb.length c5] 51)); have HC43 := hid (Kd.C_alloc hC4 (.cells #[.int .i64 st, .slice A4 fs.length c4, .slice A5 nb.length c5] 51)); have HC53 := hid (Kd.C_alloc hC5 (.cells #[.int .i64 st, .slice A4 fs.length c4, .slice A5 nb.length c5] 51)); clear hb ho4 ho5 hC4 hC5 hx3)
      | (go_at_call 31; refine (HSA.out _ Aa ca Ab cb A4 c4 A5 c5 HC13.out hca HC23.out hcb HC43.out hc4 HC53.out hc5).mono ?_; rintro e W4 ⟨rfl, hb⟩; have HB4 := hid (HB3.out.trans (hb.mono HB3.out.size)); have HC34 := hid (Kd.C_below HC33.out hb); clear hb z0 z1 z2))
    clear HC1 HC2 HC3 HC12 HC22 HX2 HC13 HC23 HC33 HC43 HC53 HB0 HB1 HB2 HB3 HRS HPR HPA HSA
    go_upto_region 11 with (first
      | ((with_reducible refine gate_builtin (b := .append) (xs := #[.tmp 50, .tmp 51]) rfl ?_); at_builtin; refine Kd.R_append_rows (Kd.int .u8) (w0 := W4) W4.heap.size rfl (.tmp 50) (.tmp 51) 22 5 (.int .u8 0) 1 rfl Tryd.underlying22 info5 rfl (by decide) (by omega) (.slice none 0 0) ([] : List Int) pl _ _ _ (fun _ => True) (fun _ => False) rfl rfl (Kd.R_nil _ _ _ _ _) HC34.out (fun _ _ h => h) (fun _ h => h.elim) (fun _ _ => trivial) (Below.refl _ _) (Nat.le_refl _) (by have := HPL.out; simp only [List.length_nil]; omega) ?_; intro v6 W5 ho6 hb6 hg6 _; rw [List.nil_append] at ho6; have HO6 := hid ho6; have HB6 := hid hb6; have hsl := Kd.R_slice ho6; obtain ⟨A6, c6, rfl⟩ := hsl; clear ho6 hb6 hg6)
      | ((with_reducible refine gate_builtin (b := .append) (xs := #[.tmp 53, .tmp 54]) rfl ?_); at_builtin; refine Kd.R_append (Kd.int .u8) (w0 := W4) W4.heap.size rfl (.tmp 53) (.tmp 54) 22 5 (.int .u8 0) 1 rfl Tryd.underlying22 info5 rfl (by decide) (by omega) (.slice A6 pl.length c6) pl 120 [.int .u8 120] (fun _ => True) (fun _ => False) rfl (by first | (go_simp; done) | (go_simp; rfl)) rfl (fun _ h => h.elim) (fun _ _ => trivial) HO6.out HB6.out HB6.out.size (by have := HPL.out; omega) ?_; intro v7 W6 ho7 hb7 _ _; have HB7 := hid hb7; obtain ⟨A7, c7, rfl, hc7, hC7⟩ := Kd.R_reads ho7; have HC7 := hid hC7; clear ho7 hb7 hC7))
    have HB47 := hid (HB4.out.trans (HB7.out.mono HB4.out.size))
    have HC37 := hid (Kd.C_below HC34.out HB7.out)
    have hct := HCT.out A3 c3 hc3
    have hm1 := HM.out
    have hm2 := HMT.out
    clear HO6 HB6 HB7 HB4 HC34 HCT HM HMT
    go_wp2_with (first
      | (go_at_call 35; refine calls_of_args (args' := #[.slice A7 (pl ++ [120]).length c7]) (by rw [HL1.out]) ?_; refine (HMO.out _ HB47.out A7 c7 HC7.out hc7).mono ?_; rintro e W7 ⟨u4, u5, rfl, ho4, ho5, hb⟩; obtain ⟨B4, d4, rfl⟩ := Kd.R_slice ho4; obtain ⟨B5, d5, rfl⟩ := Kd.R_slice ho5; have HB8 := hid (bA (HB47.out.trans (hb.mono HB47.out.size)) (.cells #[.int .i64 m1, .slice B4 m2.length d4, .slice B5 m3.length d5] 51)); have HC38 := hid (Kd.C_alloc (Kd.C_below HC37.out hb) (.cells #[.int .i64 m1, .slice B4 m2.length d4, .slice B5 m3.length d5] 51)); clear hb ho4 ho5 HB47 HC37)
      | (go_at_call 35; refine (HCU.out _ HB8.out A3 c3 HC38.out hc3).mono ?_; rintro e W8 ⟨u6, u7, rfl, ho6, ho7, hb⟩; obtain ⟨B6, d6, rfl⟩ := Kd.R_slice ho6; obtain ⟨B7, d7, rfl⟩ := Kd.R_slice ho7; have HB9 := hid (bA (HB8.out.trans (hb.mono HB8.out.size)) (.cells #[.int .i64 q1, .slice B6 q2.length d6, .slice B7 q3.length d7] 51)); clear hb ho6 ho7)
      | (go_at_call 28; refine (HK.out _ HB9.out).mono ?_; rintro e W9 ⟨rfl, hb⟩; have HB10 := hid (HB9.out.trans (hb.mono HB9.out.size)); clear hb))
    go_ret
    exact ⟨rfl, HB10.out⟩
end Go.Proofs.YtpfbemcoblganaaDoor.respBack
namespace Go.Proofs.YtpfbemcoblganaaDoor.respBack
open Go.ChangeShapes Go.WideShapes Go.ChangeAt Go.RowKit Go.Proofs.YtpfbemcoblganaaDoorW Go.Proofs.YtpfbemcoblganaaDoorW.PrintWords Go.Proofs.YtpfbemcoblganaaDoor.Pall
open Go.ChangeMaps (open_string shut_string)
set_option linter.unusedVariables false
theorem own : ownKnob Tryd.prog.godebug = none := by kernel_rfl
theorem laidOut : laidOutB Tryd.prog = true := by kernel_rfl
set_option maxRecDepth 100000 in
theorem lifted (os : Os) (started : os.Started) (H : Type) (enc : TypeId × Value → H) :
    ReturnsInHanded {} Tryd.checked os 12 .any (fun w args => (Rows.respBackSpec.pre enc Tryd.prog Tryd.f12 [] false w args ∧ laidMetH Tryd.prog Rows.respBackRow.laid w) ∧ sizedMet enc Tryd.prog Tryd.f12 (OpenSpec.ofChange Rows.respBackSpec) false w args)
      (Rows.respBackSpec.post enc Tryd.prog Tryd.f12 false true false false) := by
  refine law_lifted (C := Tryd.checked) (rt := 4) (L := Rows.respBackRow.laid) own started (by kernel_rfl) Tryd.func12 laidOut (by kernel_rfl) rfl rfl (by rfl) Tryd.underlying4 ?_ (ChangeSpec.witness_shaped (enc := enc) (C := Tryd.checked) (os := os) (X := fun w _ => laidMetH Tryd.prog Rows.respBackRow.laid w) false (World.laidAll Tryd.prog os Rows.respBackRow.laid) #[.slice none 0 0, .slice none 0 0, .int .u8 0, .int .u16 0] 8 (World.laidAll_os _ _ _)
    (World.shaped_of_ZipB (by kernel_rfl) (by kernel_rfl)) (by kernel_rfl) (by kernel_rfl) (by kernel_rfl) (by rw [MakeChecks.laidMetH_plain _ _ _ (by kernel_rfl)]; exact laidMet_laidAll _ (by kernel_rfl) (by kernel_rfl))) ?_
  · intro ds hds
    have hds : ds.length = 4 := hds
    match ds, hds with
    | [_, _, _, _], _ => rfl
  intro W base args ds ps hval0 hA0 hsz0 hL hsh
  have hS : Sh W := cell_of_shapedOpen_int' hsh
  have hT : Tb W := tb_of hL (by kernel_rfl) 2 rfl
  have hval : ∀ (j : Nat) t v, Tryd.f12.params[j]? = some t → args[j]? = some v → Value.okWide Tryd.prog W .any base t v := hval0
  have hA : DataW.TrodAll enc Tryd.prog W 0 (fun _ => true) true Tryd.f12.params.toList args.toList ds ps := hA0
  have hsz : (DataW.weightsEach Tryd.prog Tryd.f12.params.toList ds).all (· ≤ reachBytes) = true := hsz0
  rw [Tryd.params12] at hA hval hsz
  obtain ⟨v0, vs0, d0, ds0, p0, q0, hargs, rfl, rfl, h0, r0⟩ := trodAll_cons hA
  obtain ⟨v1, vs1, d1, ds1, p1, q1, rfl, rfl, rfl, h1, r1⟩ := trodAll_cons r0
  obtain ⟨v2, vs2, d2, ds2, p2, q2, rfl, rfl, rfl, h2, r2⟩ := trodAll_cons r1
  obtain ⟨v3, vs3, d3, ds3, p3, q3, rfl, rfl, rfl, h3, r3⟩ := trodAll_cons r2
  obtain ⟨rfl, rfl, rfl⟩ := trodAll_nil r3
  obtain rfl : args = #[v0, v1, v2, v3] := by cases args; simp_all
  obtain ⟨A0, len0, cap0, rfl⟩ := okWide_slice Tryd.underlying22 (hval 0 22 v0 rfl rfl)
  obtain ⟨z0, w0⟩ := ints_row Tryd.underlying22 Tryd.underlying5 (by kernel_rfl) h0
  have y0 : len0 * 1 ≤ 140737488351232 := PrintWords.sized_ints hsz (j := 0) (t := 22) rfl rfl Tryd.underlying22 Tryd.underlying5 (by kernel_rfl) (by kernel_rfl) h0
  obtain ⟨l0, rfl, hr0, hm0, hw0, hc0⟩ := ReadsInt.ofRowC w0
  obtain ⟨A1, len1, cap1, rfl⟩ := okWide_slice Tryd.underlying22 (hval 1 22 v1 rfl rfl)
  obtain ⟨z1, w1⟩ := ints_row Tryd.underlying22 Tryd.underlying5 (by kernel_rfl) h1
  have y1 : len1 * 1 ≤ 140737488351232 := PrintWords.sized_ints hsz (j := 1) (t := 22) rfl rfl Tryd.underlying22 Tryd.underlying5 (by kernel_rfl) (by kernel_rfl) h1
  obtain ⟨l1, rfl, hr1, hm1, hw1, hc1⟩ := ReadsInt.ofRowC w1
  obtain ⟨a2, rfl, rfl, rfl, w2⟩ := open_int Tryd.underlying5 (hval 2 5 v2 rfl rfl) h2
  obtain ⟨a3, rfl, rfl, rfl, w3⟩ := open_int Tryd.underlying23 (hval 3 23 v3 rfl rfl) h3
  exact walk A0 cap0 l0 (Kd.C_of_reads (d := (0 : Int)) (h1 := fun _ => rfl) hr0) hc0 hw0 (by omega) A1 cap1 l1 (Kd.C_of_reads (d := (0 : Int)) (h1 := fun _ => rfl) hr1) hc1 hw1 (by omega) a2 w2 a3 w3 W rfl hS hT
theorem over : Rows.respBackRow.holds Tryd.pinned (OpenSpec.ofChange Rows.respBackSpec) :=
  OpenClaim.holds_of_wide 12 Tryd.f12 rfl rfl rfl rfl rfl rfl rfl ⟨rfl, rfl, rfl, rfl, rfl⟩ rfl rfl rfl rfl rfl (by kernel_rfl) Tryd.func12 (by kernel_rfl)
    (of_decide_eq_true (by kernel_rfl)) (by unfold Func.isWrapper; rw [if_neg (of_decide_eq_false (by kernel_rfl))]; exact ⟨rfl, rfl⟩)
    (fun os started H enc _ => lifted os started H enc)
theorem said : Rows.RespBackSaid := over
theorem card : Rows.RespBackCardSaid :=
  Claim7.holds_tied_plain_at .later [] [.data, .data, .data, .data, .sentinel, .pinned] true (true, "79a6d220dc140684a9dab3eb2f9ce24deda1b71e26dfa61c675eb49a4432bf09") true said (fun _ h => by cases h) (by kernel_rfl) (fun _ h => by cases h) respBack_row_tie rfl ⟨rfl, rfl⟩ (by kernel_rfl) rfl
    (fun f fn hf hfn => by
      obtain rfl : f = 12 := Option.some.inj ((show Tryd.prog.funcNamed "wicketman/wicketmanlaw10.RespBack" = some 12 by kernel_rfl).symm.trans hf) |>.symm
      obtain rfl : fn = Tryd.f12 := (Option.some.inj (Tryd.func12.symm.trans hfn)).symm
      exact ⟨by kernel_rfl, fun j t ht => by
        rw [Tryd.params12] at ht
        have hm : t ∈ [22, 22, 5, 23] := by simpa using Array.mem_of_getElem? ht
        have hall : ([22, 22, 5, 23].all fun u => !Tryd.prog.wantsStandIn u) = true := by kernel_rfl
        exact (show Tryd.prog.wantsStandIn t = false by simpa using List.all_eq_true.1 hall t hm)⟩)
    (by kernel_rfl)
#print axioms card
end Go.Proofs.YtpfbemcoblganaaDoor.respBack
namespace Go.Proofs.YtpfbemcoblganaaDoor
/-- The card, under a short name, for the claim. -/
theorem respBack_card : Rows.RespBackCardSaid := respBack.card
end Go.Proofs.YtpfbemcoblganaaDoor
