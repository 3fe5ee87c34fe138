/-
  HttpParses: for every text of bytes, and choices, the law returns true.
-/
import Derived.Test.YtpfbemcoblganaaDoorPl09p
import Derived.Test.YtpfbemcoblganaaDoorRow
import Derived.Test.YtpfbemcoblganaaDoorTie
import Derived.Test.YtpfbemcoblganaaDoorCards
import Derived.Test.YtpfbemcoblganaaDoorPall12
namespace Go.Proofs.YtpfbemcoblganaaDoor.httpParses
open Go.RowKit Go.Proofs.YtpfbemcoblganaaDoor.Pall Go.Proofs.YtpfbemcoblganaaDoor.Pl Go.Proofs.YtpfbemcoblganaaDoorW.PrintWords
set_option linter.unusedVariables false
set_option linter.unusedSimpArgs false
theorem numsL_set (t : List UInt8) (i : Nat) (v : Int) (h : 0 ≤ v ∧ v ≤ 255) : (numsL t).set i v = numsL (t.set i (UInt8.ofNat v.toNat)) := by
  unfold numsL
  rw [List.map_set]
  congr 1
  rw [UInt8.toNat_ofNat']; omega
theorem numsL_take (t : List UInt8) (i : Nat) : (numsL t).take i = numsL (t.take i) := by unfold numsL; rw [List.map_take]
theorem status_some (e : Int) : ∃ s, http_Status.f e = some s := by
  unfold http_Status.f
  split
  · exact ⟨_, rfl⟩
  · split
    · exact ⟨_, rfl⟩
    · split <;> exact ⟨_, rfl⟩
theorem plain (b c : List Int) (k pt v e : Int) (hb : ∀ x ∈ b, 0 ≤ x ∧ x ≤ 255) (hc : ∀ x ∈ c, 0 ≤ x ∧ x ≤ 255) (hk : 0 ≤ k ∧ k ≤ 255) (hp : 0 ≤ pt ∧ pt ≤ 65535) (hv : 0 ≤ v ∧ v ≤ 255) (he : 0 ≤ e ∧ e ≤ 65535) (hlc : c.length ≤ 9223372036854775806) :
    Ev (fun n => wicketmanlaw09_HttpParses.f n b c k pt v e) true := by
  by_cases c1 : (b.length : Int) > 600
  · refine Ev.congr (f := fun n => wicketmanlaw09_HttpParses.j0 n b c k pt v e true) (fun n => ?_) (Ev.step (f := fun _ => some true) (fun n => ?_) (Ev.now _))
    · unfold wicketmanlaw09_HttpParses.f; rw [if_pos c1]
    · simp only [wicketmanlaw09_HttpParses.j0, if_true]
      rw [known09_true]; rfl
  · refine Ev.congr (f := fun n => wicketmanlaw09_HttpParses.j0 n b c k pt v e false) (fun n => ?_) ?_
    · unfold wicketmanlaw09_HttpParses.f; rw [if_neg c1, known09_true]; rfl
    obtain ⟨t, ht1, ht2, ht⟩ := raw_ev c hc k hk.1 hk.2 hlc
    obtain ⟨bs, rfl⟩ := nums_of b hb
    rw [numsL_len] at c1
    have hw3 : wrap64 pt = pt := wrap_id (by omega) (by omega)
    have hmod : Int.tmod pt (t.length : Int) = pt % (t.length : Int) := tmod_pos _ hp.1 _
    have hm0 : 0 ≤ pt % (t.length : Int) := Int.emod_nonneg _ (by omega)
    have hm1 : pt % (t.length : Int) < (t.length : Int) := Int.emod_lt_of_pos _ (by omega)
    have hwe : wrap64 e = e := wrap_id (by omega) (by omega)
    have he16 : Int.tmod e 16 = e % 16 := tmod_pos _ he.1 16
    have hwe2 : wrap64 (e % 16) = e % 16 := wrap_id (by omega) (by omega)
    obtain ⟨s1, hs1⟩ := status_some e
    obtain ⟨s2, hs2⟩ := status_some (e % 16)
    have hr1 : wicketmanref09_Status.f e = some s1 := (status_same e).symm.trans hs1
    have hr2 : wicketmanref09_Status.f (e % 16) = some s2 := (status_same _).symm.trans hs2
    refine Ev.step (f := _) (fun n => by simp only [wicketmanlaw09_HttpParses.j0]; rw [if_neg (by decide)]) ?_
    refine Ev.bind ht ?_
    simp only [List.nil_append, Option.bind_some, numsL_len, List.length_nil, Nat.zero_add, hw3, hmod, hwe, he16, hwe2, hs1, hr1, hs2, hr2, numsL_take, numsL_set _ _ _ hv, beq_self_eq_true, if_true]
    simp only [if_pos (show t.length < 140737488355328 by omega), if_neg (show ¬ ((t.length : Int) = 0) by omega), if_pos hm0, if_pos hm1, if_pos (Int.le_of_lt hm1)]
    refine Ev.bind (parses_ev bs (by omega)) ?_
    simp only [if_true]
    refine Ev.bind (parses_ev t (by omega)) ?_
    simp only [if_true]
    refine Ev.bind (parses_ev _ (by rw [List.length_set]; omega)) ?_
    simp only [if_true]
    refine Ev.bind (parses_ev _ (by rw [List.length_take]; omega)) ?_
    simp only [if_true]
    exact Ev.now _
theorem walk (A0 : Option Addr) (c0 : Nat) (l0 : List Int) {W : World} (hr0 : Kd.C (Kd.int .u8) W A0 l0.length l0) (hc0 : l0.length ≤ c0) (hw0 : ∀ x ∈ l0, (Lit.int .u8 x).wf = true) (y0 : l0.length ≤ 140737488351232)
    (A1 : Option Addr) (c1 : Nat) (l1 : List Int) (hr1 : Kd.C (Kd.int .u8) W A1 l1.length l1) (hc1 : l1.length ≤ c1) (hw1 : ∀ x ∈ l1, (Lit.int .u8 x).wf = true) (y1 : l1.length ≤ 140737488351232)
    (a2 : Int) (w2 : (Lit.int .u8 a2).wf = true) (a3 : Int) (w3 : (Lit.int .u16 a3).wf = true) (a4 : Int) (w4 : (Lit.int .u8 a4).wf = true) (a5 : Int) (w5 : (Lit.int .u16 a5).wf = true) (W' : World) (e : W' = W) (hS : Sh W) :
    Calls Tryd.prog 3 #[.slice A0 l0.length c0, .slice A1 l1.length c1, .int .u8 a2, .int .u16 a3, .int .u8 a4, .int .u16 a5] W fun e W' => e = .returned (.bool true) ∧ Below W.heap.size W W' := by
  simp [Lit.wf, IntKind.min, IntKind.max, IntKind.signed, IntKind.bits] at w2 w3 w4 w5
  obtain ⟨k, hk⟩ := (plain l0 l1 a2 a3 a4 a5 (u8s_of_wf hw0) (u8s_of_wf hw1) ⟨by omega, by omega⟩ ⟨by omega, by omega⟩ ⟨by omega, by omega⟩ ⟨by omega, by omega⟩ (by omega)).rounds
  exact wicketmanlaw09_HttpParses.calls k A0 c0 l0 A1 c1 l1 a2 a3 a4 a5 true W hr0 hc0 hr1 hc1 hS (Aside0.mk rfl) hk
end Go.Proofs.YtpfbemcoblganaaDoor.httpParses
namespace Go.Proofs.YtpfbemcoblganaaDoor.httpParses
open Go.ChangeShapes Go.WideShapes Go.ChangeAt Go.RowKit Go.Proofs.YtpfbemcoblganaaDoorW Go.Proofs.YtpfbemcoblganaaDoorW.PrintWords Go.Proofs.YtpfbemcoblganaaDoor.Pall
open Go.ChangeMaps (open_string shut_string)
set_option linter.unusedVariables false
theorem own : ownKnob Tryd.prog.godebug = none := by kernel_rfl
theorem laidOut : laidOutB Tryd.prog = true := by kernel_rfl
set_option maxRecDepth 100000 in
theorem lifted (os : Os) (started : os.Started) (H : Type) (enc : TypeId × Value → H) :
    ReturnsInHanded {} Tryd.checked os 3 .any (fun w args => (Rows.httpParsesSpec.pre enc Tryd.prog Tryd.f3 [] false w args ∧ laidMetH Tryd.prog Rows.httpParsesRow.laid w) ∧ sizedMet enc Tryd.prog Tryd.f3 (OpenSpec.ofChange Rows.httpParsesSpec) false w args)
      (Rows.httpParsesSpec.post enc Tryd.prog Tryd.f3 false true false false) := by
  refine law_lifted (C := Tryd.checked) (rt := 4) (L := Rows.httpParsesRow.laid) own started (by kernel_rfl) Tryd.func3 laidOut (by kernel_rfl) rfl rfl (by rfl) Tryd.underlying4 ?_ (ChangeSpec.witness_shaped (enc := enc) (C := Tryd.checked) (os := os) (X := fun w _ => laidMetH Tryd.prog Rows.httpParsesRow.laid w) false (World.laidAll Tryd.prog os Rows.httpParsesRow.laid) #[.slice none 0 0, .slice none 0 0, .int .u8 0, .int .u16 0, .int .u8 0, .int .u16 0] 8 (World.laidAll_os _ _ _)
    (World.shaped_of_ZipB (by kernel_rfl) (by kernel_rfl)) (by kernel_rfl) (by kernel_rfl) (by kernel_rfl) (by rw [MakeChecks.laidMetH_plain _ _ _ (by kernel_rfl)]; exact laidMet_laidAll _ (by kernel_rfl) (by kernel_rfl))) ?_
  · intro ds hds
    have hds : ds.length = 6 := hds
    match ds, hds with
    | [_, _, _, _, _, _], _ => rfl
  intro W base args ds ps hval0 hA0 hsz0 hL hsh
  have hS : Sh W := cell_of_shapedOpen_int' hsh
  have hval : ∀ (j : Nat) t v, Tryd.f3.params[j]? = some t → args[j]? = some v → Value.okWide Tryd.prog W .any base t v := hval0
  have hA : DataW.TrodAll enc Tryd.prog W 0 (fun _ => true) true Tryd.f3.params.toList args.toList ds ps := hA0
  have hsz : (DataW.weightsEach Tryd.prog Tryd.f3.params.toList ds).all (· ≤ reachBytes) = true := hsz0
  rw [Tryd.params3] at hA hval hsz
  obtain ⟨v0, vs0, d0, ds0, p0, q0, hargs, rfl, rfl, h0, r0⟩ := trodAll_cons hA
  obtain ⟨v1, vs1, d1, ds1, p1, q1, rfl, rfl, rfl, h1, r1⟩ := trodAll_cons r0
  obtain ⟨v2, vs2, d2, ds2, p2, q2, rfl, rfl, rfl, h2, r2⟩ := trodAll_cons r1
  obtain ⟨v3, vs3, d3, ds3, p3, q3, rfl, rfl, rfl, h3, r3⟩ := trodAll_cons r2
  obtain ⟨v4, vs4, d4, ds4, p4, q4, rfl, rfl, rfl, h4, r4⟩ := trodAll_cons r3
  obtain ⟨v5, vs5, d5, ds5, p5, q5, rfl, rfl, rfl, h5, r5⟩ := trodAll_cons r4
  obtain ⟨rfl, rfl, rfl⟩ := trodAll_nil r5
  obtain rfl : args = #[v0, v1, v2, v3, v4, v5] := by cases args; simp_all
  obtain ⟨A0, len0, cap0, rfl⟩ := okWide_slice Tryd.underlying22 (hval 0 22 v0 rfl rfl)
  obtain ⟨z0, w0⟩ := ints_row Tryd.underlying22 Tryd.underlying5 (by kernel_rfl) h0
  have y0 : len0 * 1 ≤ 140737488351232 := PrintWords.sized_ints hsz (j := 0) (t := 22) rfl rfl Tryd.underlying22 Tryd.underlying5 (by kernel_rfl) (by kernel_rfl) h0
  obtain ⟨l0, rfl, hr0, hm0, hw0, hc0⟩ := ReadsInt.ofRowC w0
  obtain ⟨A1, len1, cap1, rfl⟩ := okWide_slice Tryd.underlying22 (hval 1 22 v1 rfl rfl)
  obtain ⟨z1, w1⟩ := ints_row Tryd.underlying22 Tryd.underlying5 (by kernel_rfl) h1
  have y1 : len1 * 1 ≤ 140737488351232 := PrintWords.sized_ints hsz (j := 1) (t := 22) rfl rfl Tryd.underlying22 Tryd.underlying5 (by kernel_rfl) (by kernel_rfl) h1
  obtain ⟨l1, rfl, hr1, hm1, hw1, hc1⟩ := ReadsInt.ofRowC w1
  obtain ⟨a2, rfl, rfl, rfl, w2⟩ := open_int Tryd.underlying5 (hval 2 5 v2 rfl rfl) h2
  obtain ⟨a3, rfl, rfl, rfl, w3⟩ := open_int Tryd.underlying23 (hval 3 23 v3 rfl rfl) h3
  obtain ⟨a4, rfl, rfl, rfl, w4⟩ := open_int Tryd.underlying5 (hval 4 5 v4 rfl rfl) h4
  obtain ⟨a5, rfl, rfl, rfl, w5⟩ := open_int Tryd.underlying24 (hval 5 24 v5 rfl rfl) h5
  exact walk A0 cap0 l0 (Kd.C_of_reads (d := (0 : Int)) (h1 := fun _ => rfl) hr0) hc0 hw0 (by omega) A1 cap1 l1 (Kd.C_of_reads (d := (0 : Int)) (h1 := fun _ => rfl) hr1) hc1 hw1 (by omega) a2 w2 a3 w3 a4 w4 a5 w5 W rfl hS
theorem over : Rows.httpParsesRow.holds Tryd.pinned (OpenSpec.ofChange Rows.httpParsesSpec) :=
  OpenClaim.holds_of_wide 3 Tryd.f3 rfl rfl rfl rfl rfl rfl rfl ⟨rfl, rfl, rfl, rfl, rfl⟩ rfl rfl rfl rfl rfl (by kernel_rfl) Tryd.func3 (by kernel_rfl)
    (of_decide_eq_true (by kernel_rfl)) (by unfold Func.isWrapper; rw [if_neg (of_decide_eq_false (by kernel_rfl))]; exact ⟨rfl, rfl⟩)
    (fun os started H enc _ => lifted os started H enc)
theorem said : Rows.HttpParsesSaid := over
theorem card : Rows.HttpParsesCardSaid :=
  Claim7.holds_tied_plain_at .later [] [.data, .pinned] true (true, "79a6d220dc140684a9dab3eb2f9ce24deda1b71e26dfa61c675eb49a4432bf09") true said (fun _ h => by cases h) (by kernel_rfl) (fun _ h => by cases h) httpParses_row_tie rfl ⟨rfl, rfl⟩ (by kernel_rfl) rfl
    (fun f fn hf hfn => by
      obtain rfl : f = 3 := Option.some.inj ((show Tryd.prog.funcNamed "wicketman/wicketmanlaw09.HttpParses" = some 3 by kernel_rfl).symm.trans hf) |>.symm
      obtain rfl : fn = Tryd.f3 := (Option.some.inj (Tryd.func3.symm.trans hfn)).symm
      exact ⟨by kernel_rfl, fun j t ht => by
        rw [Tryd.params3] at ht
        have hm : t ∈ [22, 22, 5, 23, 5, 24] := by simpa using Array.mem_of_getElem? ht
        have hall : ([22, 22, 5, 23, 5, 24].all fun u => !Tryd.prog.wantsStandIn u) = true := by kernel_rfl
        exact (show Tryd.prog.wantsStandIn t = false by simpa using List.all_eq_true.1 hall t hm)⟩)
    (by kernel_rfl)
#print axioms card
end Go.Proofs.YtpfbemcoblganaaDoor.httpParses
namespace Go.Proofs.YtpfbemcoblganaaDoor
/-- The card, under a short name, for the claim. -/
theorem httpParses_card : Rows.HttpParsesCardSaid := httpParses.card
end Go.Proofs.YtpfbemcoblganaaDoor

