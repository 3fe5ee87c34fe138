/-
  HeadFields: for every two texts, pair and choices the law returns true.
-/
import Derived.Test.YtgajaaagpihlkaaDoorRowA
import Derived.Test.YtgajaaagpihlkaaDoorPl08
import Derived.Test.YtgajaaagpihlkaaDoorTie
import Derived.Test.YtgajaaagpihlkaaDoorCards
import Derived.Test.YtgajaaagpihlkaaDoorPall16
namespace Go.Proofs.YtgajaaagpihlkaaDoor.headFields
open Go.RowKit Go.Proofs.YtgajaaagpihlkaaDoorW.PrintWords Go.Proofs.YtgajaaagpihlkaaDoor.Pall
set_option linter.unusedVariables false
set_option linter.unusedSimpArgs false
theorem plain (s t n v : ByteArray) (c d : List Int) (hs : s.size ≤ 140737488351232) (ht : t.size ≤ 140737488351232) (hn : n.size ≤ 140737488351232) (hv : v.size ≤ 140737488351232)
    (hc : ∀ x ∈ c, 0 ≤ x ∧ x ≤ 255) (hd : ∀ x ∈ d, 0 ≤ x ∧ x ≤ 255) (hcl : c.length ≤ 140737488351232) (hdl : d.length ≤ 140737488351232) :
    Ev (fun k => wicketmanlaw08_HeadFields.f k s t n v c d) true := by
  have hsum : wrap64 ((wrap64 ((wrap64 ((s.size : Int) + (t.size : Int))) + (n.size : Int))) + (v.size : Int)) = (s.size : Int) + t.size + n.size + v.size := by
    rw [wrap_id (n := (s.size : Int) + t.size) (by omega) (by omega), wrap_id (n := (s.size : Int) + t.size + n.size) (by omega) (by omega), wrap_id (by omega) (by omega)]
  by_cases h5 : (s.size : Int) + t.size + n.size + v.size > 500
  · refine Ev.congr (f := fun k => wicketmanlaw08_HeadFields.j0 k s t c d true n v) (fun k => ?_) ?_
    · unfold wicketmanlaw08_HeadFields.f; rw [hsum, if_pos h5]
    · refine Ev.step (f := fun _ => some true) (fun k => ?_) (Ev.now _)
      simp only [wicketmanlaw08_HeadFields.j0]; rw [known08_true]; rfl
  · refine Ev.congr (f := fun k => wicketmanlaw08_HeadFields.j0 k s t c d false n v) (fun k => ?_) ?_
    · unfold wicketmanlaw08_HeadFields.f; rw [hsum, if_neg h5, known08_true]; rfl
    · have hx := lineS_size c hc
      have hy := lineS_size d hd
      refine Ev.step (f := fun k => (wicketmanlaw08_Line.f k c).bind fun t263 => ((wicketmanlaw08_Line.f k d).bind fun t264 => ((wicketmanlaw08_fields.f k s).bind fun t265 => (if t265 = true then ((wicketmanlaw08_fields.f k t263).bind fun t266 => (if t266 = true then (if 7 + t264.size ≤ 9223372036854775807 then ((wicketmanlaw08_fields.f k ((⟨#[67, 111, 111, 107, 105, 101, 58]⟩ : ByteArray) ++ t264)).bind fun t267 => (if t267 = true then (if s.size + 1 ≤ 9223372036854775807 then (if (s ++ (⟨#[58]⟩ : ByteArray)).size + t.size ≤ 9223372036854775807 then ((wicketmanlaw08_fields.f k ((s ++ (⟨#[58]⟩ : ByteArray)) ++ t)).bind fun t268 => (if t268 = true then ((wicketmanlaw08_prints.f k n v).bind fun t269 => (if t269 = true then ((wicketmanlaw08_prints.f k t263 t264).bind fun t270 => (if t270 = true then ((wicketmanlaw08_prints.f k (⟨#[97]⟩ : ByteArray) t264).bind fun t271 => (if t271 = true then ((wicketmanlaw08_same.f k s t).bind fun t272 => (if t272 = true then ((wicketmanlaw08_same.f k t263 t264).bind fun t273 => (if t273 = true then ((wicketmanlaw08_same.f k t263 s).bind fun t274 => (some t274)) else (some false))) else (some false))) else (some false))) else (some false))) else (some false))) else (some false))) else (none)) else (none)) else (some false))) else (none)) else (some false))) else (some false))))) (fun k => ?_) ?_
      · simp only [wicketmanlaw08_HeadFields.j0]; rw [if_neg (by decide)]
      · refine Ev.bind (line_ev c hc (by omega)) ?_
        refine Ev.bind (line_ev d hd (by omega)) ?_
        refine Ev.bind (fields_true s hs) ?_
        simp only [if_true]
        refine Ev.bind (fields_true _ (by omega)) ?_
        have h7 : 7 + (lineS d).size ≤ 9223372036854775807 := by omega
        simp only [if_true, if_pos h7]
        refine Ev.bind (fields_true _ (by rw [ByteArray.size_append]; show 7 + _ ≤ _; omega)) ?_
        have h8 : s.size + 1 ≤ 9223372036854775807 := by omega
        have hz : (s ++ (⟨#[58]⟩ : ByteArray)).size = s.size + 1 := by rw [ByteArray.size_append]; rfl
        have h9 : (s ++ (⟨#[58]⟩ : ByteArray)).size + t.size ≤ 9223372036854775807 := by omega
        simp only [if_true, if_pos h8, if_pos h9]
        refine Ev.bind (fields_true _ (by rw [ByteArray.size_append]; omega)) ?_
        simp only [if_true]
        refine Ev.bind (prints_true n v hn hv) ?_
        simp only [if_true]
        refine Ev.bind (prints_true _ _ (by omega) (by omega)) ?_
        simp only [if_true]
        refine Ev.bind (prints_true _ _ (by show 1 ≤ _; omega) (by omega)) ?_
        simp only [if_true]
        refine Ev.bind (same_true s t hs ht) ?_
        simp only [if_true]
        refine Ev.bind (same_true _ _ (by omega) (by omega)) ?_
        simp only [if_true]
        refine Ev.bind (same_true _ _ (by omega) hs) ?_
        exact Ev.now _
theorem walk (a0 : ByteArray) (w0 : a0.size ≤ 140737488351232) (a1 : ByteArray) (w1 : a1.size ≤ 140737488351232) (a2 b2 : ByteArray) (w2 : a2.size ≤ 140737488351232) (x2 : b2.size ≤ 140737488351232)
    (A3 : Option Addr) (c3 : Nat) (l3 : List Int) {W : World} (hr3 : Kd.C (Kd.int .u8) W A3 l3.length l3) (hc3 : l3.length ≤ c3) (hw3 : ∀ x ∈ l3, (Lit.int .u8 x).wf = true) (y3 : l3.length ≤ 140737488351232)
    (A4 : Option Addr) (c4 : Nat) (l4 : List Int) (hr4 : Kd.C (Kd.int .u8) W A4 l4.length l4) (hc4 : l4.length ≤ c4) (hw4 : ∀ x ∈ l4, (Lit.int .u8 x).wf = true) (y4 : l4.length ≤ 140737488351232) (W' : World) (e : W' = W) (hS : Sh W) :
    Calls Tryd.prog 8 #[.string a0, .string a1, .agg #[.string a2, .string b2], .slice A3 l3.length c3, .slice A4 l4.length c4] W fun e W' => e = .returned (.bool true) ∧ Below W.heap.size W W' := by
  obtain ⟨k, hk⟩ := (plain a0 a1 a2 b2 l3 l4 w0 w1 w2 x2 (u8s_of_wf hw3) (u8s_of_wf hw4) y3 y4).rounds
  exact wicketmanlaw08_HeadFields.calls k a0 a1 a2 b2 A3 c3 l3 A4 c4 l4 true W hr3 hc3 hr4 hc4 hS hk
end Go.Proofs.YtgajaaagpihlkaaDoor.headFields
namespace Go.Proofs.YtgajaaagpihlkaaDoor.headFields
open Go.ChangeShapes Go.WideShapes Go.ChangeAt Go.RowKit Go.Proofs.YtgajaaagpihlkaaDoorW Go.Proofs.YtgajaaagpihlkaaDoorW.PrintWords Go.Proofs.YtgajaaagpihlkaaDoor.Pall
open Go.ChangeMaps (open_string shut_string)
set_option linter.unusedVariables false
theorem own : ownKnob Tryd.prog.godebug = none := by kernel_rfl
theorem laidOut : laidOutB Tryd.prog = true := by kernel_rfl
set_option maxRecDepth 100000 in
theorem lifted (os : Os) (started : os.Started) (H : Type) (enc : TypeId × Value → H) :
    ReturnsInHanded {} Tryd.checked os 8 .any (fun w args => (Rows.headFieldsSpec.pre enc Tryd.prog Tryd.f8 [] false w args ∧ laidMetH Tryd.prog Rows.headFieldsRow.laid w) ∧ sizedMet enc Tryd.prog Tryd.f8 (OpenSpec.ofChange Rows.headFieldsSpec) false w args)
      (Rows.headFieldsSpec.post enc Tryd.prog Tryd.f8 false true false false) := by
  refine law_lifted (C := Tryd.checked) (rt := 4) (L := Rows.headFieldsRow.laid) own started (by kernel_rfl) Tryd.func8 laidOut (by kernel_rfl) rfl rfl (by rfl) Tryd.underlying4 ?_ (ChangeSpec.witness_shaped (enc := enc) (C := Tryd.checked) (os := os) (X := fun w _ => laidMetH Tryd.prog Rows.headFieldsRow.laid w) false (World.laidAll Tryd.prog os Rows.headFieldsRow.laid) #[.string ByteArray.empty, .string ByteArray.empty, .agg #[.string ByteArray.empty, .string ByteArray.empty], .slice none 0 0, .slice none 0 0] 8 (World.laidAll_os _ _ _)
    (World.shaped_of_ZipB (by kernel_rfl) (by kernel_rfl)) (by kernel_rfl) (by kernel_rfl) (by kernel_rfl) (by rw [MakeChecks.laidMetH_plain _ _ _ (by kernel_rfl)]; exact laidMet_laidAll _ (by kernel_rfl) (by kernel_rfl))) ?_
  · intro ds hds
    have hds : ds.length = 5 := hds
    match ds, hds with
    | [_, _, _, _, _], _ => rfl
  intro W base args ds ps hval0 hA0 hsz0 hL hsh
  have hS : Sh W := cell_of_shapedOpen_int' hsh
  have hval : ∀ (j : Nat) t v, Tryd.f8.params[j]? = some t → args[j]? = some v → Value.okWide Tryd.prog W .any base t v := hval0
  have hA : DataW.TrodAll enc Tryd.prog W 0 (fun _ => true) true Tryd.f8.params.toList args.toList ds ps := hA0
  have hsz : (DataW.weightsEach Tryd.prog Tryd.f8.params.toList ds).all (· ≤ reachBytes) = true := hsz0
  rw [Tryd.params8] at hA hval hsz
  obtain ⟨v0, vs0, d0, ds0, p0, q0, hargs, rfl, rfl, h0, r0⟩ := trodAll_cons hA
  obtain ⟨v1, vs1, d1, ds1, p1, q1, rfl, rfl, rfl, h1, r1⟩ := trodAll_cons r0
  obtain ⟨v2, vs2, d2, ds2, p2, q2, rfl, rfl, rfl, h2, r2⟩ := trodAll_cons r1
  obtain ⟨v3, vs3, d3, ds3, p3, q3, rfl, rfl, rfl, h3, r3⟩ := trodAll_cons r2
  obtain ⟨v4, vs4, d4, ds4, p4, q4, rfl, rfl, rfl, h4, r4⟩ := trodAll_cons r3
  obtain ⟨rfl, rfl, rfl⟩ := trodAll_nil r4
  obtain rfl : args = #[v0, v1, v2, v3, v4] := by cases args; simp_all
  obtain ⟨a0, rfl, rfl, rfl, y0⟩ := open_string Tryd.underlying9 (hval 0 9 v0 rfl rfl) h0
  have w0 : a0.size ≤ 140737488351232 := by
    have z := sized_string hsz (j := 0) (t := 9) rfl rfl
    rw [Array.length_toList] at z
    exact z
  obtain ⟨a1, rfl, rfl, rfl, y1⟩ := open_string Tryd.underlying9 (hval 1 9 v1 rfl rfl) h1
  have w1 : a1.size ≤ 140737488351232 := by
    have z := sized_string hsz (j := 1) (t := 9) rfl rfl
    rw [Array.length_toList] at z
    exact z
  obtain ⟨a2, b2, rfl, w2, x2⟩ := pair_open hsz (j := 2) (t := 31) rfl rfl Tryd.underlying31 ⟨Tryd.underlying9, Tryd.underlying9⟩ ⟨by kernel_rfl, by kernel_rfl⟩ (hval 2 31 v2 rfl rfl) h2
  obtain ⟨A3, len3, cap3, rfl⟩ := okWide_slice Tryd.underlying22 (hval 3 22 v3 rfl rfl)
  obtain ⟨z3, w3⟩ := ints_row Tryd.underlying22 Tryd.underlying5 (by kernel_rfl) h3
  have y3 : len3 * 1 ≤ 140737488351232 := PrintWords.sized_ints hsz (j := 3) (t := 22) rfl rfl Tryd.underlying22 Tryd.underlying5 (by kernel_rfl) (by kernel_rfl) h3
  obtain ⟨l3, rfl, hr3, hm3, hw3, hc3⟩ := ReadsInt.ofRowC w3
  obtain ⟨A4, len4, cap4, rfl⟩ := okWide_slice Tryd.underlying22 (hval 4 22 v4 rfl rfl)
  obtain ⟨z4, w4⟩ := ints_row Tryd.underlying22 Tryd.underlying5 (by kernel_rfl) h4
  have y4 : len4 * 1 ≤ 140737488351232 := PrintWords.sized_ints hsz (j := 4) (t := 22) rfl rfl Tryd.underlying22 Tryd.underlying5 (by kernel_rfl) (by kernel_rfl) h4
  obtain ⟨l4, rfl, hr4, hm4, hw4, hc4⟩ := ReadsInt.ofRowC w4
  exact walk a0 w0 a1 w1 a2 b2 w2 x2 A3 cap3 l3 (Kd.C_of_reads (d := (0 : Int)) (h1 := fun _ => rfl) hr3) hc3 hw3 (by omega) A4 cap4 l4 (Kd.C_of_reads (d := (0 : Int)) (h1 := fun _ => rfl) hr4) hc4 hw4 (by omega) W rfl hS
theorem over : Rows.headFieldsRow.holds Tryd.pinned (OpenSpec.ofChange Rows.headFieldsSpec) :=
  OpenClaim.holds_of_wide 8 Tryd.f8 rfl rfl rfl rfl rfl rfl rfl ⟨rfl, rfl, rfl, rfl, rfl⟩ rfl rfl rfl rfl rfl (by kernel_rfl) Tryd.func8 (by kernel_rfl)
    (of_decide_eq_true (by kernel_rfl)) (by unfold Func.isWrapper; rw [if_neg (of_decide_eq_false (by kernel_rfl))]; exact ⟨rfl, rfl⟩)
    (fun os started H enc _ => lifted os started H enc)
theorem said : Rows.HeadFieldsSaid := over
theorem card : Rows.HeadFieldsCardSaid :=
  Claim7.holds_tied_plain_at .later [] [.data, .pinned] true (true, "354fb149afdaf3c4257d8e9b9bc27b1df5f32269821a08f6267663514def154d") false said (fun _ h => by cases h) (by kernel_rfl) (fun _ h => by cases h) headFields_row_tie rfl ⟨rfl, rfl⟩ (by kernel_rfl) rfl
    (fun f fn hf hfn => by
      obtain rfl : f = 8 := Option.some.inj ((show Tryd.prog.funcNamed "wicketman/wicketmanlaw08.HeadFields" = some 8 by kernel_rfl).symm.trans hf) |>.symm
      obtain rfl : fn = Tryd.f8 := (Option.some.inj (Tryd.func8.symm.trans hfn)).symm
      exact ⟨by kernel_rfl, fun j t ht => by
        rw [Tryd.params8] at ht
        have hm : t ∈ [9, 9, 31, 22, 22] := by simpa using Array.mem_of_getElem? ht
        have hall : ([9, 9, 31, 22, 22].all fun u => !Tryd.prog.wantsStandIn u) = true := by kernel_rfl
        exact (show Tryd.prog.wantsStandIn t = false by simpa using List.all_eq_true.1 hall t hm)⟩)
    (by kernel_rfl)
#print axioms card
end Go.Proofs.YtgajaaagpihlkaaDoor.headFields
namespace Go.Proofs.YtgajaaagpihlkaaDoor
/-- The card, under a short name, for the claim. -/
theorem headFields_card : Rows.HeadFieldsCardSaid := headFields.card
end Go.Proofs.YtgajaaagpihlkaaDoor

