/-
  CookieParses: for every text, list and choices the law returns true.
-/
import Derived.Test.YtipbgnhhmgljnaaDoorP11r
import Derived.Test.YtipbgnhhmgljnaaDoorRow
import Derived.Test.YtipbgnhhmgljnaaDoorTie
import Derived.Test.YtipbgnhhmgljnaaDoorCards
import Derived.Test.YtipbgnhhmgljnaaDoorPall11
namespace Go.Proofs.YtipbgnhhmgljnaaDoor.cookieParses
open Go.RowKit Go.Proofs.YtipbgnhhmgljnaaDoor.Pall Go.Proofs.YtipbgnhhmgljnaaDoor.Split Go.Proofs.YtipbgnhhmgljnaaDoor.Pl Go.Proofs.YtipbgnhhmgljnaaDoorW.PrintWords
set_option linter.unusedVariables false
set_option linter.unusedSimpArgs false
theorem j_known (a0 : ByteArray) (l1 : List ByteArray) (l2 l3 : List Int) : Ev (fun k => wicketmanlaw11_CookieParses.j0 k a0 l1 l2 l3 true) true := by
  refine Ev.step (f := fun _ => some true) (fun k => ?_) (Ev.now _)
  simp only [wicketmanlaw11_CookieParses.j0]
  rw [if_pos trivial, known11_true]
  rfl
theorem plain (a0 : ByteArray) (l1 : List ByteArray) (l2 l3 : List Int) (h1 : ∀ x ∈ l1, x.size ≤ 140737488351232) (hb2 : ∀ x ∈ l2, 0 ≤ x ∧ x ≤ 255) (hb3 : ∀ x ∈ l3, 0 ≤ x ∧ x ≤ 255) (hl2 : l2.length ≤ 9223372036854775806) (hl3 : l3.length ≤ 9223372036854775806) :
    Ev (fun k => wicketmanlaw11_CookieParses.f k a0 l1 l2 l3) true := by
  by_cases c1 : (a0.size : Int) > 300
  · refine Ev.congr (fun k => ?_) (j_known a0 l1 l2 l3)
    unfold wicketmanlaw11_CookieParses.f; rw [if_pos c1]
  by_cases c2 : (l1.length : Int) > 10
  · refine Ev.congr (fun k => ?_) (j_known a0 l1 l2 l3)
    unfold wicketmanlaw11_CookieParses.f; rw [if_neg c1, if_pos c2]
  refine Ev.congr (f := fun k => (wicketmanlaw11_long.f k l1).bind fun t => if t = true then wicketmanlaw11_CookieParses.j0 k a0 l1 l2 l3 true else wicketmanlaw11_CookieParses.j0 k a0 l1 l2 l3 false) (fun k => ?_) ?_
  · unfold wicketmanlaw11_CookieParses.f; rw [if_neg c1, if_neg c2, known11_true]; rfl
  refine Ev.bind (long_ev l1 (by omega) h1) ?_
  by_cases c3 : 400 < sumS l1
  · simp only [decide_eq_true c3, if_true]; exact j_known a0 l1 l2 l3
  simp only [decide_eq_false c3, Bool.false_eq_true, if_false]
  have hsz : ∀ x ∈ l1, x.size ≤ 1000000 := fun x hx => by have := size_le_sum l1 x hx; omega
  have hx := valueS_size l2 hb2
  have hy := valueS_size l3 hb3
  refine Ev.step (f := _) (fun k => by simp only [wicketmanlaw11_CookieParses.j0]; rw [if_neg (by decide)]) ?_
  refine Ev.bind (value_ev l2 hb2 hl2) ?_
  refine Ev.bind (value_ev l3 hb3 hl3) ?_
  generalize valueS l2 = x at *
  generalize valueS l3 = y at *
  refine Ev.bind (parses_true a0 (by omega)) ?_
  simp only [if_true]
  refine Ev.bind (parses_true x (by omega)) ?_
  simp only [if_true, if_pos (show 5 + y.size ≤ 9223372036854775807 by omega)]
  refine Ev.bind (parses_true _ (by rw [ByteArray.size_append]; show 5 + _ ≤ _; omega)) ?_
  simp only [if_true]
  refine Ev.bind (session_true l1 (by omega) hsz) ?_
  simp only [if_true]
  refine Ev.bind (session_true [x, y] (by simp) (by intro v hv; simp at hv; rcases hv with rfl | rfl <;> omega)) ?_
  simp only [if_true]
  refine Ev.bind (session_true [x] (by simp) (by intro v hv; simp at hv; rw [hv]; omega)) ?_
  simp only [if_true]
  refine Ev.bind (session_true _ (by simp) (by intro v hv; simp at hv; rcases hv with rfl | rfl; exact (by decide); omega)) ?_
  exact Ev.now _
theorem walk (a0 : ByteArray) (w0 : a0.size ≤ 140737488351232) (A1 : Option Addr) (c1 : Nat) (l1 : List ByteArray) {W : World} (hr1 : Kd.C Kd.string W A1 l1.length l1) (hc1 : l1.length ≤ c1) (y1 : ∀ x ∈ l1, x.size ≤ 140737488351232)
    (A2 : Option Addr) (c2 : Nat) (l2 : List Int) (hr2 : Kd.C (Kd.int .u8) W A2 l2.length l2) (hc2 : l2.length ≤ c2) (hw2 : ∀ x ∈ l2, (Lit.int .u8 x).wf = true) (y2 : l2.length ≤ 140737488351232)
    (A3 : Option Addr) (c3 : Nat) (l3 : List Int) (hr3 : Kd.C (Kd.int .u8) W A3 l3.length l3) (hc3 : l3.length ≤ c3) (hw3 : ∀ x ∈ l3, (Lit.int .u8 x).wf = true) (y3 : l3.length ≤ 140737488351232) (W' : World) (e : W' = W) (hS : Sh W) :
    Calls Tryd.prog 3 #[.string a0, .slice A1 l1.length c1, .slice A2 l2.length c2, .slice A3 l3.length c3] W fun e W' => e = .returned (.bool true) ∧ Below W.heap.size W W' := by
  obtain ⟨k, hk⟩ := (plain a0 l1 l2 l3 y1 (u8s_of_wf hw2) (u8s_of_wf hw3) (by omega) (by omega)).rounds
  exact wicketmanlaw11_CookieParses.calls k a0 A1 c1 l1 A2 c2 l2 A3 c3 l3 true W hr1 hc1 hr2 hc2 hr3 hc3 hS (Aside0.mk rfl) hk
end Go.Proofs.YtipbgnhhmgljnaaDoor.cookieParses
namespace Go.Proofs.YtipbgnhhmgljnaaDoor.cookieParses
open Go.ChangeShapes Go.WideShapes Go.ChangeAt Go.RowKit Go.Proofs.YtipbgnhhmgljnaaDoorW Go.Proofs.YtipbgnhhmgljnaaDoorW.PrintWords Go.Proofs.YtipbgnhhmgljnaaDoor.Pall
open Go.ChangeMaps (open_string shut_string)
set_option linter.unusedVariables false
theorem own : ownKnob Tryd.prog.godebug = none := by kernel_rfl
theorem laidOut : laidOutB Tryd.prog = true := by kernel_rfl
set_option maxRecDepth 100000 in
theorem lifted (os : Os) (started : os.Started) (H : Type) (enc : TypeId × Value → H) :
    ReturnsInHanded {} Tryd.checked os 3 .any (fun w args => (Rows.cookieParsesSpec.pre enc Tryd.prog Tryd.f3 [] false w args ∧ laidMetH Tryd.prog Rows.cookieParsesRow.laid w) ∧ sizedMet enc Tryd.prog Tryd.f3 (OpenSpec.ofChange Rows.cookieParsesSpec) false w args)
      (Rows.cookieParsesSpec.post enc Tryd.prog Tryd.f3 false true false false) := by
  refine law_lifted (C := Tryd.checked) (rt := 4) (L := Rows.cookieParsesRow.laid) own started (by kernel_rfl) Tryd.func3 laidOut (by kernel_rfl) rfl rfl (by rfl) Tryd.underlying4 ?_ (ChangeSpec.witness_shaped (enc := enc) (C := Tryd.checked) (os := os) (X := fun w _ => laidMetH Tryd.prog Rows.cookieParsesRow.laid w) false (World.laidAll Tryd.prog os Rows.cookieParsesRow.laid) #[.string ByteArray.empty, .slice none 0 0, .slice none 0 0, .slice none 0 0] 8 (World.laidAll_os _ _ _)
    (World.shaped_of_ZipB (by kernel_rfl) (by kernel_rfl)) (by kernel_rfl) (by kernel_rfl) (by kernel_rfl) (by rw [MakeChecks.laidMetH_plain _ _ _ (by kernel_rfl)]; exact laidMet_laidAll _ (by kernel_rfl) (by kernel_rfl))) ?_
  · intro ds hds
    have hds : ds.length = 4 := hds
    match ds, hds with
    | [_, _, _, _], _ => rfl
  intro W base args ds ps hval0 hA0 hsz0 hL hsh
  have hS : Sh W := sh_of hsh hL (by kernel_rfl) 2 rfl
  have hval : ∀ (j : Nat) t v, Tryd.f3.params[j]? = some t → args[j]? = some v → Value.okWide Tryd.prog W .any base t v := hval0
  have hA : DataW.TrodAll enc Tryd.prog W 0 (fun _ => true) true Tryd.f3.params.toList args.toList ds ps := hA0
  have hsz : (DataW.weightsEach Tryd.prog Tryd.f3.params.toList ds).all (· ≤ reachBytes) = true := hsz0
  rw [Tryd.params3] at hA hval hsz
  obtain ⟨v0, vs0, d0, ds0, p0, q0, hargs, rfl, rfl, h0, r0⟩ := trodAll_cons hA
  obtain ⟨v1, vs1, d1, ds1, p1, q1, rfl, rfl, rfl, h1, r1⟩ := trodAll_cons r0
  obtain ⟨v2, vs2, d2, ds2, p2, q2, rfl, rfl, rfl, h2, r2⟩ := trodAll_cons r1
  obtain ⟨v3, vs3, d3, ds3, p3, q3, rfl, rfl, rfl, h3, r3⟩ := trodAll_cons r2
  obtain ⟨rfl, rfl, rfl⟩ := trodAll_nil r3
  obtain rfl : args = #[v0, v1, v2, v3] := by cases args; simp_all
  obtain ⟨a0, rfl, rfl, rfl, y0⟩ := open_string Tryd.underlying9 (hval 0 9 v0 rfl rfl) h0
  have w0 : a0.size ≤ 140737488351232 := by
    have z := sized_string hsz (j := 0) (t := 9) rfl rfl
    rw [Array.length_toList] at z
    exact z
  obtain ⟨A1, len1, cap1, rfl⟩ := okWide_slice Tryd.underlying22 (hval 1 22 v1 rfl rfl)
  obtain ⟨l1, rfl, hr1, hc1, y1⟩ := strs_row hsz (j := 1) (t := 22) rfl rfl Tryd.underlying22 Tryd.underlying9 (by kernel_rfl) h1
  obtain ⟨A2, len2, cap2, rfl⟩ := okWide_slice Tryd.underlying23 (hval 2 23 v2 rfl rfl)
  obtain ⟨z2, w2⟩ := ints_row Tryd.underlying23 Tryd.underlying5 (by kernel_rfl) h2
  have y2 : len2 * 1 ≤ 140737488351232 := PrintWords.sized_ints hsz (j := 2) (t := 23) rfl rfl Tryd.underlying23 Tryd.underlying5 (by kernel_rfl) (by kernel_rfl) h2
  obtain ⟨l2, rfl, hr2, hm2, hw2, hc2⟩ := ReadsInt.ofRowC w2
  obtain ⟨A3, len3, cap3, rfl⟩ := okWide_slice Tryd.underlying23 (hval 3 23 v3 rfl rfl)
  obtain ⟨z3, w3⟩ := ints_row Tryd.underlying23 Tryd.underlying5 (by kernel_rfl) h3
  have y3 : len3 * 1 ≤ 140737488351232 := PrintWords.sized_ints hsz (j := 3) (t := 23) rfl rfl Tryd.underlying23 Tryd.underlying5 (by kernel_rfl) (by kernel_rfl) h3
  obtain ⟨l3, rfl, hr3, hm3, hw3, hc3⟩ := ReadsInt.ofRowC w3
  exact walk a0 w0 A1 cap1 l1 hr1 hc1 y1 A2 cap2 l2 (Kd.C_of_reads (d := (0 : Int)) (h1 := fun _ => rfl) hr2) hc2 hw2 (by omega) A3 cap3 l3 (Kd.C_of_reads (d := (0 : Int)) (h1 := fun _ => rfl) hr3) hc3 hw3 (by omega) W rfl hS
theorem over : Rows.cookieParsesRow.holds Tryd.pinned (OpenSpec.ofChange Rows.cookieParsesSpec) :=
  OpenClaim.holds_of_wide 3 Tryd.f3 rfl rfl rfl rfl rfl rfl rfl ⟨rfl, rfl, rfl, rfl, rfl⟩ rfl rfl rfl rfl rfl (by kernel_rfl) Tryd.func3 (by kernel_rfl)
    (of_decide_eq_true (by kernel_rfl)) (by unfold Func.isWrapper; rw [if_neg (of_decide_eq_false (by kernel_rfl))]; exact ⟨rfl, rfl⟩)
    (fun os started H enc _ => lifted os started H enc)
theorem said : Rows.CookieParsesSaid := over
theorem card : Rows.CookieParsesCardSaid :=
  Claim7.holds_tied_plain_at .later [] [.data, .data, .data, .data, .pinned] true (true, "82b5f123bb936d0beffd2142160fa2ce6c33d3fa771e2f017819932a8649ff2e") false said (fun _ h => by cases h) (by kernel_rfl) (fun _ h => by cases h) cookieParses_row_tie rfl ⟨rfl, rfl⟩ (by kernel_rfl) rfl
    (fun f fn hf hfn => by
      obtain rfl : f = 3 := Option.some.inj ((show Tryd.prog.funcNamed "wicketman/wicketmanlaw11.CookieParses" = some 3 by kernel_rfl).symm.trans hf) |>.symm
      obtain rfl : fn = Tryd.f3 := (Option.some.inj (Tryd.func3.symm.trans hfn)).symm
      exact ⟨by kernel_rfl, fun j t ht => by
        rw [Tryd.params3] at ht
        have hm : t ∈ [9, 22, 23, 23] := by simpa using Array.mem_of_getElem? ht
        have hall : ([9, 22, 23, 23].all fun u => !Tryd.prog.wantsStandIn u) = true := by kernel_rfl
        exact (show Tryd.prog.wantsStandIn t = false by simpa using List.all_eq_true.1 hall t hm)⟩)
    (by kernel_rfl)
#print axioms card
end Go.Proofs.YtipbgnhhmgljnaaDoor.cookieParses
namespace Go.Proofs.YtipbgnhhmgljnaaDoor
/-- The card, under a short name, for the claim. -/
theorem cookieParses_card : Rows.CookieParsesCardSaid := cookieParses.card
end Go.Proofs.YtipbgnhhmgljnaaDoor

