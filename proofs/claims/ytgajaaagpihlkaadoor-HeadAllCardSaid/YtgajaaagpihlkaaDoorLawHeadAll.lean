/-
  HeadAll: for every pairs, name and choices the law returns true.
-/
import Derived.Test.YtgajaaagpihlkaaDoorRowB
import Derived.Test.YtgajaaagpihlkaaDoorPlB
import Derived.Test.YtgajaaagpihlkaaDoorTie
import Derived.Test.YtgajaaagpihlkaaDoorCards
import Derived.Test.YtgajaaagpihlkaaDoorMHeadAll
namespace Go.Proofs.YtgajaaagpihlkaaDoor.headAll
open Go.RowKit Go.Proofs.YtgajaaagpihlkaaDoorW.PrintWords Go.Proofs.YtgajaaagpihlkaaDoor.Pall
set_option linter.unusedVariables false
set_option linter.unusedSimpArgs false
def tab : List ByteArray := [⟨#[72, 111, 115, 116]⟩, ⟨#[104, 111, 115, 116]⟩, ⟨#[72, 79, 83, 84]⟩, ⟨#[72, 111, 115]⟩, ⟨#[72, 111, 115, 116, 116]⟩, ⟨#[]⟩, ⟨#[75, 226, 132, 170]⟩, ⟨#[107]⟩]
theorem tab_size (i : Int) : (rdOf ByteArray.empty tab i).size ≤ 5 := by
  unfold rdOf
  have h : ∀ n : Nat, (tab.getD n ByteArray.empty).size ≤ 5 := by
    intro n
    match n with
    | 0 | 1 | 2 | 3 | 4 | 5 | 6 | 7 => decide
    | n + 8 => show ByteArray.empty.size ≤ 5; decide
  exact h _
def Good (m : List Pr) : Prop := ∀ p ∈ m, p.f0.size ≤ 140737488351232
theorem j2_true (l : List Pr) (n : ByteArray) (k3 : Int) (m : List Pr) (hl : l.length ≤ 40) (hgl : Good l) (hn : n.size ≤ 140737488351232) (h3 : 0 ≤ k3 ∧ k3 ≤ 255) (hm : m.length ≤ 20) (hgm : Good m) :
    Ev (fun k => wicketmanlaw08_HeadAll.j2 k l n k3 m tab) true := by
  have hx : (Int.tmod k3 8) = k3 % 8 := Int.tmod_eq_emod_of_nonneg h3.1
  have ht := tab_size (k3 % 8)
  refine Ev.step (f := fun k => (head_All.f k l n).bind fun a => (wicketmanref08_All.f k l n).bind fun b => (wicketmanref08_SameTexts.f k a b).bind fun t => if t = true then (head_All.f k m (rdOf ByteArray.empty tab (k3 % 8))).bind fun a => (wicketmanref08_All.f k m (rdOf ByteArray.empty tab (k3 % 8))).bind fun b => (wicketmanref08_SameTexts.f k a b).bind fun t => some t else some false) (fun k => ?_) ?_
  · simp only [wicketmanlaw08_HeadAll.j2, hx]
    simp only [if_pos (show 0 ≤ k3 % 8 by omega), if_pos (show k3 % 8 < (tab.length : Int) by show _ < (8 : Int); omega)]
  · have a1 := allS_len l n
    have a2 := allS_len m (rdOf ByteArray.empty tab (k3 % 8))
    refine Ev.bind (headAll_ev l n (by omega) hgl hn) ?_
    refine Ev.bind (refAll_ev l n (by omega) hgl) ?_
    refine Ev.bind (sameTexts_true _ (by omega)) ?_
    simp only [if_true]
    refine Ev.bind (headAll_ev m _ (by omega) hgm (by omega)) ?_
    refine Ev.bind (refAll_ev m _ (by omega) hgm) ?_
    refine Ev.bind (sameTexts_true _ (by omega)) ?_
    exact Ev.now _
theorem l0_true (l : List Pr) (n : ByteArray) (c : List Int) (k3 : Int) (hl : l.length ≤ 40) (hgl : Good l) (hn : n.size ≤ 140737488351232) (h3 : 0 ≤ k3 ∧ k3 ≤ 255) (hc : ∀ x ∈ c, 0 ≤ x ∧ x ≤ 255) : ∀ d i (m : List Pr), 20 - i = d → i ≤ 20 → m.length ≤ i → Good m →
    Ev (fun k => wicketmanlaw08_HeadAll.l0 k l n c k3 m tab (i : Nat)) true := by
  intro d
  induction d with
  | zero =>
    intro i m hd hi hm hgm
    obtain rfl : i = 20 := by omega
    refine Ev.step (f := fun k => wicketmanlaw08_HeadAll.j2 k l n k3 m tab) (fun k => ?_) (j2_true l n k3 m hl hgl hn h3 hm hgm)
    simp only [wicketmanlaw08_HeadAll.l0]
    by_cases h : ((20 : Nat) : Int) < (c.length : Int)
    · rw [if_pos h, if_neg (by decide)]
    · rw [if_neg h]
  | succ d ih =>
    intro i m hd hi hm hgm
    by_cases hlt : i < c.length
    · have hx := hc _ (getD_mem c 0 hlt)
      have e1 : Int.tmod (rd c (i : Nat)) 8 = c.getD i 0 % 8 := by unfold rd; rw [Int.toNat_natCast, Int.tmod_eq_emod_of_nonneg hx.1]
      have e2 : ((Int.tdiv (rd c (i : Nat)) 8) % 256) % 8 = (c.getD i 0 / 8) % 8 := by unfold rd; rw [Int.toNat_natCast, Int.tdiv_eq_ediv_of_nonneg hx.1]; omega
      refine Ev.step (f := fun k => wicketmanlaw08_HeadAll.l0 k l n c k3 (m ++ [⟨rdOf ByteArray.empty tab (c.getD i 0 % 8), rdOf ByteArray.empty tab ((c.getD i 0 / 8) % 8)⟩]) tab ((i + 1 : Nat) : Int)) (fun k => ?_) ?_
      · simp only [wicketmanlaw08_HeadAll.l0]
        simp only [e1, e2]
        have hT : (tab.length : Int) = 8 := rfl
        rw [if_pos (by omega), if_pos (by omega), if_pos (by omega), if_pos (by omega), if_pos (by omega), if_pos (by omega), if_pos (by omega), if_pos (by omega), wrap_id (by omega) (by omega)]
        rfl
      · refine ih (i + 1) _ (by omega) (by omega) (by rw [List.length_append]; simp; omega) ?_
        intro p hp
        rcases List.mem_append.1 hp with hp | hp
        · exact hgm p hp
        · obtain rfl := List.mem_singleton.1 hp
          have := tab_size (c.getD i 0 % 8)
          show (rdOf ByteArray.empty tab (c.getD i 0 % 8)).size ≤ _; omega
    · refine Ev.step (f := fun k => wicketmanlaw08_HeadAll.j2 k l n k3 m tab) (fun k => ?_) (j2_true l n k3 m hl hgl hn h3 (by omega) hgm)
      simp only [wicketmanlaw08_HeadAll.l0]
      rw [if_neg (by omega)]
theorem plain (l : List Pr) (n : ByteArray) (c : List Int) (k3 : Int) (hgl : Good l) (hn : n.size ≤ 140737488351232) (h3 : 0 ≤ k3 ∧ k3 ≤ 255) (hc : ∀ x ∈ c, 0 ≤ x ∧ x ≤ 255) :
    Ev (fun k => wicketmanlaw08_HeadAll.f k l n c k3) true := by
  have hk : Ev (fun k => wicketmanlaw08_HeadAll.j0 k l n c k3 true) true := by
    refine Ev.step (f := fun _ => some true) (fun k => ?_) (Ev.now _)
    simp only [wicketmanlaw08_HeadAll.j0]; rw [known08_true]; rfl
  by_cases h1 : (l.length : Int) > 40
  · refine Ev.congr (fun k => ?_) hk
    unfold wicketmanlaw08_HeadAll.f; rw [if_pos h1]
  · by_cases h2 : (n.size : Int) > 100
    · refine Ev.congr (fun k => ?_) hk
      unfold wicketmanlaw08_HeadAll.f; rw [if_neg h1, if_pos h2]
    · refine Ev.congr (f := fun k => wicketmanlaw08_HeadAll.j0 k l n c k3 false) (fun k => ?_) ?_
      · unfold wicketmanlaw08_HeadAll.f; rw [if_neg h1, if_neg h2, known08_true]; rfl
      · refine Ev.step (f := fun k => wicketmanlaw08_HeadAll.l0 k l n c k3 [] tab ((0 : Nat) : Int)) (fun k => ?_) (l0_true l n c k3 (by omega) hgl hn h3 hc _ 0 [] rfl (by omega) (by simp) (fun p hp => by cases hp))
        simp only [wicketmanlaw08_HeadAll.j0]
        rw [if_neg (by decide)]; rfl
theorem walk (A0 : Option Addr) (c0 : Nat) (l0 : List Pr) {W : World} (hr0 : Kd.C k31 W A0 l0.length l0) (hc0 : l0.length ≤ c0) (y0 : (∀ x ∈ l0, x.f0.size ≤ 140737488351232 ∧ x.f1.size ≤ 140737488351232) ∧ l0.length * 32 ≤ 140737488351232)
    (a1 : ByteArray) (w1 : a1.size ≤ 140737488351232)
    (A2 : Option Addr) (c2 : Nat) (l2 : List Int) (hr2 : Kd.C (Kd.int .u8) W A2 l2.length l2) (hc2 : l2.length ≤ c2) (hw2 : ∀ x ∈ l2, (Lit.int .u8 x).wf = true) (y2 : l2.length ≤ 140737488351232)
    (a3 : Int) (w3 : (Lit.int .u8 a3).wf = true) (W2 : World) (e : W2 = W) (hS : Sh W) :
    Calls Tryd.prog 6 #[.slice A0 l0.length c0, .string a1, .slice A2 l2.length c2, .int .u8 a3] W fun e W' => e = .returned (.bool true) ∧ Below W.heap.size W W' := by
  obtain ⟨x, hx⟩ := u8_of_wf w3
  have := x.toNat_lt
  obtain ⟨k, hk⟩ := (plain l0 a1 l2 a3 (fun p hp => (y0.1 p hp).1) w1 (by omega) (u8s_of_wf hw2)).rounds
  exact wicketmanlaw08_HeadAll.calls k A0 c0 l0 a1 A2 c2 l2 a3 true W hr0 hc0 hr2 hc2 hS hk
end Go.Proofs.YtgajaaagpihlkaaDoor.headAll
namespace Go.Proofs.YtgajaaagpihlkaaDoor.headAll
open Go.ChangeShapes Go.WideShapes Go.ChangeAt Go.RowKit Go.Proofs.YtgajaaagpihlkaaDoorW Go.Proofs.YtgajaaagpihlkaaDoorW.PrintWords Go.Proofs.YtgajaaagpihlkaaDoor.Pall
open Go.ChangeMaps (open_string shut_string)
set_option linter.unusedVariables false
theorem own : ownKnob Tryd.prog.godebug = none := by kernel_rfl
theorem laidOut : laidOutB Tryd.prog = true := by kernel_rfl
set_option maxRecDepth 100000 in
theorem lifted (os : Os) (started : os.Started) (H : Type) (enc : TypeId × Value → H) :
    ReturnsInHanded {} Tryd.checked os 6 .any (fun w args => (Rows.headAllSpec.pre enc Tryd.prog Tryd.f6 [] false w args ∧ laidMetH Tryd.prog Rows.headAllRow.laid w) ∧ sizedMet enc Tryd.prog Tryd.f6 (OpenSpec.ofChange Rows.headAllSpec) false w args)
      (Rows.headAllSpec.post enc Tryd.prog Tryd.f6 false true false false) := by
  refine law_lifted (C := Tryd.checked) (rt := 4) (L := Rows.headAllRow.laid) own started (by kernel_rfl) Tryd.func6 laidOut (by kernel_rfl) rfl rfl (by rfl) Tryd.underlying4 ?_ (ChangeSpec.witness_shaped (enc := enc) (C := Tryd.checked) (os := os) (X := fun w _ => laidMetH Tryd.prog Rows.headAllRow.laid w) false (World.laidAll Tryd.prog os Rows.headAllRow.laid) #[.slice none 0 0, .string ByteArray.empty, .slice none 0 0, .int .u8 0] 8 (World.laidAll_os _ _ _)
    (World.shaped_of_ZipB (by kernel_rfl) (by kernel_rfl)) (by kernel_rfl) (by kernel_rfl) (by kernel_rfl) (by rw [MakeChecks.laidMetH_plain _ _ _ (by kernel_rfl)]; exact laidMet_laidAll _ (by kernel_rfl) (by kernel_rfl))) ?_
  · intro ds hds
    have hds : ds.length = 4 := hds
    match ds, hds with
    | [_, _, _, _], _ => rfl
  intro W base args ds ps hval0 hA0 hsz0 hL hsh
  have hS : Sh W := cell_of_shapedOpen_int' hsh
  have hval : ∀ (j : Nat) t v, Tryd.f6.params[j]? = some t → args[j]? = some v → Value.okWide Tryd.prog W .any base t v := hval0
  have hA : DataW.TrodAll enc Tryd.prog W 0 (fun _ => true) true Tryd.f6.params.toList args.toList ds ps := hA0
  have hsz : (DataW.weightsEach Tryd.prog Tryd.f6.params.toList ds).all (· ≤ reachBytes) = true := hsz0
  rw [Tryd.params6] at hA hval hsz
  obtain ⟨v0, vs0, d0, ds0, p0, q0, hargs, rfl, rfl, h0, r0⟩ := trodAll_cons hA
  obtain ⟨v1, vs1, d1, ds1, p1, q1, rfl, rfl, rfl, h1, r1⟩ := trodAll_cons r0
  obtain ⟨v2, vs2, d2, ds2, p2, q2, rfl, rfl, rfl, h2, r2⟩ := trodAll_cons r1
  obtain ⟨v3, vs3, d3, ds3, p3, q3, rfl, rfl, rfl, h3, r3⟩ := trodAll_cons r2
  obtain ⟨rfl, rfl, rfl⟩ := trodAll_nil r3
  obtain rfl : args = #[v0, v1, v2, v3] := by cases args; simp_all
  obtain ⟨A0, len0, cap0, rfl⟩ := okWide_slice Tryd.underlying37 (hval 0 37 v0 rfl rfl)
  obtain ⟨l0, rfl, hr0, hc0, y0⟩ := pairs_row rfl hsz (j := 0) (t := 37) rfl rfl Tryd.underlying37 h0
  obtain ⟨a1, rfl, rfl, rfl, y1⟩ := open_string Tryd.underlying9 (hval 1 9 v1 rfl rfl) h1
  have w1 : a1.size ≤ 140737488351232 := by
    have z := sized_string hsz (j := 1) (t := 9) rfl rfl
    rw [Array.length_toList] at z
    exact z
  obtain ⟨A2, len2, cap2, rfl⟩ := okWide_slice Tryd.underlying22 (hval 2 22 v2 rfl rfl)
  obtain ⟨z2, w2⟩ := ints_row Tryd.underlying22 Tryd.underlying5 (by kernel_rfl) h2
  have y2 : len2 * 1 ≤ 140737488351232 := PrintWords.sized_ints hsz (j := 2) (t := 22) rfl rfl Tryd.underlying22 Tryd.underlying5 (by kernel_rfl) (by kernel_rfl) h2
  obtain ⟨l2, rfl, hr2, hm2, hw2, hc2⟩ := ReadsInt.ofRowC w2
  obtain ⟨a3, rfl, rfl, rfl, w3⟩ := open_int Tryd.underlying5 (hval 3 5 v3 rfl rfl) h3
  exact walk A0 cap0 l0 hr0 hc0 y0 a1 w1 A2 cap2 l2 (Kd.C_of_reads (d := (0 : Int)) (h1 := fun _ => rfl) hr2) hc2 hw2 (by omega) a3 w3 W rfl hS
theorem over : Rows.headAllRow.holds Tryd.pinned (OpenSpec.ofChange Rows.headAllSpec) :=
  OpenClaim.holds_of_wide 6 Tryd.f6 rfl rfl rfl rfl rfl rfl rfl ⟨rfl, rfl, rfl, rfl, rfl⟩ rfl rfl rfl rfl rfl (by kernel_rfl) Tryd.func6 (by kernel_rfl)
    (of_decide_eq_true (by kernel_rfl)) (by unfold Func.isWrapper; rw [if_neg (of_decide_eq_false (by kernel_rfl))]; exact ⟨rfl, rfl⟩)
    (fun os started H enc _ => lifted os started H enc)
theorem said : Rows.HeadAllSaid := over
theorem card : Rows.HeadAllCardSaid :=
  Claim7.holds_tied_plain_at .later [] [.data, .pinned] true (true, "354fb149afdaf3c4257d8e9b9bc27b1df5f32269821a08f6267663514def154d") false said (fun _ h => by cases h) (by kernel_rfl) (fun _ h => by cases h) headAll_row_tie rfl ⟨rfl, rfl⟩ (by kernel_rfl) rfl
    (fun f fn hf hfn => by
      obtain rfl : f = 6 := Option.some.inj ((show Tryd.prog.funcNamed "wicketman/wicketmanlaw08.HeadAll" = some 6 by kernel_rfl).symm.trans hf) |>.symm
      obtain rfl : fn = Tryd.f6 := (Option.some.inj (Tryd.func6.symm.trans hfn)).symm
      exact ⟨by kernel_rfl, fun j t ht => by
        rw [Tryd.params6] at ht
        have hm : t ∈ [37, 9, 22, 5] := by simpa using Array.mem_of_getElem? ht
        have hall : ([37, 9, 22, 5].all fun u => !Tryd.prog.wantsStandIn u) = true := by kernel_rfl
        exact (show Tryd.prog.wantsStandIn t = false by simpa using List.all_eq_true.1 hall t hm)⟩)
    (by kernel_rfl)
#print axioms card
end Go.Proofs.YtgajaaagpihlkaaDoor.headAll
namespace Go.Proofs.YtgajaaagpihlkaaDoor
/-- The card, under a short name, for the claim. -/
theorem headAll_card : Rows.HeadAllCardSaid := headAll.card
end Go.Proofs.YtgajaaagpihlkaaDoor

