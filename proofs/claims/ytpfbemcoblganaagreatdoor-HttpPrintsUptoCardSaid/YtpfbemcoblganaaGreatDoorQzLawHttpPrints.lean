/-
  HttpPrints, the second form: Print and Same of any requests, and of those of choices, are what the chapter says, where what is read is of bulk at most 1048576.
-/
import Derived.Test.YtpfbemcoblganaaGreatDoorQzRowU
import Derived.Test.YtpfbemcoblganaaGreatDoorTie
import Derived.Test.YtpfbemcoblganaaGreatDoorCards
import Derived.Test.YtpfbemcoblganaaGreatDoorQzPl09v
import Derived.Test.YtpfbemcoblganaaGreatDoorQzPall11
namespace Go.Proofs.YtpfbemcoblganaaGreatDoor.httpPrints
open Go.RowKit Go.Proofs.YtpfbemcoblganaaGreatDoor.Pl Go.Proofs.YtpfbemcoblganaaGreatDoor.Pall Go.Proofs.YtpfbemcoblganaaGreatDoorW.PrintWords
set_option linter.unusedVariables false
set_option linter.unusedSimpArgs false
theorem walk (m0 p0 : ByteArray) (A0 : Option Addr) (c0 : Nat) (l0 : List S34) (B0 : Option Addr) (e0 : Nat) (n0 : List Int) {W : World} (hr0 : Kd.C k34 W A0 l0.length l0) (hc0 : l0.length ≤ c0) (hs0 : Kd.C (Kd.int .u8) W B0 n0.length n0) (hd0 : n0.length ≤ e0) (u0 : ∀ x ∈ n0, (Lit.int .u8 x).wf = true) (b0 : m0.size + p0.size + n0.length + hvR l0 ≤ 1048576)
    (m1 p1 : ByteArray) (A1 : Option Addr) (c1 : Nat) (l1 : List S34) (B1 : Option Addr) (e1 : Nat) (n1 : List Int) (hr1 : Kd.C k34 W A1 l1.length l1) (hc1 : l1.length ≤ c1) (hs1 : Kd.C (Kd.int .u8) W B1 n1.length n1) (hd1 : n1.length ≤ e1) (u1 : ∀ x ∈ n1, (Lit.int .u8 x).wf = true) (b1 : m1.size + p1.size + n1.length + hvR l1 ≤ 1048576)
    (A2 : Option Addr) (c2 : Nat) (l2 : List Int) (hr2 : Kd.C (Kd.int .u8) W A2 l2.length l2) (hc2 : l2.length ≤ c2) (hw2 : ∀ x ∈ l2, (Lit.int .u8 x).wf = true) (y2 : l2.length ≤ 140737488351232) (a3 : Int) (w3 : (Lit.int .u8 a3).wf = true) (hS : Sh W) :
    Calls Tryz.prog 3 #[.agg #[.string m0, .string p0, .slice A0 l0.length c0, .slice B0 n0.length e0], .agg #[.string m1, .string p1, .slice A1 l1.length c1, .slice B1 n1.length e1], .slice A2 l2.length c2, .int .u8 a3] W fun e W' => e = .returned (.bool true) ∧ Below W.heap.size W W' := by
  simp [Lit.wf, IntKind.min, IntKind.max, IntKind.signed, IntKind.bits] at w3
  obtain ⟨q0, rfl⟩ := nums_of n0 (u8s_of_wf u0)
  obtain ⟨q1, rfl⟩ := nums_of n1 (u8s_of_wf u1)
  have h0 : hvQ m0 p0 l0 q0.length ≤ 4000000000 := by
    rw [numsL_len] at b0
    have e : hvR l0 = hvS l0 := rfl
    unfold hvQ; omega
  have h1 : hvQ m1 p1 l1 q1.length ≤ 4000000000 := by
    rw [numsL_len] at b1
    have e : hvR l1 = hvS l1 := rfl
    unfold hvQ; omega
  obtain ⟨k, hk⟩ := (plain_prints m0 p0 l0 q0 m1 p1 l1 q1 l2 a3 h0 h1 (u8s_of_wf hw2) (by omega) (by omega)).rounds
  exact wicketmanlaw09_HttpPrints.calls k m0 p0 A0 c0 l0 B0 e0 (numsL q0) m1 p1 A1 c1 l1 B1 e1 (numsL q1) A2 c2 l2 a3 true W hr0 hc0 hs0 hd0 hr1 hc1 hs1 hd1 hr2 hc2 hS (Aside0.mk rfl) hk
end Go.Proofs.YtpfbemcoblganaaGreatDoor.httpPrints
namespace Go.Proofs.YtpfbemcoblganaaGreatDoor.httpPrints
open Go.ChangeShapes Go.WideShapes Go.ChangeAt Go.RowKit Go.Proofs.YtpfbemcoblganaaGreatDoorW Go.Proofs.YtpfbemcoblganaaGreatDoorW.PrintWords Go.Proofs.YtpfbemcoblganaaGreatDoor.Pall
open Go.ChangeMaps (open_string shut_string)
set_option linter.unusedVariables false
theorem own : ownKnob Tryz.prog.godebug = none := by kernel_rfl
theorem laidOut : laidOutB Tryz.prog = true := by kernel_rfl
set_option maxRecDepth 100000 in
theorem witness (os : Os) (H : Type) (enc : TypeId × Value → H) : ∃ (w : World) (tape : Tape) (i : Input), w.os = os ∧ (w.forCall tape i).Shaped Tryz.prog ∧ i.vars = [] ∧ Input.okWide Tryz.prog (w.forCall tape i) .any w.heap.size 3 i ∧
    (Rows.OpenSpec.upto Rows.httpPrintsSpec).preRow enc Tryz.prog Tryz.f3 [] false Rows.httpPrintsUptoRow.laid (w.forCall tape i).memory i.args ∧ ({} : Assume).holds Tryz.prog (lone (Frame.enter Tryz.prog 3 i.args .normal) [] (w.forCall tape i)) := by
  obtain ⟨w, tape, i, h1, h2, h3, h4, ⟨⟨_, hX⟩, _⟩, h6⟩ := ChangeSpec.witness_shaped (enc := enc) (C := Tryz.checked) (os := os) (f := 3) (fn := Tryz.f3) (s := Rows.httpPrintsSpec) (conds := []) (apart := false)
    (X := fun w args => (Rows.OpenSpec.upto Rows.httpPrintsSpec).preRow enc Tryz.prog Tryz.f3 [] false Rows.httpPrintsUptoRow.laid w args) false (World.laidAll Tryz.prog os Rows.httpPrintsUptoRow.laid)
    #[.agg #[.string ByteArray.empty, .string ByteArray.empty, .slice none 0 0, .slice none 0 0], .agg #[.string ByteArray.empty, .string ByteArray.empty, .slice none 0 0, .slice none 0 0], .slice none 0 0, .int .u8 0] 8 (World.laidAll_os _ _ _)
    (World.shaped_of_ZipB (by kernel_rfl) (by kernel_rfl)) (by kernel_rfl) (by kernel_rfl) (by kernel_rfl)
    (OpenSpec.preRow_of_cond 8 (x := ([.agg [.lit (.string []), .lit (.string []), .nil, .nil], .agg [.lit (.string []), .lit (.string []), .nil, .nil], .nil, .lit (.int .u8 0)], [], [])) (by kernel_rfl) (by kernel_rfl) (fun k hk => by cases hk; kernel_rfl) (by kernel_rfl)
      (by rw [MakeChecks.laidMetH_plain _ _ _ (by kernel_rfl)]; exact laidMet_laidAll _ (by kernel_rfl) (by kernel_rfl)))
  exact ⟨w, tape, i, h1, h2, h3, h4, hX, h6⟩
set_option maxRecDepth 100000 in
theorem lifted (os : Os) (started : os.Started) (H : Type) (enc : TypeId × Value → H) (F : Stop.Interp) :
    ReturnsInHanded {} Tryz.checked os 3 .any ((Rows.OpenSpec.upto Rows.httpPrintsSpec).preRow enc Tryz.prog Tryz.f3 Rows.httpPrintsUptoRow.domain false Rows.httpPrintsUptoRow.laid)
      (((Rows.OpenSpec.upto Rows.httpPrintsSpec).at F).post enc Tryz.prog Tryz.f3 false true false false) := by
  refine law_upto (C := Tryz.checked) (s := Rows.httpPrintsSpec) (rt := 4) (L := Rows.httpPrintsUptoRow.laid) own started (by kernel_rfl) Tryz.func3 laidOut (by kernel_rfl) rfl rfl (by rfl) Tryz.underlying4 ?_ (witness os H enc) ?_
  · intro ds hds
    have hds : ds.length = 4 := hds
    match ds, hds with
    | [_, _, _, _], _ => rfl
  intro W base args ds ps hval0 hA0 hsz0 hL hsh hbulk
  have hS : Sh W := cell_of_shapedOpen_int' hsh
  have hval : ∀ (j : Nat) t v, Tryz.f3.params[j]? = some t → args[j]? = some v → Value.okWide Tryz.prog W .any base t v := hval0
  have hA : DataW.TrodAll enc Tryz.prog W 0 (fun _ => true) true Tryz.f3.params.toList args.toList ds ps := hA0
  have hsz : (DataW.weightsEach Tryz.prog Tryz.f3.params.toList ds).all (· ≤ reachBytes) = true := hsz0
  rw [Tryz.params3] at hA hval hsz
  obtain ⟨v0, vs0, d0, ds0, p0, q0, hargs, rfl, rfl, h0, r0⟩ := trodAll_cons hA
  obtain ⟨v1, vs1, d1, ds1, p1, q1, rfl, rfl, rfl, h1, r1⟩ := trodAll_cons r0
  obtain ⟨v2, vs2, d2, ds2, p2, q2, rfl, rfl, rfl, h2, r2⟩ := trodAll_cons r1
  obtain ⟨v3, vs3, d3, ds3, p3, q3, rfl, rfl, rfl, h3, r3⟩ := trodAll_cons r2
  obtain ⟨rfl, rfl, rfl⟩ := trodAll_nil r3
  obtain rfl : args = #[v0, v1, v2, v3] := by cases args; simp_all
  simp only [Rows.uptoBulkAll] at hbulk
  obtain ⟨s0, t0, A0, c0, l0, B0, e0, n0, rfl, hr0, hc0, hs0, hd0, u0, b0⟩ := req_open2 hsz (j := 0) rfl rfl (hval 0 25 v0 rfl rfl) h0
  obtain ⟨s1, t1, A1, c1, l1, B1, e1, n1, rfl, hr1, hc1, hs1, hd1, u1, b1⟩ := req_open2 hsz (j := 1) rfl rfl (hval 1 25 v1 rfl rfl) h1
  obtain ⟨A2, len2, cap2, rfl⟩ := okWide_slice Tryz.underlying23 (hval 2 23 v2 rfl rfl)
  obtain ⟨l2, rfl, hr2, hc2, hw2, y2⟩ := bytes_row hsz (j := 2) (t := 23) rfl rfl Tryz.underlying23 h2
  obtain ⟨a3, rfl, rfl, rfl, w3⟩ := open_int Tryz.underlying5 (hval 3 5 v3 rfl rfl) h3
  exact walk s0 t0 A0 c0 l0 B0 e0 n0 hr0 hc0 hs0 hd0 u0 (by omega) s1 t1 A1 c1 l1 B1 e1 n1 hr1 hc1 hs1 hd1 u1 (by omega) A2 cap2 l2 hr2 hc2 hw2 y2 a3 w3 hS
theorem over : Rows.httpPrintsUptoRow.holds Tryz.pinned (Rows.OpenSpec.upto Rows.httpPrintsSpec) :=
  OpenClaim.holds_of_cond 3 Tryz.f3 rfl rfl rfl rfl rfl rfl rfl ⟨rfl, rfl, rfl, rfl, rfl⟩ rfl rfl rfl rfl rfl (by kernel_rfl) Tryz.func3 (by kernel_rfl)
    (of_decide_eq_true (by kernel_rfl)) (by unfold Func.isWrapper; rw [if_neg (of_decide_eq_false (by kernel_rfl))]; exact ⟨rfl, rfl⟩)
    (fun os started H enc _ F => by rw [OpenClaim.pre_eq_preRow]; exact lifted os started H enc F)
theorem said : Rows.HttpPrintsUptoSaid := over
theorem card : Rows.HttpPrintsUptoCardSaid :=
  Claim7.holds_tied_plain_at .later [] _ _ _ _ said (fun _ h => by cases h) (by kernel_rfl) (fun _ h => by cases h) httpPrintsUpto_row_tie rfl ⟨rfl, rfl⟩ (by kernel_rfl) rfl
    (fun f fn hf hfn => by
      obtain rfl : f = 3 := Option.some.inj ((show Tryz.prog.funcNamed "wicketman/wicketmanlaw09.HttpPrints" = some 3 by kernel_rfl).symm.trans hf) |>.symm
      obtain rfl : fn = Tryz.f3 := (Option.some.inj (Tryz.func3.symm.trans hfn)).symm
      exact ⟨by kernel_rfl, fun j t ht => by
        rw [Tryz.params3] at ht
        have hm : t ∈ [25, 25, 23, 5] := by simpa using Array.mem_of_getElem? ht
        have hall : ([25, 25, 23, 5].all fun u => !Tryz.prog.wantsStandIn u) = true := by kernel_rfl
        exact (show Tryz.prog.wantsStandIn t = false by simpa using List.all_eq_true.1 hall t hm)⟩)
    (by kernel_rfl)
#print axioms card
end Go.Proofs.YtpfbemcoblganaaGreatDoor.httpPrints
namespace Go.Proofs.YtpfbemcoblganaaGreatDoor
/-- The card, under a short name, for the claim. -/
theorem httpPrints_card : Rows.HttpPrintsUptoCardSaid := httpPrints.card
end Go.Proofs.YtpfbemcoblganaaGreatDoor
