/-
 GateDraws: for every draw the law returns true.
-/
import Derived.Test.YthdiiiopjkaifaaGreatDoorZdFactGateDraws
import Derived.Test.YthdiiiopjkaifaaGreatDoorZdGdraws
import Derived.Test.YthdiiiopjkaifaaGreatDoorZdPlb
import Derived.Test.YthdiiiopjkaifaaGreatDoorZdRow
import Derived.Test.YthdiiiopjkaifaaGreatDoorTie
import Derived.Test.YthdiiiopjkaifaaGreatDoorCards
namespace Go.Proofs.YthdiiiopjkaifaaGreatDoor.gateDraws
open Go Go.RowKit Go.Proofs.YthdiiiopjkaifaaGreatDoor.Pall Go.Proofs.YthdiiiopjkaifaaGreatDoor.Pl Go.Proofs.YthdiiiopjkaifaaGreatDoorW.PrintWords
set_option linter.unusedVariables false
theorem walk (A0 : Option Addr) (c0 : Nat) (l0 : List Int) {W : World} (hr0 : Kd.C (Kd.int .u8) W A0 l0.length l0) (hc0 : l0.length ≤ c0) (hw0 : ∀ x ∈ l0, (Lit.int .u8 x).wf = true) (y0 : l0.length ≤ 140737488351232) (W' : World) (e : W' = W) (hS : Sh W) (hT : Tb W) :
  Calls Tryz.prog 11 #[.slice A0 l0.length c0] W fun e W' => e = .returned (.bool true) ∧ Below W.heap.size W W' :=
 draws_any A0 c0 l0 W hr0 hc0 y0 hS hT
end Go.Proofs.YthdiiiopjkaifaaGreatDoor.gateDraws
namespace Go.Proofs.YthdiiiopjkaifaaGreatDoor.gateDraws
open Go.ChangeShapes Go.WideShapes Go.ChangeAt Go.RowKit Go.Proofs.YthdiiiopjkaifaaGreatDoorW Go.Proofs.YthdiiiopjkaifaaGreatDoorW.PrintWords Go.Proofs.YthdiiiopjkaifaaGreatDoor.Pall
open Go.ChangeMaps (open_string shut_string)
set_option linter.unusedVariables false
theorem own : ownKnob Tryz.prog.godebug = none := by kernel_rfl
theorem laidOut : laidOutB Tryz.prog = true := f_laid
set_option maxRecDepth 100000 in
theorem lifted (os : Os) (started : os.Started) (H : Type) (enc : TypeId × Value → H) :
  ReturnsInHanded {} Tryz.checked os 11 .any (fun w args => (Rows.gateDrawsSpec.pre enc Tryz.prog Tryz.f11 [] false w args ∧ laidMetH Tryz.prog Rows.gateDrawsRow.laid w) ∧ sizedMet enc Tryz.prog Tryz.f11 (OpenSpec.ofChange Rows.gateDrawsSpec) false w args)
   (Rows.gateDrawsSpec.post enc Tryz.prog Tryz.f11 false true false false) := by
 refine law_lifted (C := Tryz.checked) (rt := 4) (L := Rows.gateDrawsRow.laid) own started (by kernel_rfl) Tryz.func11 laidOut (by kernel_rfl) rfl rfl (by rfl) Tryz.underlying4 ?_ (ChangeSpec.witness_shaped (enc := enc) (C := Tryz.checked) (os := os) (X := fun w _ => laidMetH Tryz.prog Rows.gateDrawsRow.laid w) false (World.laidAll Tryz.prog os Rows.gateDrawsRow.laid) #[.slice none 0 0] 8 (World.laidAll_os _ _ _)
  (World.shaped_of_ZipB (by kernel_rfl) (by kernel_rfl)) (by kernel_rfl) (by kernel_rfl) (by kernel_rfl) (by rw [MakeChecks.laidMetH_plain _ _ _ (by kernel_rfl)]; exact laidMet_laidAll _ (by kernel_rfl) (by kernel_rfl))) ?_
 ·intro ds hds
  have hds : ds.length = 1 := hds
  match ds, hds with
  | [_], _ => rfl
 intro W base args ds ps hval0 hA0 hsz0 hL hsh
 have hS : Sh W := cell_of_shapedOpen_int' hsh
 have hT : Tb W := tb_of hL (by kernel_rfl) 2 rfl
 have hval : ∀ (j : Nat) t v, Tryz.f11.params[j]? = some t → args[j]? = some v → Value.okWide Tryz.prog W .any base t v := hval0
 have hA : DataW.TrodAll enc Tryz.prog W 0 (fun _ => true) true Tryz.f11.params.toList args.toList ds ps := hA0
 have hsz : (DataW.weightsEach Tryz.prog Tryz.f11.params.toList ds).all (· ≤ reachBytes) = true := hsz0
 rw [Tryz.params11] at hA hval hsz
 obtain ⟨v0, vs0, d0, ds0, p0, q0, hargs, rfl, rfl, h0, r0⟩ := trodAll_cons hA
 obtain ⟨rfl, rfl, rfl⟩ := trodAll_nil r0
 obtain rfl : args = #[v0] := by cases args; simp_all
 obtain ⟨A0, len0, cap0, rfl⟩ := okWide_slice Tryz.underlying23 (hval 0 23 v0 rfl rfl)
 obtain ⟨z0, w0⟩ := ints_row Tryz.underlying23 Tryz.underlying5 (by kernel_rfl) h0
 have y0 : len0 * 1 ≤ 140737488351232 := PrintWords.sized_ints hsz (j := 0) (t := 23) rfl rfl Tryz.underlying23 Tryz.underlying5 (by kernel_rfl) (by kernel_rfl) h0
 obtain ⟨l0, rfl, hr0, hm0, hw0, hc0⟩ := ReadsInt.ofRowC w0
 exact walk A0 cap0 l0 (Kd.C_of_reads (d := (0 : Int)) (h1 := fun _ => rfl) hr0) hc0 hw0 (by omega) W rfl hS hT
theorem over : Rows.gateDrawsRow.holds Tryz.pinned (OpenSpec.ofChange Rows.gateDrawsSpec) :=
 OpenClaim.holds_of_wide 11 Tryz.f11 rfl rfl rfl rfl rfl rfl rfl ⟨rfl, rfl, rfl, rfl, rfl⟩ rfl rfl rfl rfl rfl (by kernel_rfl) Tryz.func11 f_closed
  (of_decide_eq_true (by kernel_rfl)) (by unfold Func.isWrapper; rw [if_neg (of_decide_eq_false (by kernel_rfl))]; exact ⟨rfl, rfl⟩)
  (fun os started H enc _ => lifted os started H enc)
theorem said : Rows.GateDrawsSaid := over
theorem card : Rows.GateDrawsCardSaid :=
 Claim7.holds_tied_plain_at .later [] [.data, .data, .data, .data, .sentinel, .data, .pinned] true (true, "cbaf399387bbab5b2aa857cf5a388fc448ee37b6fc6eda4b010d0fadef5744a6") true said (fun _ h => by cases h) f_wf (fun _ h => by cases h) gateDraws_row_tie rfl ⟨rfl, rfl⟩ (by kernel_rfl) rfl
  (fun f fn hf hfn => by
   obtain rfl : f = 11 := Option.some.inj ((show Tryz.prog.funcNamed "wicketman/wicketmanlaw19.GateDraws" = some 11 by kernel_rfl).symm.trans hf) |>.symm
   obtain rfl : fn = Tryz.f11 := (Option.some.inj (Tryz.func11.symm.trans hfn)).symm
   exact ⟨f_looks, fun j t ht => by
    rw [Tryz.params11] at ht
    have hm : t ∈ [23] := by simpa using Array.mem_of_getElem? ht
    have hall : ([23].all fun u => !Tryz.prog.wantsStandIn u) = true := by kernel_rfl
    exact (show Tryz.prog.wantsStandIn t = false by simpa using List.all_eq_true.1 hall t hm)⟩)
  f_goes
#print axioms card
end Go.Proofs.YthdiiiopjkaifaaGreatDoor.gateDraws
namespace Go.Proofs.YthdiiiopjkaifaaGreatDoor
/-- The card, under a short name, for the claim. -/
theorem gateDraws_card : Rows.GateDrawsCardSaid := gateDraws.card
end Go.Proofs.YthdiiiopjkaifaaGreatDoor
