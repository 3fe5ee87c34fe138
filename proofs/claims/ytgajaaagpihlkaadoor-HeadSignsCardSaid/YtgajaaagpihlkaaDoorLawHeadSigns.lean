/-
  HeadSigns: for every two bytes the law returns true.
-/
import Derived.Test.YtgajaaagpihlkaaDoorRowA
import Derived.Test.YtgajaaagpihlkaaDoorPl08
import Derived.Test.YtgajaaagpihlkaaDoorTie
import Derived.Test.YtgajaaagpihlkaaDoorCards
import Derived.Test.YtgajaaagpihlkaaDoorPall3
namespace Go.Proofs.YtgajaaagpihlkaaDoor.headSigns
open Go.RowKit Go.Proofs.YtgajaaagpihlkaaDoorW.PrintWords Go.Proofs.YtgajaaagpihlkaaDoor.Pall
set_option linter.unusedVariables false
set_option linter.unusedSimpArgs false
theorem known_true : wicketmanlaw08_known.f = some true := by decide +kernel
theorem tok1 (c : UInt8) : head_Token.f (strOfNums [(c.toNat : Int)]) = some (tokB c) := by
  show some (tokL (strOfNums [(c.toNat : Int)]).data.toList) = _
  rw [strOfNums_data]; simp [tokL]
theorem tok2 (c d : UInt8) : head_Token.f (strOfNums [(c.toNat : Int)] ++ strOfNums [(d.toNat : Int)]) = some (tokB c && tokB d) := by
  show some (tokL (strOfNums [(c.toNat : Int)] ++ strOfNums [(d.toNat : Int)]).data.toList) = _
  congr 1
  have : (strOfNums [(c.toNat : Int)] ++ strOfNums [(d.toNat : Int)]).data.toList = [c, d] := by simp [strOfNums]
  rw [this]; simp [tokL]
theorem tok_range (c : UInt8) : tokB c = true → (c.toNat : Int) > 32 ∧ (c.toNat : Int) < 127 ∧ ¬ (c.toNat : Int) = 58 ∧ ¬ (c.toNat : Int) = 44 ∧ ¬ (c.toNat : Int) = 59 ∧ ¬ (c.toNat : Int) = 61 ∧ ¬ (c.toNat : Int) = 34 := by
  have h := u8_all (fun c => !tokB c || decide ((c.toNat : Int) > 32 ∧ (c.toNat : Int) < 127 ∧ ¬ (c.toNat : Int) = 58 ∧ ¬ (c.toNat : Int) = 44 ∧ ¬ (c.toNat : Int) = 59 ∧ ¬ (c.toNat : Int) = 61 ∧ ¬ (c.toNat : Int) = 34)) (by decide +kernel) c
  intro ht; rw [ht] at h; simpa using h
theorem plain (c d : UInt8) : wicketmanlaw08_HeadSigns.f c.toNat d.toNat = some true := by
  unfold wicketmanlaw08_HeadSigns.f
  simp only [Option.bind_some]
  rw [tok1, tok1, known_true, tok2]
  have he : head_Token.f (⟨#[]⟩ : ByteArray) = some false := rfl
  have hab : head_Token.f (⟨#[97, 32, 98]⟩ : ByteArray) = some false := by decide +kernel
  simp only [Option.bind_some, he, hab, if_true]
  rw [if_pos (by rw [strOfNums_size, strOfNums_size]; show 1 + 1 ≤ _; omega)]
  cases hc : tokB c with
  | true =>
    obtain ⟨h1, h2, h3, h4, h5, h6, h7⟩ := tok_range c hc
    simp [h1, h2, h3, h4, h5, h6, h7]
  | false => simp
theorem walk (a0 : Int) (w0 : (Lit.int .u8 a0).wf = true) (a1 : Int) (w1 : (Lit.int .u8 a1).wf = true) (W : World) (hS : Sh W) :
    Calls Tryd.prog 4 #[.int .u8 a0, .int .u8 a1] W fun e W' => e = .returned (.bool true) ∧ Below W.heap.size W W' := by
  obtain ⟨c, rfl⟩ := u8_of_wf w0
  obtain ⟨d, rfl⟩ := u8_of_wf w1
  exact wicketmanlaw08_HeadSigns.calls _ _ true W hS (plain c d)
end Go.Proofs.YtgajaaagpihlkaaDoor.headSigns
namespace Go.Proofs.YtgajaaagpihlkaaDoor.headSigns
open Go.ChangeShapes Go.WideShapes Go.ChangeAt Go.RowKit Go.Proofs.YtgajaaagpihlkaaDoorW Go.Proofs.YtgajaaagpihlkaaDoorW.PrintWords Go.Proofs.YtgajaaagpihlkaaDoor.Pall
open Go.ChangeMaps (open_string shut_string)
set_option linter.unusedVariables false
theorem own : ownKnob Tryd.prog.godebug = none := by kernel_rfl
theorem laidOut : laidOutB Tryd.prog = true := by kernel_rfl
set_option maxRecDepth 100000 in
theorem lifted (os : Os) (started : os.Started) (H : Type) (enc : TypeId × Value → H) :
    ReturnsInHanded {} Tryd.checked os 4 .any (fun w args => (Rows.headSignsSpec.pre enc Tryd.prog Tryd.f4 [] false w args ∧ laidMetH Tryd.prog Rows.headSignsRow.laid w) ∧ sizedMet enc Tryd.prog Tryd.f4 (OpenSpec.ofChange Rows.headSignsSpec) false w args)
      (Rows.headSignsSpec.post enc Tryd.prog Tryd.f4 false true false false) := by
  refine law_lifted (C := Tryd.checked) (rt := 4) (L := Rows.headSignsRow.laid) own started (by kernel_rfl) Tryd.func4 laidOut (by kernel_rfl) rfl rfl (by rfl) Tryd.underlying4 ?_ (ChangeSpec.witness_shaped (enc := enc) (C := Tryd.checked) (os := os) (X := fun w _ => laidMetH Tryd.prog Rows.headSignsRow.laid w) false (World.laidAll Tryd.prog os Rows.headSignsRow.laid) #[.int .u8 0, .int .u8 0] 8 (World.laidAll_os _ _ _)
    (World.shaped_of_ZipB (by kernel_rfl) (by kernel_rfl)) (by kernel_rfl) (by kernel_rfl) (by kernel_rfl) (by rw [MakeChecks.laidMetH_plain _ _ _ (by kernel_rfl)]; exact laidMet_laidAll _ (by kernel_rfl) (by kernel_rfl))) ?_
  · intro ds hds
    have hds : ds.length = 2 := hds
    match ds, hds with
    | [_, _], _ => rfl
  intro W base args ds ps hval0 hA0 hsz0 hL hsh
  have hS : Sh W := cell_of_shapedOpen_int' hsh
  have hval : ∀ (j : Nat) t v, Tryd.f4.params[j]? = some t → args[j]? = some v → Value.okWide Tryd.prog W .any base t v := hval0
  have hA : DataW.TrodAll enc Tryd.prog W 0 (fun _ => true) true Tryd.f4.params.toList args.toList ds ps := hA0
  have hsz : (DataW.weightsEach Tryd.prog Tryd.f4.params.toList ds).all (· ≤ reachBytes) = true := hsz0
  rw [Tryd.params4] at hA hval hsz
  obtain ⟨v0, vs0, d0, ds0, p0, q0, hargs, rfl, rfl, h0, r0⟩ := trodAll_cons hA
  obtain ⟨v1, vs1, d1, ds1, p1, q1, rfl, rfl, rfl, h1, r1⟩ := trodAll_cons r0
  obtain ⟨rfl, rfl, rfl⟩ := trodAll_nil r1
  obtain rfl : args = #[v0, v1] := by cases args; simp_all
  obtain ⟨a0, rfl, rfl, rfl, w0⟩ := open_int Tryd.underlying5 (hval 0 5 v0 rfl rfl) h0
  obtain ⟨a1, rfl, rfl, rfl, w1⟩ := open_int Tryd.underlying5 (hval 1 5 v1 rfl rfl) h1
  exact walk a0 w0 a1 w1 W hS
theorem over : Rows.headSignsRow.holds Tryd.pinned (OpenSpec.ofChange Rows.headSignsSpec) :=
  OpenClaim.holds_of_wide 4 Tryd.f4 rfl rfl rfl rfl rfl rfl rfl ⟨rfl, rfl, rfl, rfl, rfl⟩ rfl rfl rfl rfl rfl (by kernel_rfl) Tryd.func4 (by kernel_rfl)
    (of_decide_eq_true (by kernel_rfl)) (by unfold Func.isWrapper; rw [if_neg (of_decide_eq_false (by kernel_rfl))]; exact ⟨rfl, rfl⟩)
    (fun os started H enc _ => lifted os started H enc)
theorem said : Rows.HeadSignsSaid := over
theorem card : Rows.HeadSignsCardSaid :=
  Claim7.holds_tied_plain_at .later [] [.data, .pinned] true (true, "354fb149afdaf3c4257d8e9b9bc27b1df5f32269821a08f6267663514def154d") false said (fun _ h => by cases h) (by kernel_rfl) (fun _ h => by cases h) headSigns_row_tie rfl ⟨rfl, rfl⟩ (by kernel_rfl) rfl
    (fun f fn hf hfn => by
      obtain rfl : f = 4 := Option.some.inj ((show Tryd.prog.funcNamed "wicketman/wicketmanlaw08.HeadSigns" = some 4 by kernel_rfl).symm.trans hf) |>.symm
      obtain rfl : fn = Tryd.f4 := (Option.some.inj (Tryd.func4.symm.trans hfn)).symm
      exact ⟨by kernel_rfl, fun j t ht => by
        rw [Tryd.params4] at ht
        have hm : t ∈ [5, 5] := by simpa using Array.mem_of_getElem? ht
        have hall : ([5, 5].all fun u => !Tryd.prog.wantsStandIn u) = true := by kernel_rfl
        exact (show Tryd.prog.wantsStandIn t = false by simpa using List.all_eq_true.1 hall t hm)⟩)
    (by kernel_rfl)
#print axioms card
end Go.Proofs.YtgajaaagpihlkaaDoor.headSigns
namespace Go.Proofs.YtgajaaagpihlkaaDoor
/-- The card, under a short name, for the claim. -/
theorem headSigns_card : Rows.HeadSignsCardSaid := headSigns.card
end Go.Proofs.YtgajaaagpihlkaaDoor

