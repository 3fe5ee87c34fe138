/-
  RespOne: for every bytes, status and body the law returns true.
-/
import Derived.Test.YtpfbemcoblganaaDoorPl10
import Derived.Test.YtpfbemcoblganaaDoorRq
import Derived.Test.YtpfbemcoblganaaDoorRow
import Derived.Test.YtpfbemcoblganaaDoorTie
import Derived.Test.YtpfbemcoblganaaDoorCards
import Derived.Test.YtpfbemcoblganaaDoorPall27
namespace Go.Proofs.YtpfbemcoblganaaDoor.respOne
open Go.RowKit Go.Proofs.YtpfbemcoblganaaDoor.Pall Go.Proofs.YtpfbemcoblganaaDoor.Pl Go.Proofs.YtpfbemcoblganaaDoorW.PrintWords
set_option linter.unusedVariables false
set_option linter.unusedSimpArgs false
theorem small_fsL (ls : List ByteArray) (h : fldsE (midL ls) = 0) : smallF (fsL ls) = true := by
  unfold smallF
  rw [List.all_eq_true]
  intro p hp
  obtain ⟨l, hl, rfl⟩ := List.mem_map.1 hp
  exact decide_eq_true (fld_sizes l (fldsE_mem _ h l hl))
theorem parseR_cases (l0 : List Int) : parseR l0 = noRsp ∨ ((parseR l0).2.2.2 = 0 ∧ smallF (parseR l0).2.1 = true ∧ (prS (parseR l0).1 (parseR l0).2.1 (parseR l0).2.2.1).2 = 0 ∧ ((strOfNums l0).toList == (strOfNums (prS (parseR l0).1 (parseR l0).2.1 (parseR l0).2.2.1).1).toList) = true) := by
  unfold parseR
  generalize linesS (strOfNums l0).data.toList = r
  by_cases h1 : r.2.2 = true
  · rw [if_pos h1]
    unfold parseRL
    by_cases hg : goodR l0 r.1 (l0.drop (l0.length - r.2.1))
    · rw [if_pos hg]
      obtain ⟨_, _, h3, h4, h5⟩ := hg
      generalize l0.drop (l0.length - r.2.1) = bd at *
      refine .inr ⟨rfl, small_fsL _ h3, ?_, ?_⟩
      · dsimp only; exact h4
      · dsimp only; exact h5
    · rw [if_neg hg]; exact .inl rfl
  · rw [if_neg h1]; exact .inl rfl
theorem tail_true (a1 : Int) (l2 : List Int) (hl : l2.length ≤ 400) : ((resp_Reason.f a1).bind fun t => (if (((prS a1 [] l2).2 == 0) == (t.toList != ([] : List UInt8))) = true then (if (prS a1 [] l2).2 = 0 then (some true) else (some ((prS a1 [] l2).2 == 1))) else (some false))) = some true := by
  unfold resp_Reason.f
  rw [Option.bind_some]
  by_cases h : reasonS a1 = ⟨#[]⟩
  · have hp : prS a1 [] l2 = ([], 1) := by unfold prS; rw [if_pos h]
    rw [hp, h, ByteArray.toList_eq]; rfl
  · have hp : (prS a1 [] l2).2 = 0 := by
      rw [prS_ok h (by simp; omega) rfl]
    have hz : ((reasonS a1).toList != ([] : List UInt8)) = true := by
      rw [ByteArray.toList_eq]
      cases hd : (reasonS a1).data.toList with
      | nil => exact absurd (ba_ext hd) h
      | cons a l => rfl
    rw [hp, hz]; rfl
theorem plain (l0 : List Int) (a1 : Int) (l2 : List Int) (h0 : l0.length ≤ 140737488351232) (h2 : l2.length ≤ 140737488351232) : wicketmanlaw10_RespOne.f l0 a1 l2 = some true := by
  unfold wicketmanlaw10_RespOne.f
  rw [wrap_id (by omega) (by omega)]
  by_cases c1 : ((l0.length : Int) + (l2.length : Int)) > 400
  · rw [if_pos c1, wicketmanlaw10_known.told]; rfl
  · rw [if_neg c1]
    have hq : resp_Parse.f l0 = some (parseR l0) := by unfold resp_Parse.f; rw [if_pos (by omega)]
    have hg : resp_Print.f a1 [] l2 = some (prS a1 [] l2) := by unfold resp_Print.f; rw [if_pos (show smallF [] = true from rfl)]
    have ht := tail_true a1 l2 (by omega)
    rw [hq, Option.bind_some, hg]
    rcases parseR_cases l0 with hn | ⟨e1, e2, e3, e4⟩
    · rw [hn]
      have hp : resp_Print.f noRsp.1 noRsp.2.1 noRsp.2.2.1 = some (prS 0 [] []) := by unfold resp_Print.f; rw [if_pos (show smallF noRsp.2.1 = true from rfl)]; rfl
      rw [hp, Option.bind_some, Option.bind_some, wicketmanlaw10_known.told, Option.bind_some, if_pos rfl, if_neg (show ¬ noRsp.2.2.2 = 0 by decide)]
      exact ht
    · have hp : resp_Print.f (parseR l0).1 (parseR l0).2.1 (parseR l0).2.2.1 = some (prS (parseR l0).1 (parseR l0).2.1 (parseR l0).2.2.1) := by unfold resp_Print.f; rw [if_pos e2]
      rw [hp, Option.bind_some, Option.bind_some, wicketmanlaw10_known.told, Option.bind_some, if_pos rfl, if_pos e1, if_pos e3, if_pos (beq_iff_eq.1 e4).symm]
      exact ht
theorem walk (A0 : Option Addr) (c0 : Nat) (l0 : List Int) {W : World} (hr0 : Kd.C (Kd.int .u8) W A0 l0.length l0) (hc0 : l0.length ≤ c0) (hw0 : ∀ x ∈ l0, (Lit.int .u8 x).wf = true) (y0 : l0.length ≤ 140737488351232) (a1 : Int) (w1 : (Lit.int .i64 a1).wf = true)
    (A2 : Option Addr) (c2 : Nat) (l2 : List Int) (hr2 : Kd.C (Kd.int .u8) W A2 l2.length l2) (hc2 : l2.length ≤ c2) (hw2 : ∀ x ∈ l2, (Lit.int .u8 x).wf = true) (y2 : l2.length ≤ 140737488351232) (W' : World) (e : W' = W) (hS : Sh W) (hT : Tb W) :
    Calls Tryd.prog 13 #[.slice A0 l0.length c0, .int .i64 a1, .slice A2 l2.length c2] W fun e W' => e = .returned (.bool true) ∧ Below W.heap.size W W' :=
  wicketmanlaw10_RespOne.calls A0 c0 l0 a1 A2 c2 l2 true W hr0 hc0 hr2 hc2 hS hT (Aside0.mk rfl) (plain l0 a1 l2 y0 y2)
end Go.Proofs.YtpfbemcoblganaaDoor.respOne
namespace Go.Proofs.YtpfbemcoblganaaDoor.respOne
open Go.ChangeShapes Go.WideShapes Go.ChangeAt Go.RowKit Go.Proofs.YtpfbemcoblganaaDoorW Go.Proofs.YtpfbemcoblganaaDoorW.PrintWords Go.Proofs.YtpfbemcoblganaaDoor.Pall
open Go.ChangeMaps (open_string shut_string)
set_option linter.unusedVariables false
theorem own : ownKnob Tryd.prog.godebug = none := by kernel_rfl
theorem laidOut : laidOutB Tryd.prog = true := by kernel_rfl
set_option maxRecDepth 100000 in
theorem lifted (os : Os) (started : os.Started) (H : Type) (enc : TypeId × Value → H) :
    ReturnsInHanded {} Tryd.checked os 13 .any (fun w args => (Rows.respOneSpec.pre enc Tryd.prog Tryd.f13 [] false w args ∧ laidMetH Tryd.prog Rows.respOneRow.laid w) ∧ sizedMet enc Tryd.prog Tryd.f13 (OpenSpec.ofChange Rows.respOneSpec) false w args)
      (Rows.respOneSpec.post enc Tryd.prog Tryd.f13 false true false false) := by
  refine law_lifted (C := Tryd.checked) (rt := 4) (L := Rows.respOneRow.laid) own started (by kernel_rfl) Tryd.func13 laidOut (by kernel_rfl) rfl rfl (by rfl) Tryd.underlying4 ?_ (ChangeSpec.witness_shaped (enc := enc) (C := Tryd.checked) (os := os) (X := fun w _ => laidMetH Tryd.prog Rows.respOneRow.laid w) false (World.laidAll Tryd.prog os Rows.respOneRow.laid) #[.slice none 0 0, .int .i64 0, .slice none 0 0] 8 (World.laidAll_os _ _ _)
    (World.shaped_of_ZipB (by kernel_rfl) (by kernel_rfl)) (by kernel_rfl) (by kernel_rfl) (by kernel_rfl) (by rw [MakeChecks.laidMetH_plain _ _ _ (by kernel_rfl)]; exact laidMet_laidAll _ (by kernel_rfl) (by kernel_rfl))) ?_
  · intro ds hds
    have hds : ds.length = 3 := hds
    match ds, hds with
    | [_, _, _], _ => rfl
  intro W base args ds ps hval0 hA0 hsz0 hL hsh
  have hS : Sh W := cell_of_shapedOpen_int' hsh
  have hT : Tb W := tb_of hL (by kernel_rfl) 2 rfl
  have hval : ∀ (j : Nat) t v, Tryd.f13.params[j]? = some t → args[j]? = some v → Value.okWide Tryd.prog W .any base t v := hval0
  have hA : DataW.TrodAll enc Tryd.prog W 0 (fun _ => true) true Tryd.f13.params.toList args.toList ds ps := hA0
  have hsz : (DataW.weightsEach Tryd.prog Tryd.f13.params.toList ds).all (· ≤ reachBytes) = true := hsz0
  rw [Tryd.params13] at hA hval hsz
  obtain ⟨v0, vs0, d0, ds0, p0, q0, hargs, rfl, rfl, h0, r0⟩ := trodAll_cons hA
  obtain ⟨v1, vs1, d1, ds1, p1, q1, rfl, rfl, rfl, h1, r1⟩ := trodAll_cons r0
  obtain ⟨v2, vs2, d2, ds2, p2, q2, rfl, rfl, rfl, h2, r2⟩ := trodAll_cons r1
  obtain ⟨rfl, rfl, rfl⟩ := trodAll_nil r2
  obtain rfl : args = #[v0, v1, v2] := by cases args; simp_all
  obtain ⟨A0, len0, cap0, rfl⟩ := okWide_slice Tryd.underlying22 (hval 0 22 v0 rfl rfl)
  obtain ⟨z0, w0⟩ := ints_row Tryd.underlying22 Tryd.underlying5 (by kernel_rfl) h0
  have y0 : len0 * 1 ≤ 140737488351232 := PrintWords.sized_ints hsz (j := 0) (t := 22) rfl rfl Tryd.underlying22 Tryd.underlying5 (by kernel_rfl) (by kernel_rfl) h0
  obtain ⟨l0, rfl, hr0, hm0, hw0, hc0⟩ := ReadsInt.ofRowC w0
  obtain ⟨a1, rfl, rfl, rfl, w1⟩ := open_int Tryd.underlying3 (hval 1 3 v1 rfl rfl) h1
  obtain ⟨A2, len2, cap2, rfl⟩ := okWide_slice Tryd.underlying22 (hval 2 22 v2 rfl rfl)
  obtain ⟨z2, w2⟩ := ints_row Tryd.underlying22 Tryd.underlying5 (by kernel_rfl) h2
  have y2 : len2 * 1 ≤ 140737488351232 := PrintWords.sized_ints hsz (j := 2) (t := 22) rfl rfl Tryd.underlying22 Tryd.underlying5 (by kernel_rfl) (by kernel_rfl) h2
  obtain ⟨l2, rfl, hr2, hm2, hw2, hc2⟩ := ReadsInt.ofRowC w2
  exact walk A0 cap0 l0 (Kd.C_of_reads (d := (0 : Int)) (h1 := fun _ => rfl) hr0) hc0 hw0 (by omega) a1 w1 A2 cap2 l2 (Kd.C_of_reads (d := (0 : Int)) (h1 := fun _ => rfl) hr2) hc2 hw2 (by omega) W rfl hS hT
theorem over : Rows.respOneRow.holds Tryd.pinned (OpenSpec.ofChange Rows.respOneSpec) :=
  OpenClaim.holds_of_wide 13 Tryd.f13 rfl rfl rfl rfl rfl rfl rfl ⟨rfl, rfl, rfl, rfl, rfl⟩ rfl rfl rfl rfl rfl (by kernel_rfl) Tryd.func13 (by kernel_rfl)
    (of_decide_eq_true (by kernel_rfl)) (by unfold Func.isWrapper; rw [if_neg (of_decide_eq_false (by kernel_rfl))]; exact ⟨rfl, rfl⟩)
    (fun os started H enc _ => lifted os started H enc)
theorem said : Rows.RespOneSaid := over
theorem card : Rows.RespOneCardSaid :=
  Claim7.holds_tied_plain_at .later [] [.data, .data, .data, .data, .sentinel, .pinned] true (true, "79a6d220dc140684a9dab3eb2f9ce24deda1b71e26dfa61c675eb49a4432bf09") true said (fun _ h => by cases h) (by kernel_rfl) (fun _ h => by cases h) respOne_row_tie rfl ⟨rfl, rfl⟩ (by kernel_rfl) rfl
    (fun f fn hf hfn => by
      obtain rfl : f = 13 := Option.some.inj ((show Tryd.prog.funcNamed "wicketman/wicketmanlaw10.RespOne" = some 13 by kernel_rfl).symm.trans hf) |>.symm
      obtain rfl : fn = Tryd.f13 := (Option.some.inj (Tryd.func13.symm.trans hfn)).symm
      exact ⟨by kernel_rfl, fun j t ht => by
        rw [Tryd.params13] at ht
        have hm : t ∈ [22, 3, 22] := by simpa using Array.mem_of_getElem? ht
        have hall : ([22, 3, 22].all fun u => !Tryd.prog.wantsStandIn u) = true := by kernel_rfl
        exact (show Tryd.prog.wantsStandIn t = false by simpa using List.all_eq_true.1 hall t hm)⟩)
    (by kernel_rfl)
#print axioms card
end Go.Proofs.YtpfbemcoblganaaDoor.respOne
namespace Go.Proofs.YtpfbemcoblganaaDoor
/-- The card, under a short name, for the claim. -/
theorem respOne_card : Rows.RespOneCardSaid := respOne.card
end Go.Proofs.YtpfbemcoblganaaDoor

