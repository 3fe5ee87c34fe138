/-
  RespPages: for every status, body and fields the law returns true.
-/
import Derived.Test.YtpfbemcoblganaaDoorPl10p
import Derived.Test.YtpfbemcoblganaaDoorRow
import Derived.Test.YtpfbemcoblganaaDoorTie
import Derived.Test.YtpfbemcoblganaaDoorCards
import Derived.Test.YtpfbemcoblganaaDoorPall23
namespace Go.Proofs.YtpfbemcoblganaaDoor.respPages
open Go.RowKit Go.Proofs.YtpfbemcoblganaaDoor.Pall Go.Proofs.YtpfbemcoblganaaDoor.Pl Go.Proofs.YtpfbemcoblganaaDoorW.PrintWords
set_option linter.unusedVariables false
set_option linter.unusedSimpArgs false
theorem loop (x2 : List S43) (hx : x2.length ≤ 20) (a : Int) (b : List Int) : ∀ d i (L : List S43), L.length - i = d → i ≤ L.length → L.length ≤ 100 → Ev (fun k => wicketmanlaw10_RespPages.l0 k x2 x2 true (i : Int) a L b) true := by
  intro d
  induction d with
  | zero =>
    intro i L hd hi hL
    refine Ev.step (f := fun k => (wicketmanref07_Same.f k x2 x2).bind fun t => some t) (fun k => ?_) (Ev.bind (fs_same_true x2 (by omega)) (Ev.now _))
    simp only [wicketmanlaw10_RespPages.l0]
    rw [if_neg (by omega), if_pos trivial]
  | succ d ih =>
    intro i L hd hi hL
    refine Ev.step (f := fun k => wicketmanlaw10_RespPages.l0 k x2 x2 true ((i + 1 : Nat) : Int) a (L.set i ⟨(rd_T43 L (i : Int)).f0, (⟨#[63]⟩ : ByteArray)⟩) b) (fun k => ?_) (ih (i + 1) _ (by rw [List.length_set]; omega) (by rw [List.length_set]; omega) (by rw [List.length_set]; exact hL))
    simp only [wicketmanlaw10_RespPages.l0]
    rw [if_pos (by omega), if_pos (by omega), wrap_id (by omega) (by omega), Int.toNat_natCast]
    rfl
theorem mid (a0 : Int) (a1 : ByteArray) (l2 : List S43) (a3 : Int) (h1 : a1.size ≤ 300) (h2 : l2.length ≤ 20) (h3 : 0 ≤ a3 ∧ a3 ≤ 255) : Ev (fun k => wicketmanlaw10_RespPages.j0 k a0 a1 l2 a3 false) true := by
  have e3 : Int.tmod (wrap64 a3) 12 = a3 % 12 := by rw [wrap_id (by omega) (by omega), tmod_pos _ h3.1 12]
  refine Ev.step (f := fun k => (wicketmanref10_Same.f k a0 (two ++ l2) (btsOf a1) a0 (two ++ l2) (btsOf a1)).bind fun t => if t = true then ((wicketmanref10_Same.f k (rd [200, 303, 400, 401, 403, 404, 405, 409, 413, 429, 431, 503] (a3 % 12)) (two ++ []) (btsOf a1) (rd [200, 303, 400, 401, 403, 404, 405, 409, 413, 429, 431, 503] (a3 % 12)) (two ++ []) (btsOf a1)).bind fun t => wicketmanlaw10_RespPages.j1 k l2 l2 t a0 (two ++ l2) (btsOf a1)) else wicketmanlaw10_RespPages.j1 k l2 l2 false a0 (two ++ l2) (btsOf a1)) (fun k => ?_) ?_
  · simp only [wicketmanlaw10_RespPages.j0, wicketmanref10_Statuses.f, Option.bind_some, List.nil_append, Bool.false_eq_true, if_false]
    rw [if_pos (by simp only [List.length_nil]; omega), if_neg (by decide), show ((([200, 303, 400, 401, 403, 404, 405, 409, 413, 429, 431, 503] : List Int).length : Int)) = 12 from rfl, e3, if_pos (by omega), if_pos (by omega)]
    rw [page_some _ _ _ (by omega) (by omega), refPage_some _ _ _ (by omega) (by omega), page_some _ _ _ (by omega) (by simp), refPage_some _ _ _ (by omega) (by simp)]
    rfl
  · refine Ev.bind (same10_true _ _ _ (by simp [two]; omega)) ?_
    simp only [if_true]
    refine Ev.bind (same10_true _ _ _ (by simp [two])) ?_
    exact Ev.step (fun k => rfl) (loop l2 h2 a0 (btsOf a1) _ 0 (two ++ l2) rfl (by omega) (by simp [two]; omega))
theorem plain (a0 : Int) (a1 : ByteArray) (l2 : List S43) (a3 : Int) (h3 : 0 ≤ a3 ∧ a3 ≤ 255) : Ev (fun k => wicketmanlaw10_RespPages.f k a0 a1 l2 a3) true := by
  have big : Ev (fun k => wicketmanlaw10_RespPages.j0 k a0 a1 l2 a3 true) true := by
    refine Ev.step (f := fun _ => some true) (fun k => ?_) (Ev.now _)
    simp only [wicketmanlaw10_RespPages.j0, if_true, wicketmanlaw10_known.told, Option.bind_some]
  by_cases c1 : (a1.size : Int) > 300
  · exact Ev.congr (fun k => by unfold wicketmanlaw10_RespPages.f; rw [if_pos c1]) big
  · by_cases c2 : (l2.length : Int) > 20
    · exact Ev.congr (fun k => by unfold wicketmanlaw10_RespPages.f; rw [if_neg c1, if_pos c2]) big
    · exact Ev.congr (fun k => by unfold wicketmanlaw10_RespPages.f; rw [if_neg c1, if_neg c2, wicketmanlaw10_known.told]; rfl) (mid a0 a1 l2 a3 (by omega) (by omega) h3)
theorem walk (a0 : Int) (w0 : (Lit.int .i64 a0).wf = true) (a1 : ByteArray) (w1 : a1.size ≤ 140737488351232) (A2 : Option Addr) (c2 : Nat) (l2 : List S43) {W : World} (hr2 : Kd.C k43 W A2 l2.length l2) (hc2 : l2.length ≤ c2) (y2 : (∀ x ∈ l2, x.f0.size ≤ 140737488351232 ∧ x.f1.size ≤ 140737488351232) ∧ l2.length * 32 ≤ 140737488351232) (a3 : Int) (w3 : (Lit.int .u8 a3).wf = true) (W' : World) (e : W' = W) (hS : Sh W) (hT : Tb W) :
    Calls Tryd.prog 10 #[.int .i64 a0, .string a1, .slice A2 l2.length c2, .int .u8 a3] W fun e W' => e = .returned (.bool true) ∧ Below W.heap.size W W' := by
  simp [Lit.wf, IntKind.min, IntKind.max, IntKind.signed, IntKind.bits] at w3
  obtain ⟨k, hk⟩ := (plain a0 a1 l2 a3 ⟨by omega, by omega⟩).rounds
  exact wicketmanlaw10_RespPages.calls k a0 a1 A2 c2 l2 a3 true W hr2 hc2 hT (Aside0.mk rfl) hk
end Go.Proofs.YtpfbemcoblganaaDoor.respPages
namespace Go.Proofs.YtpfbemcoblganaaDoor.respPages
open Go.ChangeShapes Go.WideShapes Go.ChangeAt Go.RowKit Go.Proofs.YtpfbemcoblganaaDoorW Go.Proofs.YtpfbemcoblganaaDoorW.PrintWords Go.Proofs.YtpfbemcoblganaaDoor.Pall
open Go.ChangeMaps (open_string shut_string)
set_option linter.unusedVariables false
theorem own : ownKnob Tryd.prog.godebug = none := by kernel_rfl
theorem laidOut : laidOutB Tryd.prog = true := by kernel_rfl
set_option maxRecDepth 100000 in
theorem lifted (os : Os) (started : os.Started) (H : Type) (enc : TypeId × Value → H) :
    ReturnsInHanded {} Tryd.checked os 10 .any (fun w args => (Rows.respPagesSpec.pre enc Tryd.prog Tryd.f10 [] false w args ∧ laidMetH Tryd.prog Rows.respPagesRow.laid w) ∧ sizedMet enc Tryd.prog Tryd.f10 (OpenSpec.ofChange Rows.respPagesSpec) false w args)
      (Rows.respPagesSpec.post enc Tryd.prog Tryd.f10 false true false false) := by
  refine law_lifted (C := Tryd.checked) (rt := 4) (L := Rows.respPagesRow.laid) own started (by kernel_rfl) Tryd.func10 laidOut (by kernel_rfl) rfl rfl (by rfl) Tryd.underlying4 ?_ (ChangeSpec.witness_shaped (enc := enc) (C := Tryd.checked) (os := os) (X := fun w _ => laidMetH Tryd.prog Rows.respPagesRow.laid w) false (World.laidAll Tryd.prog os Rows.respPagesRow.laid) #[.int .i64 0, .string ByteArray.empty, .slice none 0 0, .int .u8 0] 8 (World.laidAll_os _ _ _)
    (World.shaped_of_ZipB (by kernel_rfl) (by kernel_rfl)) (by kernel_rfl) (by kernel_rfl) (by kernel_rfl) (by rw [MakeChecks.laidMetH_plain _ _ _ (by kernel_rfl)]; exact laidMet_laidAll _ (by kernel_rfl) (by kernel_rfl))) ?_
  · intro ds hds
    have hds : ds.length = 4 := hds
    match ds, hds with
    | [_, _, _, _], _ => rfl
  intro W base args ds ps hval0 hA0 hsz0 hL hsh
  have hS : Sh W := cell_of_shapedOpen_int' hsh
  have hT : Tb W := tb_of hL (by kernel_rfl) 2 rfl
  have hval : ∀ (j : Nat) t v, Tryd.f10.params[j]? = some t → args[j]? = some v → Value.okWide Tryd.prog W .any base t v := hval0
  have hA : DataW.TrodAll enc Tryd.prog W 0 (fun _ => true) true Tryd.f10.params.toList args.toList ds ps := hA0
  have hsz : (DataW.weightsEach Tryd.prog Tryd.f10.params.toList ds).all (· ≤ reachBytes) = true := hsz0
  rw [Tryd.params10] at hA hval hsz
  obtain ⟨v0, vs0, d0, ds0, p0, q0, hargs, rfl, rfl, h0, r0⟩ := trodAll_cons hA
  obtain ⟨v1, vs1, d1, ds1, p1, q1, rfl, rfl, rfl, h1, r1⟩ := trodAll_cons r0
  obtain ⟨v2, vs2, d2, ds2, p2, q2, rfl, rfl, rfl, h2, r2⟩ := trodAll_cons r1
  obtain ⟨v3, vs3, d3, ds3, p3, q3, rfl, rfl, rfl, h3, r3⟩ := trodAll_cons r2
  obtain ⟨rfl, rfl, rfl⟩ := trodAll_nil r3
  obtain rfl : args = #[v0, v1, v2, v3] := by cases args; simp_all
  obtain ⟨a0, rfl, rfl, rfl, w0⟩ := open_int Tryd.underlying3 (hval 0 3 v0 rfl rfl) h0
  obtain ⟨a1, rfl, rfl, rfl, y1⟩ := open_string Tryd.underlying9 (hval 1 9 v1 rfl rfl) h1
  have w1 : a1.size ≤ 140737488351232 := by
    have z := sized_string hsz (j := 1) (t := 9) rfl rfl
    rw [Array.length_toList] at z
    exact z
  obtain ⟨A2, len2, cap2, rfl⟩ := okWide_slice Tryd.underlying34 (hval 2 34 v2 rfl rfl)
  obtain ⟨l2, rfl, hr2, hc2, y2⟩ := pairs_row rfl hsz (j := 2) (t := 34) rfl rfl Tryd.underlying34 h2
  obtain ⟨a3, rfl, rfl, rfl, w3⟩ := open_int Tryd.underlying5 (hval 3 5 v3 rfl rfl) h3
  exact walk a0 w0 a1 w1 A2 cap2 l2 hr2 hc2 y2 a3 w3 W rfl hS hT
theorem over : Rows.respPagesRow.holds Tryd.pinned (OpenSpec.ofChange Rows.respPagesSpec) :=
  OpenClaim.holds_of_wide 10 Tryd.f10 rfl rfl rfl rfl rfl rfl rfl ⟨rfl, rfl, rfl, rfl, rfl⟩ rfl rfl rfl rfl rfl (by kernel_rfl) Tryd.func10 (by kernel_rfl)
    (of_decide_eq_true (by kernel_rfl)) (by unfold Func.isWrapper; rw [if_neg (of_decide_eq_false (by kernel_rfl))]; exact ⟨rfl, rfl⟩)
    (fun os started H enc _ => lifted os started H enc)
theorem said : Rows.RespPagesSaid := over
theorem card : Rows.RespPagesCardSaid :=
  Claim7.holds_tied_plain_at .later [] [.data, .data, .data, .data, .sentinel, .pinned] true (true, "79a6d220dc140684a9dab3eb2f9ce24deda1b71e26dfa61c675eb49a4432bf09") true said (fun _ h => by cases h) (by kernel_rfl) (fun _ h => by cases h) respPages_row_tie rfl ⟨rfl, rfl⟩ (by kernel_rfl) rfl
    (fun f fn hf hfn => by
      obtain rfl : f = 10 := Option.some.inj ((show Tryd.prog.funcNamed "wicketman/wicketmanlaw10.RespPages" = some 10 by kernel_rfl).symm.trans hf) |>.symm
      obtain rfl : fn = Tryd.f10 := (Option.some.inj (Tryd.func10.symm.trans hfn)).symm
      exact ⟨by kernel_rfl, fun j t ht => by
        rw [Tryd.params10] at ht
        have hm : t ∈ [3, 9, 34, 5] := by simpa using Array.mem_of_getElem? ht
        have hall : ([3, 9, 34, 5].all fun u => !Tryd.prog.wantsStandIn u) = true := by kernel_rfl
        exact (show Tryd.prog.wantsStandIn t = false by simpa using List.all_eq_true.1 hall t hm)⟩)
    (by kernel_rfl)
#print axioms card
end Go.Proofs.YtpfbemcoblganaaDoor.respPages
namespace Go.Proofs.YtpfbemcoblganaaDoor
/-- The card, under a short name, for the claim. -/
theorem respPages_card : Rows.RespPagesCardSaid := respPages.card
end Go.Proofs.YtpfbemcoblganaaDoor

