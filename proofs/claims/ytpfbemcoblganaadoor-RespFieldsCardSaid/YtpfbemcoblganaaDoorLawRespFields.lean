/-
  RespFields: for every body and choices the law returns true.
-/
import Derived.Test.YtpfbemcoblganaaDoorPl10p
import Derived.Test.YtpfbemcoblganaaDoorRow
import Derived.Test.YtpfbemcoblganaaDoorTie
import Derived.Test.YtpfbemcoblganaaDoorCards
import Derived.Test.YtpfbemcoblganaaDoorPall24
namespace Go.Proofs.YtpfbemcoblganaaDoor.respFields
open Go.RowKit Go.Proofs.YtpfbemcoblganaaDoor.Pall Go.Proofs.YtpfbemcoblganaaDoor.Pl Go.Proofs.YtpfbemcoblganaaDoorW.PrintWords
set_option linter.unusedVariables false
set_option linter.unusedSimpArgs false
theorem str_of_bts (s : ByteArray) : strOfNums (btsOf s) = s := by
  refine ba_ext ?_
  rw [strOfNums_data]
  show List.map _ (List.map _ s.data.toList) = s.data.toList
  rw [List.map_map]
  exact (List.map_congr_left (fun a _ => by simp)).trans (List.map_id _)
theorem page_end (k : Nat) (x0 : ByteArray) (L : List S43) (h0 : x0.size ≤ 200) (hL : L.length ≤ 10) :
    ((resp_Page.f 200 x0 L).bind fun bt => ((wicketmanlaw10_known.f).bind fun t => (if t = true then (if (bt.2.1.length : Int) = (wrap64 (2 + (L.length : Int))) then (if 0 < (bt.2.1.length : Int) then (if ((rd_T43 bt.2.1 0).f0).toList = ([67, 111, 110, 116, 101, 110, 116, 45, 84, 121, 112, 101] : List UInt8) then (if 1 < (bt.2.1.length : Int) then (if ((rd_T43 bt.2.1 1).f1).toList = ([110, 111, 45, 115, 116, 111, 114, 101] : List UInt8) then (if 2 ≤ (bt.2.1.length : Int) then ((wicketmanref07_Same.f k (bt.2.1.drop 2) L).bind fun t => (if t = true then (if (strOfNums bt.2.2).toList = x0.toList then (some (bt.1 == 200)) else (some false)) else (some false))) else (none)) else (some false)) else (none)) else (some false)) else (none)) else (some false)) else (some false))))
    = (wicketmanref07_Same.f k L L).bind fun t => if t = true then some true else some false := by
  have e1 : ((two ++ L).length : Int) = wrap64 (2 + (L.length : Int)) := by
    rw [wrap_id (by omega) (by omega), List.length_append]; show ((2 + L.length : Nat) : Int) = _; omega
  have e2 : (2 : Int) ≤ ((two ++ L).length : Int) := by rw [List.length_append]; show (2 : Int) ≤ ((2 + L.length : Nat) : Int); omega
  rw [page_some _ _ _ (by omega) (by omega), Option.bind_some, wicketmanlaw10_known.told, Option.bind_some, if_pos rfl]
  simp only
  rw [if_pos e1, if_pos (by omega), if_pos (show ((rd_T43 (two ++ L) 0).f0).toList = _ by rw [ByteArray.toList_eq]; rfl), if_pos (by omega), if_pos (show ((rd_T43 (two ++ L) 1).f1).toList = _ by rw [ByteArray.toList_eq]; rfl), if_pos e2]
  rw [show (two ++ L).drop 2 = L from rfl, str_of_bts, if_pos rfl]
  rfl
theorem loop (x0 : ByteArray) (x1 : List Int) (h0 : x0.size ≤ 200) (h1 : x1.length ≤ 140737488351232) : ∀ d i (L : List S43), min x1.length 10 - i = d → i ≤ min x1.length 10 → L.length = i → Ev (fun k => wicketmanlaw10_RespFields.l0 k x0 x1 L (i : Int)) true := by
  intro d
  induction d with
  | zero =>
    intro i L hd hi hL
    refine Ev.step (f := fun k => (wicketmanref07_Same.f k L L).bind fun t => if t = true then some true else some false) (fun k => ?_) (Ev.bind (fs_same_true L (by omega)) (by rw [if_pos rfl]; exact Ev.now _))
    simp only [wicketmanlaw10_RespFields.l0]
    by_cases c1 : (i : Int) < (x1.length : Int)
    · rw [if_pos c1, if_neg (by omega)]
      exact page_end k x0 L h0 (by omega)
    · rw [if_neg c1]
      exact page_end k x0 L h0 (by omega)
  | succ d ih =>
    intro i L hd hi hL
    refine Ev.step (fun k => ?_) (ih (i + 1) (L ++ [⟨⟨#[88]⟩, strOfNums [(97 + (Int.tmod (rd x1 (i : Int)) 26)) % 256]⟩]) (by omega) (by omega) (by rw [List.length_append]; simp; omega))
    simp only [wicketmanlaw10_RespFields.l0]
    rw [if_pos (by omega), if_pos (by omega), if_pos (by omega), if_pos (by omega), wrap_id (by omega) (by omega)]
    rfl
theorem plain (a0 : ByteArray) (l1 : List Int) (h1 : l1.length ≤ 140737488351232) : Ev (fun k => wicketmanlaw10_RespFields.f k a0 l1) true := by
  by_cases c1 : (a0.size : Int) > 200
  · refine Ev.congr (f := fun _ => some true) (fun k => ?_) (Ev.now _)
    unfold wicketmanlaw10_RespFields.f
    rw [if_pos c1, wicketmanlaw10_known.told]; rfl
  · refine Ev.congr (f := fun k => wicketmanlaw10_RespFields.l0 k a0 l1 [] ((0 : Nat) : Int)) (fun k => ?_) (loop a0 l1 (by omega) h1 _ 0 [] rfl (by omega) rfl)
    unfold wicketmanlaw10_RespFields.f
    rw [if_neg c1]; rfl
theorem walk (a0 : ByteArray) (w0 : a0.size ≤ 140737488351232) (A1 : Option Addr) (c1 : Nat) (l1 : List Int) {W : World} (hr1 : Kd.C (Kd.int .u8) W A1 l1.length l1) (hc1 : l1.length ≤ c1) (hw1 : ∀ x ∈ l1, (Lit.int .u8 x).wf = true) (y1 : l1.length ≤ 140737488351232) (W' : World) (e : W' = W) (hS : Sh W) (hT : Tb W) :
    Calls Tryd.prog 11 #[.string a0, .slice A1 l1.length c1] W fun e W' => e = .returned (.bool true) ∧ Below W.heap.size W W' := by
  obtain ⟨k, hk⟩ := (plain a0 l1 y1).rounds
  exact wicketmanlaw10_RespFields.calls k a0 A1 c1 l1 true W hr1 hc1 hT (Aside0.mk rfl) hk
end Go.Proofs.YtpfbemcoblganaaDoor.respFields
namespace Go.Proofs.YtpfbemcoblganaaDoor.respFields
open Go.ChangeShapes Go.WideShapes Go.ChangeAt Go.RowKit Go.Proofs.YtpfbemcoblganaaDoorW Go.Proofs.YtpfbemcoblganaaDoorW.PrintWords Go.Proofs.YtpfbemcoblganaaDoor.Pall
open Go.ChangeMaps (open_string shut_string)
set_option linter.unusedVariables false
theorem own : ownKnob Tryd.prog.godebug = none := by kernel_rfl
theorem laidOut : laidOutB Tryd.prog = true := by kernel_rfl
set_option maxRecDepth 100000 in
theorem lifted (os : Os) (started : os.Started) (H : Type) (enc : TypeId × Value → H) :
    ReturnsInHanded {} Tryd.checked os 11 .any (fun w args => (Rows.respFieldsSpec.pre enc Tryd.prog Tryd.f11 [] false w args ∧ laidMetH Tryd.prog Rows.respFieldsRow.laid w) ∧ sizedMet enc Tryd.prog Tryd.f11 (OpenSpec.ofChange Rows.respFieldsSpec) false w args)
      (Rows.respFieldsSpec.post enc Tryd.prog Tryd.f11 false true false false) := by
  refine law_lifted (C := Tryd.checked) (rt := 4) (L := Rows.respFieldsRow.laid) own started (by kernel_rfl) Tryd.func11 laidOut (by kernel_rfl) rfl rfl (by rfl) Tryd.underlying4 ?_ (ChangeSpec.witness_shaped (enc := enc) (C := Tryd.checked) (os := os) (X := fun w _ => laidMetH Tryd.prog Rows.respFieldsRow.laid w) false (World.laidAll Tryd.prog os Rows.respFieldsRow.laid) #[.string ByteArray.empty, .slice none 0 0] 8 (World.laidAll_os _ _ _)
    (World.shaped_of_ZipB (by kernel_rfl) (by kernel_rfl)) (by kernel_rfl) (by kernel_rfl) (by kernel_rfl) (by rw [MakeChecks.laidMetH_plain _ _ _ (by kernel_rfl)]; exact laidMet_laidAll _ (by kernel_rfl) (by kernel_rfl))) ?_
  · intro ds hds
    have hds : ds.length = 2 := hds
    match ds, hds with
    | [_, _], _ => rfl
  intro W base args ds ps hval0 hA0 hsz0 hL hsh
  have hS : Sh W := cell_of_shapedOpen_int' hsh
  have hT : Tb W := tb_of hL (by kernel_rfl) 2 rfl
  have hval : ∀ (j : Nat) t v, Tryd.f11.params[j]? = some t → args[j]? = some v → Value.okWide Tryd.prog W .any base t v := hval0
  have hA : DataW.TrodAll enc Tryd.prog W 0 (fun _ => true) true Tryd.f11.params.toList args.toList ds ps := hA0
  have hsz : (DataW.weightsEach Tryd.prog Tryd.f11.params.toList ds).all (· ≤ reachBytes) = true := hsz0
  rw [Tryd.params11] at hA hval hsz
  obtain ⟨v0, vs0, d0, ds0, p0, q0, hargs, rfl, rfl, h0, r0⟩ := trodAll_cons hA
  obtain ⟨v1, vs1, d1, ds1, p1, q1, rfl, rfl, rfl, h1, r1⟩ := trodAll_cons r0
  obtain ⟨rfl, rfl, rfl⟩ := trodAll_nil r1
  obtain rfl : args = #[v0, v1] := by cases args; simp_all
  obtain ⟨a0, rfl, rfl, rfl, y0⟩ := open_string Tryd.underlying9 (hval 0 9 v0 rfl rfl) h0
  have w0 : a0.size ≤ 140737488351232 := by
    have z := sized_string hsz (j := 0) (t := 9) rfl rfl
    rw [Array.length_toList] at z
    exact z
  obtain ⟨A1, len1, cap1, rfl⟩ := okWide_slice Tryd.underlying22 (hval 1 22 v1 rfl rfl)
  obtain ⟨z1, w1⟩ := ints_row Tryd.underlying22 Tryd.underlying5 (by kernel_rfl) h1
  have y1 : len1 * 1 ≤ 140737488351232 := PrintWords.sized_ints hsz (j := 1) (t := 22) rfl rfl Tryd.underlying22 Tryd.underlying5 (by kernel_rfl) (by kernel_rfl) h1
  obtain ⟨l1, rfl, hr1, hm1, hw1, hc1⟩ := ReadsInt.ofRowC w1
  exact walk a0 w0 A1 cap1 l1 (Kd.C_of_reads (d := (0 : Int)) (h1 := fun _ => rfl) hr1) hc1 hw1 (by omega) W rfl hS hT
theorem over : Rows.respFieldsRow.holds Tryd.pinned (OpenSpec.ofChange Rows.respFieldsSpec) :=
  OpenClaim.holds_of_wide 11 Tryd.f11 rfl rfl rfl rfl rfl rfl rfl ⟨rfl, rfl, rfl, rfl, rfl⟩ rfl rfl rfl rfl rfl (by kernel_rfl) Tryd.func11 (by kernel_rfl)
    (of_decide_eq_true (by kernel_rfl)) (by unfold Func.isWrapper; rw [if_neg (of_decide_eq_false (by kernel_rfl))]; exact ⟨rfl, rfl⟩)
    (fun os started H enc _ => lifted os started H enc)
theorem said : Rows.RespFieldsSaid := over
theorem card : Rows.RespFieldsCardSaid :=
  Claim7.holds_tied_plain_at .later [] [.data, .data, .data, .data, .sentinel, .pinned] true (true, "79a6d220dc140684a9dab3eb2f9ce24deda1b71e26dfa61c675eb49a4432bf09") true said (fun _ h => by cases h) (by kernel_rfl) (fun _ h => by cases h) respFields_row_tie rfl ⟨rfl, rfl⟩ (by kernel_rfl) rfl
    (fun f fn hf hfn => by
      obtain rfl : f = 11 := Option.some.inj ((show Tryd.prog.funcNamed "wicketman/wicketmanlaw10.RespFields" = some 11 by kernel_rfl).symm.trans hf) |>.symm
      obtain rfl : fn = Tryd.f11 := (Option.some.inj (Tryd.func11.symm.trans hfn)).symm
      exact ⟨by kernel_rfl, fun j t ht => by
        rw [Tryd.params11] at ht
        have hm : t ∈ [9, 22] := by simpa using Array.mem_of_getElem? ht
        have hall : ([9, 22].all fun u => !Tryd.prog.wantsStandIn u) = true := by kernel_rfl
        exact (show Tryd.prog.wantsStandIn t = false by simpa using List.all_eq_true.1 hall t hm)⟩)
    (by kernel_rfl)
#print axioms card
end Go.Proofs.YtpfbemcoblganaaDoor.respFields
namespace Go.Proofs.YtpfbemcoblganaaDoor
/-- The card, under a short name, for the claim. -/
theorem respFields_card : Rows.RespFieldsCardSaid := respFields.card
end Go.Proofs.YtpfbemcoblganaaDoor

