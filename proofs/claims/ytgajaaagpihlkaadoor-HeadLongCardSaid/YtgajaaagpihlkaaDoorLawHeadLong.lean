/-
  HeadLong: for every number the law returns true.
-/
import Derived.Test.YtgajaaagpihlkaaDoorRowB
import Derived.Test.YtgajaaagpihlkaaDoorPl08
import Derived.Test.YtgajaaagpihlkaaDoorTie
import Derived.Test.YtgajaaagpihlkaaDoorCards
import Derived.Outline
namespace Go.Proofs.YtgajaaagpihlkaaDoor.headLong
open Go.RowKit Go.Proofs.YtgajaaagpihlkaaDoorW.PrintWords Go.Proofs.YtgajaaagpihlkaaDoor.Pall Go.Proofs.YtgajaaagpihlkaaDoor.Pl
set_option linter.unusedVariables false
set_option linter.unusedSimpArgs false
def longL (m : Nat) : List UInt8 := List.replicate m 97
def longS (m : Nat) : ByteArray := mkB (longL m)
theorem longS_size (m : Nat) : (longS m).size = m := by unfold longS longL; rw [mkB_size, List.length_replicate]
theorem longL_letters (m : Nat) : (longL m).all letter8 = true := by
  unfold longL; rw [List.all_eq_true]; intro x hx; rw [List.eq_of_mem_replicate hx]; decide
theorem long_step (m : Nat) : longS m ++ (⟨#[97, 97, 97, 97, 97, 97, 97, 97, 97, 97, 97, 97, 97, 97, 97, 97, 97, 97, 97, 97]⟩ : ByteArray) = longS (m + 20) := by
  apply ba_ext
  show (longS m ++ _).data.toList = longL (m + 20)
  simp only [ByteArray.data_append, Array.toList_append]
  show longL m ++ List.replicate 20 97 = longL (m + 20)
  unfold longL; rw [List.replicate_append_replicate]
theorem long_cut (m j : Nat) (h : j ≤ m) : (longS m).extract 0 j = longS j := by
  rw [ext_to]; unfold longS; rw [mkB_list]; congr 1; unfold longL; rw [List.take_replicate]; congr 1; omega
theorem field1 (m : Nat) : fieldS ((⟨#[97, 58]⟩ : ByteArray) ++ longS m) = if 2000 < m + 2 then none3 3 else (⟨#[97]⟩, longS m, 0) := by
  have e : ((⟨#[97, 58]⟩ : ByteArray) ++ longS m).data.toList = 97 :: 58 :: longL m := by simp [longS, mkB]
  have hsz : ((⟨#[97, 58]⟩ : ByteArray) ++ longS m).size = m + 2 := by rw [ByteArray.size_append, longS_size]; show 2 + m = _; omega
  unfold fieldS
  rw [hsz]
  by_cases h : 2000 < m + 2
  · rw [if_pos (by omega), if_pos h]
  · have hp : pos (97 :: 58 :: longL m) 58 = 1 := pos_eq (by simp) rfl (fun j hj => by
      obtain rfl : j = 0 := by omega
      show (97 : UInt8) ≠ 58; decide)
    rw [if_neg (by omega), if_neg h, e, hp, if_neg (by simp)]
    have ht : tokL (List.take 1 (97 :: 58 :: longL m)) = true := by show tokL [97] = true; decide
    have hd : List.drop (1 + 1) (97 :: 58 :: longL m) = longL m := rfl
    have hl := longL_letters m
    have htr : trimL (longL m) = longL m := trimL_same (fun x hx => letter_blk x (List.all_eq_true.1 hl x (List.mem_of_head? hx))) (last_letters hl)
    rw [ht, hd, htr, valL_letters hl, if_pos (by decide)]
    rfl
theorem field2 (m : Nat) : fieldS (longS m ++ (⟨#[97]⟩ : ByteArray)) = if 2000 < m + 1 then none3 3 else none3 12 := by
  have e : (longS m ++ (⟨#[97]⟩ : ByteArray)).data.toList = longL m ++ [97] := by simp [longS, mkB]
  have hsz : (longS m ++ (⟨#[97]⟩ : ByteArray)).size = m + 1 := by rw [ByteArray.size_append, longS_size]; rfl
  unfold fieldS
  rw [hsz]
  by_cases h : 2000 < m + 1
  · rw [if_pos (by omega), if_pos h]
  · have hp : pos (longL m ++ [97]) 58 = (longL m ++ [97]).length := pos_none (fun j hj => by
      have hm : (longL m ++ [97]).getD j 0 ∈ longL m ++ [97] := by rw [List.getD, List.getElem?_eq_getElem hj]; exact List.getElem_mem hj
      have : (longL m ++ [97]).getD j 0 = 97 := by
        rcases List.mem_append.1 hm with h | h
        · exact List.eq_of_mem_replicate h
        · exact List.mem_singleton.1 h
      rw [this]; decide)
    rw [if_neg (by omega), if_neg h, e, if_pos hp]
theorem print1 (m : Nat) : (printS (⟨#[97]⟩ : ByteArray) (longS m)).2 = if 2000 < m + 3 then 3 else 0 := by
  have ht : tokL (⟨#[97]⟩ : ByteArray).data.toList = true := by decide
  have hv : valL (longS m).data.toList = true := valL_letters (longL_letters m)
  have hsz := longS_size m
  have h1 : (⟨#[97]⟩ : ByteArray).size = 1 := rfl
  by_cases h : 2000 < m + 3
  · rw [printS_long _ _ ht hv (by omega), if_pos h]
  · rw [printS_yes _ _ ht hv (by omega), if_neg h]

set_option maxRecDepth 100000 in
set_option maxHeartbeats 2000000 in
theorem outs (m : Nat) : ∃ (pn pv : ByteArray) (e f g : Int), fieldS ((⟨#[97, 58]⟩ : ByteArray) ++ longS m) = (pn, pv, e) ∧ fieldS (longS m ++ (⟨#[97]⟩ : ByteArray)) = (⟨#[]⟩, ⟨#[]⟩, f) ∧ (printS (⟨#[97]⟩ : ByteArray) (longS m)).2 = g ∧
    ((m + 3 ≤ 2000 ∧ pv = longS m ∧ e = 0 ∧ f = 12 ∧ g = 0) ∨ (m + 3 = 2001 ∧ pv = longS m ∧ e = 0 ∧ f = 12 ∧ g = 3) ∨ (m + 3 = 2002 ∧ e = 3 ∧ f = 12 ∧ g = 3) ∨ (2002 < m + 3 ∧ e = 3 ∧ f = 3 ∧ g = 3)) := by
  have h1 := field1 m
  have h2 := field2 m
  have h3 := print1 m
  by_cases c1 : m + 3 ≤ 2000
  · rw [if_neg (by omega)] at h1 h2 h3
    exact ⟨_, _, _, _, _, h1, h2, h3, .inl ⟨c1, rfl, rfl, rfl, rfl⟩⟩
  by_cases c2 : m + 3 = 2001
  · rw [if_neg (by omega)] at h1 h2; rw [if_pos (by omega)] at h3
    exact ⟨_, _, _, _, _, h1, h2, h3, .inr (.inl ⟨c2, rfl, rfl, rfl, rfl⟩)⟩
  by_cases c3 : m + 3 = 2002
  · rw [if_pos (by omega)] at h1 h3; rw [if_neg (by omega)] at h2
    exact ⟨_, _, _, _, _, h1, h2, h3, .inr (.inr (.inl ⟨c3, rfl, rfl, rfl⟩))⟩
  · rw [if_pos (by omega)] at h1 h2 h3
    exact ⟨_, _, _, _, _, h1, h2, h3, .inr (.inr (.inr ⟨by omega, rfl, rfl, rfl⟩))⟩
theorem cell_old (W : World) (o : Obj) (p : Addr) (h : p.block < W.heap.size) : (W.alloc o).cell? p = W.cell? p :=
  (below_alloc (Below.refl W.heap.size W) o).cell h
set_option maxRecDepth 100000 in
set_option maxHeartbeats 2000000 in
theorem core (n : Int) (h0 : 0 ≤ n) (h1 : n ≤ 65535) {W : World} (hS : Sh W) :
    Calls Tryd.prog 10 #[.int .u16 n] W fun e W' => e = .returned (.bool true) ∧ Below W.heap.size W W' := by
  obtain ⟨n, rfl⟩ : ∃ m : Nat, n = m := ⟨n.toNat, by omega⟩
  have hu := Tryd.underlying31
  go_enter Tryd.func10, Tryd.ntmps10
  go_wp2_with fail
  go_loop [4] (fun x => ∃ j : Nat, j ≤ 105 ∧ x = .string (longS (20 * j))) (fun x => match x with | .string s => 2200 - s.size | _ => 0)
  case atStart => exact ⟨0, by omega, rfl⟩
  case round =>
    obtain ⟨j, hj, rfl⟩ := hrel
    have hz := longS_size (20 * j)
    have hst := long_step (20 * j)
    by_cases hlt : 20 * j < n % 2100
    · go_wp2
      go_roundw
      case rel => exact ⟨j + 1, by omega, rfl⟩
      case measure => simp only [longS_size]; omega
    · have hcut := long_cut (20 * j) (n % 2100) (by omega)
      have hm : n % 2100 < 2100 := Nat.mod_lt _ (by omega)
      obtain ⟨pn, pv, e1, e2, e3, hf1, hf2, hf3, hall⟩ := outs (n % 2100)
      have hsz := longS_size (n % 2100)
      have HALL := hid hall
      clear hall
      go_wp2_with fail
      refine (field_any _ _ hS).mono ?_
      rintro e w1 ⟨rfl, hb1⟩
      rw [hf1]
      clear hf1
      have HB1 := hid hb1
      clear hb1
      go_wp2_with fail
      refine (field_any _ _ (hS.of_below (by repeat (first | (with_reducible first | exact HB1.out | apply below_alloc | apply pw_below_drewN | apply below_drew1) | exact HB1.out)))).mono ?_
      rintro e w2 ⟨rfl, hb2⟩
      rw [hf2]
      clear hf2
      have HB2 := hid (below_step (by repeat (first | (with_reducible first | exact HB1.out | apply below_alloc | apply pw_below_drewN | apply below_drew1) | exact HB1.out)) hb2)
      have hp0 : w2.cell? ⟨w1.heap.size, 0, none⟩ = some (.string pn) := (hb2.cell (p := ⟨w1.heap.size, 0, none⟩) (by simp)).trans (cell_new _ _ _ _)
      have hp1 : w2.cell? ⟨w1.heap.size, 1, none⟩ = some (.string pv) := (hb2.cell (p := ⟨w1.heap.size, 1, none⟩) (by simp)).trans (cell_new _ _ _ _)
      have hz2 := hb2.size
      simp at hz2
      clear hb2
      go_wp2_with fail
      have hone : (⟨#[97]⟩ : ByteArray).size = 1 := rfl
      refine (print_any (⟨#[97]⟩ : ByteArray) (longS (n % 2100)) _ (by omega) (by omega)).mono ?_
      rintro e w3 ⟨rfl, hb3⟩
      rw [show printS (⟨#[97]⟩ : ByteArray) (longS (n % 2100)) = ((printS (⟨#[97]⟩ : ByteArray) (longS (n % 2100))).1, e3) from Prod.ext rfl hf3]
      generalize (printS (⟨#[97]⟩ : ByteArray) (longS (n % 2100))).1 = ps
      have HB3 := hid (below_step (by repeat (first | (with_reducible first | exact HB2.out | apply below_alloc | apply pw_below_drewN | apply below_drew1) | exact HB2.out)) hb3)
      have hp0 := (hb3.cell (p := ⟨w1.heap.size, 0, none⟩) (by simp; omega)).trans ((cell_old _ _ _ (by show w1.heap.size < _; omega)).trans hp0)
      have hp1 := (hb3.cell (p := ⟨w1.heap.size, 1, none⟩) (by simp; omega)).trans ((cell_old _ _ _ (by show w1.heap.size < _; omega)).trans hp1)
      have hz3 := hb3.size
      simp at hz3
      clear hb3 hf3
      go_wp2_with fail
      refine (known08_any _ (hS.of_below (by repeat (first | (with_reducible first | exact HB3.out | apply below_alloc | apply pw_below_drewN | apply below_drew1) | exact HB3.out)))).mono ?_
      rintro e w4 ⟨rfl, hb4⟩
      have HB4 := hid (below_step (by repeat (first | (with_reducible first | exact HB3.out | apply below_alloc | apply pw_below_drewN | apply below_drew1) | exact HB3.out)) hb4)
      have hp0 := (hb4.cell (p := ⟨w1.heap.size, 0, none⟩) (by simp; omega)).trans hp0
      have hp1 := (hb4.cell (p := ⟨w1.heap.size, 1, none⟩) (by simp; omega)).trans hp1
      clear hb4
      clear hst hcut hone hz hu
      generalize longS (n % 2100) = s at *
      generalize longS (20 * j) = s0 at *
      have hall := HALL.out
      clear HALL
      have hq : (n : Int) % 2100 = ((n % 2100 : Nat) : Int) := by omega
      generalize (n : Int) % 2100 = q at *
      generalize n % 2100 = m at *
      subst hq
      have HB4 := HB4
      by_cases hx1 : 1 + (m : Int) + 1 ≤ 2000 <;> by_cases hx2 : 1 + (m : Int) + 2 ≤ 2000 <;> by_cases hx3 : 1 + (m : Int) ≤ 2000 <;> by_cases hx4 : (2000 : Int) < 1 + (m : Int)
      all_goals first
        | (exfalso; omega)
        | (rcases hall with ⟨hm3, rfl, rfl, rfl, rfl⟩ | ⟨hm3, rfl, rfl, rfl, rfl⟩ | ⟨hm3, rfl, rfl, rfl⟩ | ⟨hm3, rfl, rfl, rfl⟩
           all_goals first
            | (exfalso; omega)
            | (repeat (first | go_values | go_skip | go_guarded | go_step | go_upon | go_back | rw [if_pos hx1] | rw [if_neg hx1] | rw [if_pos hx2] | rw [if_neg hx2] | rw [if_pos hx3] | rw [if_neg hx3] | rw [if_pos hx4] | rw [if_neg hx4] | (simp only [Int.not_lt, Int.not_le] at *; go_simp) | (split <;> (first | (rename_i hx; exact (hx _ rfl).elim) | go_prune)))
               go_ret
               exact ⟨by first | rfl | (show Ending.returned (Value.bool _) = _; simp [hx1, hx2, hx3, hx4]), HB4.out⟩))
theorem walk (a0 : Int) (w0 : (Lit.int .u16 a0).wf = true) {W : World} (W2 : World) (e : W2 = W) (hS : Sh W) :
    Calls Tryd.prog 10 #[.int .u16 a0] W fun e W' => e = .returned (.bool true) ∧ Below W.heap.size W W' := by
  simp [Lit.wf, IntKind.min, IntKind.max, IntKind.signed, IntKind.bits] at w0
  exact core a0 (by omega) (by omega) hS
end Go.Proofs.YtgajaaagpihlkaaDoor.headLong
namespace Go.Proofs.YtgajaaagpihlkaaDoor.headLong
open Go.ChangeShapes Go.WideShapes Go.ChangeAt Go.RowKit Go.Proofs.YtgajaaagpihlkaaDoorW Go.Proofs.YtgajaaagpihlkaaDoorW.PrintWords Go.Proofs.YtgajaaagpihlkaaDoor.Pall
open Go.ChangeMaps (open_string shut_string)
set_option linter.unusedVariables false
theorem own : ownKnob Tryd.prog.godebug = none := by kernel_rfl
theorem laidOut : laidOutB Tryd.prog = true := by kernel_rfl
set_option maxRecDepth 100000 in
theorem lifted (os : Os) (started : os.Started) (H : Type) (enc : TypeId × Value → H) :
    ReturnsInHanded {} Tryd.checked os 10 .any (fun w args => (Rows.headLongSpec.pre enc Tryd.prog Tryd.f10 [] false w args ∧ laidMetH Tryd.prog Rows.headLongRow.laid w) ∧ sizedMet enc Tryd.prog Tryd.f10 (OpenSpec.ofChange Rows.headLongSpec) false w args)
      (Rows.headLongSpec.post enc Tryd.prog Tryd.f10 false true false false) := by
  refine law_lifted (C := Tryd.checked) (rt := 4) (L := Rows.headLongRow.laid) own started (by kernel_rfl) Tryd.func10 laidOut (by kernel_rfl) rfl rfl (by rfl) Tryd.underlying4 ?_ (ChangeSpec.witness_shaped (enc := enc) (C := Tryd.checked) (os := os) (X := fun w _ => laidMetH Tryd.prog Rows.headLongRow.laid w) false (World.laidAll Tryd.prog os Rows.headLongRow.laid) #[.int .u16 0] 8 (World.laidAll_os _ _ _)
    (World.shaped_of_ZipB (by kernel_rfl) (by kernel_rfl)) (by kernel_rfl) (by kernel_rfl) (by kernel_rfl) (by rw [MakeChecks.laidMetH_plain _ _ _ (by kernel_rfl)]; exact laidMet_laidAll _ (by kernel_rfl) (by kernel_rfl))) ?_
  · intro ds hds
    have hds : ds.length = 1 := hds
    match ds, hds with
    | [_], _ => rfl
  intro W base args ds ps hval0 hA0 hsz0 hL hsh
  have hS : Sh W := cell_of_shapedOpen_int' hsh
  have hval : ∀ (j : Nat) t v, Tryd.f10.params[j]? = some t → args[j]? = some v → Value.okWide Tryd.prog W .any base t v := hval0
  have hA : DataW.TrodAll enc Tryd.prog W 0 (fun _ => true) true Tryd.f10.params.toList args.toList ds ps := hA0
  have hsz : (DataW.weightsEach Tryd.prog Tryd.f10.params.toList ds).all (· ≤ reachBytes) = true := hsz0
  rw [Tryd.params10] at hA hval hsz
  obtain ⟨v0, vs0, d0, ds0, p0, q0, hargs, rfl, rfl, h0, r0⟩ := trodAll_cons hA
  obtain ⟨rfl, rfl, rfl⟩ := trodAll_nil r0
  obtain rfl : args = #[v0] := by cases args; simp_all
  obtain ⟨a0, rfl, rfl, rfl, w0⟩ := open_int Tryd.underlying32 (hval 0 32 v0 rfl rfl) h0
  exact walk a0 w0 W rfl hS
theorem over : Rows.headLongRow.holds Tryd.pinned (OpenSpec.ofChange Rows.headLongSpec) :=
  OpenClaim.holds_of_wide 10 Tryd.f10 rfl rfl rfl rfl rfl rfl rfl ⟨rfl, rfl, rfl, rfl, rfl⟩ rfl rfl rfl rfl rfl (by kernel_rfl) Tryd.func10 (by kernel_rfl)
    (of_decide_eq_true (by kernel_rfl)) (by unfold Func.isWrapper; rw [if_neg (of_decide_eq_false (by kernel_rfl))]; exact ⟨rfl, rfl⟩)
    (fun os started H enc _ => lifted os started H enc)
theorem said : Rows.HeadLongSaid := over
theorem card : Rows.HeadLongCardSaid :=
  Claim7.holds_tied_plain_at .later [] [.data, .pinned] true (true, "354fb149afdaf3c4257d8e9b9bc27b1df5f32269821a08f6267663514def154d") false said (fun _ h => by cases h) (by kernel_rfl) (fun _ h => by cases h) headLong_row_tie rfl ⟨rfl, rfl⟩ (by kernel_rfl) rfl
    (fun f fn hf hfn => by
      obtain rfl : f = 10 := Option.some.inj ((show Tryd.prog.funcNamed "wicketman/wicketmanlaw08.HeadLong" = some 10 by kernel_rfl).symm.trans hf) |>.symm
      obtain rfl : fn = Tryd.f10 := (Option.some.inj (Tryd.func10.symm.trans hfn)).symm
      exact ⟨by kernel_rfl, fun j t ht => by
        rw [Tryd.params10] at ht
        have hm : t ∈ [32] := by simpa using Array.mem_of_getElem? ht
        have hall : ([32].all fun u => !Tryd.prog.wantsStandIn u) = true := by kernel_rfl
        exact (show Tryd.prog.wantsStandIn t = false by simpa using List.all_eq_true.1 hall t hm)⟩)
    (by kernel_rfl)
#print axioms card
end Go.Proofs.YtgajaaagpihlkaaDoor.headLong
namespace Go.Proofs.YtgajaaagpihlkaaDoor
/-- The card, under a short name, for the claim. -/
theorem headLong_card : Rows.HeadLongCardSaid := headLong.card
end Go.Proofs.YtgajaaagpihlkaaDoor

