/-
  HeadBack: for every choices and numbers of blanks the law returns true.
-/
import Derived.Test.YtgajaaagpihlkaaDoorRowA
import Derived.Test.YtgajaaagpihlkaaDoorPl08
import Derived.Test.YtgajaaagpihlkaaDoorTie
import Derived.Test.YtgajaaagpihlkaaDoorCards
import Derived.Outline
namespace Go.Proofs.YtgajaaagpihlkaaDoor.headBack
open Go.RowKit Go.Proofs.YtgajaaagpihlkaaDoorW.PrintWords Go.Proofs.YtgajaaagpihlkaaDoor.Pall Go.Proofs.YtgajaaagpihlkaaDoor.Pl
set_option linter.unusedVariables false
set_option linter.unusedSimpArgs false

theorem trimL_front {b l : List UInt8} (h : b.all blk = true) : trimL (b ++ l) = trimL l := by
  induction b with
  | nil => rfl
  | cons a b ih =>
    simp only [List.all_cons, Bool.and_eq_true] at h
    rw [List.cons_append, trimL_cons h.1, ih h.2]
theorem trimL_back {l : List UInt8} : ∀ {b : List UInt8}, b.all blk = true → trimL (l ++ b) = trimL l := by
  intro b
  induction b generalizing l with
  | nil => intro _; rw [List.append_nil]
  | cons a b ih =>
    intro h
    simp only [List.all_cons, Bool.and_eq_true] at h
    rw [show l ++ a :: b = (l ++ [a]) ++ b by simp, ih h.2, trimL_snoc h.1]
/-- a name of letters, with X- ahead -/
def nameS (c : List Int) : ByteArray := ⟨#[88, 45]⟩ ++ wordS c
theorem nameS_list (c : List Int) : (nameS c).data.toList = 88 :: 45 :: (wordS c).data.toList := by simp [nameS]
theorem name_tok (c : List Int) : tokL (nameS c).data.toList = true := by
  rw [nameS_list]; unfold tokL
  rw [List.all_cons, List.all_cons, all_imp (wordS_letters c) letter_tok]; rfl
theorem name_pos (c : List Int) (r : List UInt8) : pos ((nameS c).data.toList ++ 58 :: r) 58 = (nameS c).data.toList.length := by
  refine pos_eq (by simp) (by simp) ?_
  intro j hj
  rw [List.getD, List.getElem?_append_left hj, List.getElem?_eq_getElem hj]
  have := List.all_eq_true.1 (show (nameS c).data.toList.all tokB = true by have := name_tok c; unfold tokL at this; simp only [Bool.and_eq_true] at this; exact this.1) _ (List.getElem_mem hj)
  intro h
  rw [Option.getD_some] at h
  rw [h] at this; revert this; decide
theorem nameS_size (c : List Int) : (nameS c).size ≤ 32 := by
  have := wordS_size c
  unfold nameS; rw [ByteArray.size_append]; show 2 + _ ≤ _; omega
theorem field_back (c d : List Int) (b1 b2 : List UInt8) (h1 : b1.all blk = true) (h2 : b2.all blk = true) (l1 : b1.length ≤ 10) (l2 : b2.length ≤ 10) (x : ByteArray)
    (hx : x.data.toList = (nameS c).data.toList ++ 58 :: (b1 ++ (wordS d).data.toList ++ b2)) : fieldS x = (nameS c, wordS d, 0) := by
  have hn := nameS_size c
  have hw := wordS_size d
  have hnl : (nameS c).data.toList.length = (nameS c).size := rfl
  have hwl : (wordS d).data.toList.length = (wordS d).size := rfl
  have hsz : x.size ≤ 100 := by
    have : x.size = x.data.toList.length := rfl
    rw [this, hx]; simp only [List.length_append, List.length_cons]; omega
  unfold fieldS
  rw [if_neg (by omega), hx, name_pos, if_neg (by simp)]
  have ht : List.take (nameS c).data.toList.length ((nameS c).data.toList ++ 58 :: (b1 ++ (wordS d).data.toList ++ b2)) = (nameS c).data.toList := List.take_left
  have hd : List.drop ((nameS c).data.toList.length + 1) ((nameS c).data.toList ++ 58 :: (b1 ++ (wordS d).data.toList ++ b2)) = b1 ++ (wordS d).data.toList ++ b2 := by
    rw [← List.drop_drop, List.drop_left]; rfl
  have hv := wordS_letters d
  have htr : trimL (b1 ++ (wordS d).data.toList ++ b2) = (wordS d).data.toList := by
    rw [trimL_back h2, trimL_front h1]
    exact trimL_same (fun a ha => letter_blk a (List.all_eq_true.1 hv a (List.mem_of_head? ha))) (last_letters hv)
  rw [ht, hd, htr, name_tok, valL_letters hv, if_pos (by decide)]
  rfl
theorem print_back (c d : List Int) : printS (nameS c) (wordS d) = (nameS c ++ ⟨#[58, 32]⟩ ++ wordS d, 0) := by
  have hn := nameS_size c
  have hw := wordS_size d
  exact printS_yes _ _ (name_tok c) (valL_letters (wordS_letters d)) (by omega)
/-- blanks, as they are laid -/
def bl (k : Nat) : List UInt8 := [9, 32, 9, 32].take k
def sp (k : Nat) : List UInt8 := [32, 32, 32, 32].take k
theorem bl_step : ∀ k, k < 4 → mkB (bl (k + 1)) = mkB (bl k) ++ (⟨#[9, 32]⟩ : ByteArray).extract (k % 2) (k % 2 + 1) := by
  intro k hk
  match k, hk with
  | 0, _ => decide
  | 1, _ => decide
  | 2, _ => decide
  | 3, _ => decide
theorem alt_slice (k : Nat) (W : World) : (Instr.slice 9 (.string ⟨#[9, 32]⟩) (some (.int .i64 ((k : Int) % 2))) (some (.int .i64 ((k : Int) % 2 + 1))) none).run Tryd.prog W = .ok (.string ((⟨#[9, 32]⟩ : ByteArray).extract (k % 2) (k % 2 + 1))) W := by
  rcases (by omega : k % 2 = 0 ∨ k % 2 = 1) with h | h
  · rw [show ((k : Int) % 2) = 0 by omega, h]; kernel_rfl
  · rw [show ((k : Int) % 2) = 1 by omega, h]; kernel_rfl
theorem sp_step : ∀ k, k < 4 → mkB (sp (k + 1)) = mkB (sp k) ++ (⟨#[32]⟩ : ByteArray) := by
  intro k hk
  match k, hk with
  | 0, _ => decide
  | 1, _ => decide
  | 2, _ => decide
  | 3, _ => decide
theorem bl_ok (k : Nat) : (bl k).all blk = true ∧ (bl k).length ≤ 10 := by
  refine ⟨List.all_eq_true.2 fun x hx => ?_, ?_⟩
  · exact List.all_eq_true.1 (show ([9, 32, 9, 32] : List UInt8).all blk = true by decide) x (List.mem_of_mem_take hx)
  · unfold bl; rw [List.length_take]; simp; omega
theorem bl_size (k : Nat) : (mkB (bl k)).size ≤ 10 := by rw [mkB_size]; exact (bl_ok k).2
theorem cell_old (W : World) (o : Obj) (p : Addr) (h : p.block < W.heap.size) : (W.alloc o).cell? p = W.cell? p :=
  (below_alloc (Below.refl W.heap.size W) o).cell h
theorem sp_ok (k : Nat) : (sp k).all blk = true ∧ (sp k).length ≤ 10 := by
  refine ⟨List.all_eq_true.2 fun x hx => ?_, ?_⟩
  · exact List.all_eq_true.1 (show ([32, 32, 32, 32] : List UInt8).all blk = true by decide) x (List.mem_of_mem_take hx)
  · unfold sp; rw [List.length_take]; simp; omega

theorem sp_size (k : Nat) : (mkB (sp k)).size ≤ 10 := by rw [mkB_size]; exact (sp_ok k).2
set_option maxRecDepth 100000 in
set_option maxHeartbeats 2000000 in
theorem core (A0 : Option Addr) (c0 : Nat) (l0 : List Int) {W : World} (hr0 : Kd.C (Kd.int .u8) W A0 l0.length l0) (hc0 : l0.length ≤ c0) (hw0 : ∀ x ∈ l0, (Lit.int .u8 x).wf = true) (y0 : l0.length ≤ 140737488351232)
    (A1 : Option Addr) (c1 : Nat) (l1 : List Int) (hr1 : Kd.C (Kd.int .u8) W A1 l1.length l1) (hc1 : l1.length ≤ c1) (hw1 : ∀ x ∈ l1, (Lit.int .u8 x).wf = true) (y1 : l1.length ≤ 140737488351232)
    (a b : UInt8) (hS : Sh W) :
    Calls Tryd.prog 9 #[.slice A0 l0.length c0, .slice A1 l1.length c1, .int .u8 a.toNat, .int .u8 b.toNat] W fun e W' => e = .returned (.bool true) ∧ Below W.heap.size W W' := by
  have HW0 := hid (u8s_of_wf hw0)
  have HW1 := hid (u8s_of_wf hw1)
  have HP := hid (print_back l0 l1)
  have HFB := hid (field_back l0 l1)
  have hn := nameS_size l0
  have hv := wordS_size l1
  have hsn : (wordS l0).size ≤ 30 := wordS_size l0
  have hu := Tryd.underlying31
  clear hw0 hw1
  go_enter Tryd.func9, Tryd.ntmps9
  go_wp2_with fail
  refine (word_any A0 c0 l0 _ hr0 hc0 HW0.out (by omega)).mono ?_
  rintro e w1 ⟨rfl, hb1⟩
  have hr1' := hid (Kd.C_below hr1 hb1)
  go_wp2_with fail
  refine (word_any A1 c1 l1 _ hr1'.out hc1 HW1.out (by omega)).mono ?_
  rintro e w2 ⟨rfl, hb2⟩
  have HB2 := hid (below_step hb1 hb2)
  clear hb1 hb2 hr1'
  go_wp2_with fail
  rw [show ((⟨#[88, 45]⟩ : ByteArray) ++ wordS l0) = nameS l0 from rfl]
  clear hsn
  generalize wordS l0 = n0
  generalize nameS l0 = n at *
  generalize wordS l1 = v at *
  refine (print_any n v _ (by omega) (by omega)).mono ?_
  rintro e w3 ⟨rfl, hb3⟩
  rw [HP.out]
  have HB3 := hid (below_step (by repeat (first | (with_reducible first | exact HB2.out | apply below_alloc | apply pw_below_drewN | apply below_drew1) | exact HB2.out)) hb3)
  have hp0 : w3.cell? ⟨w2.heap.size, 0, none⟩ = some (.string n) := (hb3.cell (p := ⟨w2.heap.size, 0, none⟩) (by simp)).trans (cell_new _ _ _ _)
  have hp1 : w3.cell? ⟨w2.heap.size, 1, none⟩ = some (.string v) := (hb3.cell (p := ⟨w2.heap.size, 1, none⟩) (by simp)).trans (cell_new _ _ _ _)
  have hz3 := hb3.size
  simp at hz3
  clear hb3
  go_wp2_with fail
  have ha : a.toNat ≤ 255 := by have := a.toNat_lt; omega
  have hbt : b.toNat ≤ 255 := by have := b.toNat_lt; omega
  have HBL := hid bl_size
  have HSP := hid sp_size
  go_loop [12, 13] (fun x i => ∃ k : Nat, k ≤ a.toNat % 5 ∧ i = .int .i64 k ∧ x = .string (n ++ ⟨#[58]⟩ ++ mkB (bl k))) (fun _ i => a.toNat % 5 - (RowKit.intOf i).toNat)
  case atStart => exact ⟨0, Nat.zero_le _, rfl, by rw [show mkB (bl 0) = ⟨#[]⟩ from rfl]; exact congrArg Value.string (ba_ext (by simp))⟩
  case round =>
    obtain ⟨k, hk, rfl, rfl⟩ := hrel
    have hbk := HBL.out k
    by_cases hlt : k < a.toNat % 5
    · have hsl := alt_slice k
      have hbs : (mkB (bl k) ++ (⟨#[9, 32]⟩ : ByteArray).extract (k % 2) (k % 2 + 1)).size ≤ 10 := by rw [← bl_step k (by omega)]; exact bl_size _
      have hes : ((⟨#[9, 32]⟩ : ByteArray).extract (k % 2) (k % 2 + 1)).size ≤ 10 := by rw [ByteArray.size_append] at hbs; omega
      have HSTEP := hid (bl_step k (by omega))
      clear hbs
      generalize (⟨#[9, 32]⟩ : ByteArray).extract (k % 2) (k % 2 + 1) = al at *
      go_wp2
      go_round
      case rel =>
        refine ⟨k + 1, by omega, by go_num, ?_⟩
        rw [HSTEP.out]
        exact congrArg Value.string (ba_ext (by simp))
      case measure => simp [RowKit.intOf]; omega
    · obtain rfl : k = a.toNat % 5 := by omega
      go_wp2_with fail
      go_loop [12, 14] (fun x i => ∃ k : Nat, k ≤ b.toNat % 5 ∧ i = .int .i64 k ∧ x = .string (n ++ ⟨#[58]⟩ ++ mkB (bl (a.toNat % 5)) ++ v ++ mkB (sp k))) (fun _ i => b.toNat % 5 - (RowKit.intOf i).toNat)
      case atStart => exact ⟨0, Nat.zero_le _, rfl, by rw [show mkB (sp 0) = ⟨#[]⟩ from rfl]; exact congrArg Value.string (ba_ext (by simp))⟩
      case round =>
        obtain ⟨k, hk, rfl, rfl⟩ := hrel
        have hsk := HSP.out k
        by_cases hlt2 : k < b.toNat % 5
        · go_wp2
          go_round
          case rel =>
            refine ⟨k + 1, by omega, by go_num, ?_⟩
            rw [sp_step k (by omega)]
            exact congrArg Value.string (ba_ext (by simp))
          case measure => simp [RowKit.intOf]; omega
        · obtain rfl : k = b.toNat % 5 := by omega
          go_wp2_with fail
          have f1 := HFB.out [32] [] (by decide) (by decide) (by decide) (by decide) (n ++ ⟨#[58, 32]⟩ ++ v) (by simp)
          refine (field_any _ _ (hS.of_below (by repeat (first | (with_reducible first | exact HB3.out | apply below_alloc | apply pw_below_drewN | apply below_drew1) | exact HB3.out)))).mono ?_
          rintro e w4 ⟨rfl, hb4⟩
          rw [f1]
          clear f1
          have HB4 := hid (HB3.out.trans (hb4.mono HB3.out.size))
          have hp0 := (hb4.cell (p := ⟨w2.heap.size, 0, none⟩) (by show w2.heap.size < _; omega)).trans hp0
          have hp1 := (hb4.cell (p := ⟨w2.heap.size, 1, none⟩) (by show w2.heap.size < _; omega)).trans hp1
          have hz4 := hb4.size
          clear hb4
          go_wp2_with fail
          have f2 := HFB.out (bl (a.toNat % 5)) (sp (b.toNat % 5)) (bl_ok _).1 (sp_ok _).1 (bl_ok _).2 (sp_ok _).2 (n ++ ⟨#[58]⟩ ++ mkB (bl (a.toNat % 5)) ++ v ++ mkB (sp (b.toNat % 5))) (by simp [mkB])
          refine (field_any _ _ (hS.of_below (by repeat (first | (with_reducible first | exact HB4.out | apply below_alloc | apply pw_below_drewN | apply below_drew1) | exact HB4.out)))).mono ?_
          rintro e w5 ⟨rfl, hb5⟩
          rw [f2]
          clear f2
          have HB5 := hid (below_step (by repeat (first | (with_reducible first | exact HB4.out | apply below_alloc | apply pw_below_drewN | apply below_drew1) | exact HB4.out)) hb5)
          have hq0 : w5.cell? ⟨w4.heap.size, 0, none⟩ = some (.string n) := (hb5.cell (p := ⟨w4.heap.size, 0, none⟩) (by simp)).trans (cell_new _ _ _ _)
          have hq1 : w5.cell? ⟨w4.heap.size, 1, none⟩ = some (.string v) := (hb5.cell (p := ⟨w4.heap.size, 1, none⟩) (by simp)).trans (cell_new _ _ _ _)
          have hp0 : w5.cell? ⟨w2.heap.size, 0, none⟩ = some (.string n) := (hb5.cell (p := ⟨w2.heap.size, 0, none⟩) (by simp; omega)).trans ((cell_old _ _ _ (by show w2.heap.size < _; omega)).trans hp0)
          have hp1 : w5.cell? ⟨w2.heap.size, 1, none⟩ = some (.string v) := (hb5.cell (p := ⟨w2.heap.size, 1, none⟩) (by simp; omega)).trans ((cell_old _ _ _ (by show w2.heap.size < _; omega)).trans hp1)
          have hz5 := hb5.size
          simp at hz5
          clear hb5
          go_wp2_with fail
          refine (known08_any _ (hS.of_below (by repeat (first | (with_reducible first | exact HB5.out | apply below_alloc | apply pw_below_drewN | apply below_drew1) | exact HB5.out)))).mono ?_
          rintro e w6 ⟨rfl, hb6⟩
          have HB6 := hid (below_step (by repeat (first | (with_reducible first | exact HB5.out | apply below_alloc | apply pw_below_drewN | apply below_drew1) | exact HB5.out)) hb6)
          have hr0 : w6.cell? ⟨w5.heap.size, 0, none⟩ = some (.string n) := (hb6.cell (p := ⟨w5.heap.size, 0, none⟩) (by simp)).trans (cell_new _ _ _ _)
          have hr1 : w6.cell? ⟨w5.heap.size, 1, none⟩ = some (.string v) := (hb6.cell (p := ⟨w5.heap.size, 1, none⟩) (by simp)).trans (cell_new _ _ _ _)
          have hq0 := (hb6.cell (p := ⟨w4.heap.size, 0, none⟩) (by simp; omega)).trans ((cell_old _ _ _ (by show w4.heap.size < _; omega)).trans hq0)
          have hq1 := (hb6.cell (p := ⟨w4.heap.size, 1, none⟩) (by simp; omega)).trans ((cell_old _ _ _ (by show w4.heap.size < _; omega)).trans hq1)
          have hp0 := (hb6.cell (p := ⟨w2.heap.size, 0, none⟩) (by simp; omega)).trans ((cell_old _ _ _ (by show w2.heap.size < _; omega)).trans hp0)
          have hp1 := (hb6.cell (p := ⟨w2.heap.size, 1, none⟩) (by simp; omega)).trans ((cell_old _ _ _ (by show w2.heap.size < _; omega)).trans hp1)
          clear hb6
          go_wp2
          go_ret
          exact ⟨rfl, HB6.out⟩
theorem walk (A0 : Option Addr) (c0 : Nat) (l0 : List Int) {W : World} (hr0 : Kd.C (Kd.int .u8) W A0 l0.length l0) (hc0 : l0.length ≤ c0) (hw0 : ∀ x ∈ l0, (Lit.int .u8 x).wf = true) (y0 : l0.length ≤ 140737488351232)
    (A1 : Option Addr) (c1 : Nat) (l1 : List Int) (hr1 : Kd.C (Kd.int .u8) W A1 l1.length l1) (hc1 : l1.length ≤ c1) (hw1 : ∀ x ∈ l1, (Lit.int .u8 x).wf = true) (y1 : l1.length ≤ 140737488351232)
    (a2 : Int) (w2 : (Lit.int .u8 a2).wf = true) (a3 : Int) (w3 : (Lit.int .u8 a3).wf = true) (W2 : World) (e : W2 = W) (hS : Sh W) :
    Calls Tryd.prog 9 #[.slice A0 l0.length c0, .slice A1 l1.length c1, .int .u8 a2, .int .u8 a3] W fun e W' => e = .returned (.bool true) ∧ Below W.heap.size W W' := by
  obtain ⟨a, rfl⟩ := u8_of_wf w2
  obtain ⟨b, rfl⟩ := u8_of_wf w3
  exact core A0 c0 l0 hr0 hc0 hw0 y0 A1 c1 l1 hr1 hc1 hw1 y1 a b hS
end Go.Proofs.YtgajaaagpihlkaaDoor.headBack
namespace Go.Proofs.YtgajaaagpihlkaaDoor.headBack
open Go.ChangeShapes Go.WideShapes Go.ChangeAt Go.RowKit Go.Proofs.YtgajaaagpihlkaaDoorW Go.Proofs.YtgajaaagpihlkaaDoorW.PrintWords Go.Proofs.YtgajaaagpihlkaaDoor.Pall
open Go.ChangeMaps (open_string shut_string)
set_option linter.unusedVariables false
theorem own : ownKnob Tryd.prog.godebug = none := by kernel_rfl
theorem laidOut : laidOutB Tryd.prog = true := by kernel_rfl
set_option maxRecDepth 100000 in
theorem lifted (os : Os) (started : os.Started) (H : Type) (enc : TypeId × Value → H) :
    ReturnsInHanded {} Tryd.checked os 9 .any (fun w args => (Rows.headBackSpec.pre enc Tryd.prog Tryd.f9 [] false w args ∧ laidMetH Tryd.prog Rows.headBackRow.laid w) ∧ sizedMet enc Tryd.prog Tryd.f9 (OpenSpec.ofChange Rows.headBackSpec) false w args)
      (Rows.headBackSpec.post enc Tryd.prog Tryd.f9 false true false false) := by
  refine law_lifted (C := Tryd.checked) (rt := 4) (L := Rows.headBackRow.laid) own started (by kernel_rfl) Tryd.func9 laidOut (by kernel_rfl) rfl rfl (by rfl) Tryd.underlying4 ?_ (ChangeSpec.witness_shaped (enc := enc) (C := Tryd.checked) (os := os) (X := fun w _ => laidMetH Tryd.prog Rows.headBackRow.laid w) false (World.laidAll Tryd.prog os Rows.headBackRow.laid) #[.slice none 0 0, .slice none 0 0, .int .u8 0, .int .u8 0] 8 (World.laidAll_os _ _ _)
    (World.shaped_of_ZipB (by kernel_rfl) (by kernel_rfl)) (by kernel_rfl) (by kernel_rfl) (by kernel_rfl) (by rw [MakeChecks.laidMetH_plain _ _ _ (by kernel_rfl)]; exact laidMet_laidAll _ (by kernel_rfl) (by kernel_rfl))) ?_
  · intro ds hds
    have hds : ds.length = 4 := hds
    match ds, hds with
    | [_, _, _, _], _ => rfl
  intro W base args ds ps hval0 hA0 hsz0 hL hsh
  have hS : Sh W := cell_of_shapedOpen_int' hsh
  have hval : ∀ (j : Nat) t v, Tryd.f9.params[j]? = some t → args[j]? = some v → Value.okWide Tryd.prog W .any base t v := hval0
  have hA : DataW.TrodAll enc Tryd.prog W 0 (fun _ => true) true Tryd.f9.params.toList args.toList ds ps := hA0
  have hsz : (DataW.weightsEach Tryd.prog Tryd.f9.params.toList ds).all (· ≤ reachBytes) = true := hsz0
  rw [Tryd.params9] at hA hval hsz
  obtain ⟨v0, vs0, d0, ds0, p0, q0, hargs, rfl, rfl, h0, r0⟩ := trodAll_cons hA
  obtain ⟨v1, vs1, d1, ds1, p1, q1, rfl, rfl, rfl, h1, r1⟩ := trodAll_cons r0
  obtain ⟨v2, vs2, d2, ds2, p2, q2, rfl, rfl, rfl, h2, r2⟩ := trodAll_cons r1
  obtain ⟨v3, vs3, d3, ds3, p3, q3, rfl, rfl, rfl, h3, r3⟩ := trodAll_cons r2
  obtain ⟨rfl, rfl, rfl⟩ := trodAll_nil r3
  obtain rfl : args = #[v0, v1, v2, v3] := by cases args; simp_all
  obtain ⟨A0, len0, cap0, rfl⟩ := okWide_slice Tryd.underlying22 (hval 0 22 v0 rfl rfl)
  obtain ⟨z0, w0⟩ := ints_row Tryd.underlying22 Tryd.underlying5 (by kernel_rfl) h0
  have y0 : len0 * 1 ≤ 140737488351232 := PrintWords.sized_ints hsz (j := 0) (t := 22) rfl rfl Tryd.underlying22 Tryd.underlying5 (by kernel_rfl) (by kernel_rfl) h0
  obtain ⟨l0, rfl, hr0, hm0, hw0, hc0⟩ := ReadsInt.ofRowC w0
  obtain ⟨A1, len1, cap1, rfl⟩ := okWide_slice Tryd.underlying22 (hval 1 22 v1 rfl rfl)
  obtain ⟨z1, w1⟩ := ints_row Tryd.underlying22 Tryd.underlying5 (by kernel_rfl) h1
  have y1 : len1 * 1 ≤ 140737488351232 := PrintWords.sized_ints hsz (j := 1) (t := 22) rfl rfl Tryd.underlying22 Tryd.underlying5 (by kernel_rfl) (by kernel_rfl) h1
  obtain ⟨l1, rfl, hr1, hm1, hw1, hc1⟩ := ReadsInt.ofRowC w1
  obtain ⟨a2, rfl, rfl, rfl, w2⟩ := open_int Tryd.underlying5 (hval 2 5 v2 rfl rfl) h2
  obtain ⟨a3, rfl, rfl, rfl, w3⟩ := open_int Tryd.underlying5 (hval 3 5 v3 rfl rfl) h3
  exact walk A0 cap0 l0 (Kd.C_of_reads (d := (0 : Int)) (h1 := fun _ => rfl) hr0) hc0 hw0 (by omega) A1 cap1 l1 (Kd.C_of_reads (d := (0 : Int)) (h1 := fun _ => rfl) hr1) hc1 hw1 (by omega) a2 w2 a3 w3 W rfl hS
theorem over : Rows.headBackRow.holds Tryd.pinned (OpenSpec.ofChange Rows.headBackSpec) :=
  OpenClaim.holds_of_wide 9 Tryd.f9 rfl rfl rfl rfl rfl rfl rfl ⟨rfl, rfl, rfl, rfl, rfl⟩ rfl rfl rfl rfl rfl (by kernel_rfl) Tryd.func9 (by kernel_rfl)
    (of_decide_eq_true (by kernel_rfl)) (by unfold Func.isWrapper; rw [if_neg (of_decide_eq_false (by kernel_rfl))]; exact ⟨rfl, rfl⟩)
    (fun os started H enc _ => lifted os started H enc)
theorem said : Rows.HeadBackSaid := over
theorem card : Rows.HeadBackCardSaid :=
  Claim7.holds_tied_plain_at .later [] [.data, .pinned] true (true, "354fb149afdaf3c4257d8e9b9bc27b1df5f32269821a08f6267663514def154d") false said (fun _ h => by cases h) (by kernel_rfl) (fun _ h => by cases h) headBack_row_tie rfl ⟨rfl, rfl⟩ (by kernel_rfl) rfl
    (fun f fn hf hfn => by
      obtain rfl : f = 9 := Option.some.inj ((show Tryd.prog.funcNamed "wicketman/wicketmanlaw08.HeadBack" = some 9 by kernel_rfl).symm.trans hf) |>.symm
      obtain rfl : fn = Tryd.f9 := (Option.some.inj (Tryd.func9.symm.trans hfn)).symm
      exact ⟨by kernel_rfl, fun j t ht => by
        rw [Tryd.params9] at ht
        have hm : t ∈ [22, 22, 5, 5] := by simpa using Array.mem_of_getElem? ht
        have hall : ([22, 22, 5, 5].all fun u => !Tryd.prog.wantsStandIn u) = true := by kernel_rfl
        exact (show Tryd.prog.wantsStandIn t = false by simpa using List.all_eq_true.1 hall t hm)⟩)
    (by kernel_rfl)
#print axioms card
end Go.Proofs.YtgajaaagpihlkaaDoor.headBack
namespace Go.Proofs.YtgajaaagpihlkaaDoor
/-- The card, under a short name, for the claim. -/
theorem headBack_card : Rows.HeadBackCardSaid := headBack.card
end Go.Proofs.YtgajaaagpihlkaaDoor

