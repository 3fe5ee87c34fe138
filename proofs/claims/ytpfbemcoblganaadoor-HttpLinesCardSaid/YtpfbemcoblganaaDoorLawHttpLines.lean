/-
  HttpLines: for every choices and bytes behind the law returns true.
-/
import Derived.Test.YtpfbemcoblganaaDoorPl09p
import Derived.Test.YtpfbemcoblganaaDoorPl09q
import Derived.Test.YtpfbemcoblganaaDoorRow
import Derived.Test.YtpfbemcoblganaaDoorTie
import Derived.Test.YtpfbemcoblganaaDoorCards
import Derived.Test.YtpfbemcoblganaaDoorPall17
namespace Go.Proofs.YtpfbemcoblganaaDoor.httpLines
open Go.RowKit Go.Proofs.YtpfbemcoblganaaDoor.Pall Go.Proofs.YtpfbemcoblganaaDoor.Pl Go.Proofs.YtpfbemcoblganaaDoorW.PrintWords
set_option linter.unusedVariables false
set_option linter.unusedSimpArgs false
def lineP (n : Int) : List UInt8 := 108 :: pc08 n
theorem line_ok (n : Int) : lineOk (lineP n) = true := by
  have hall : tab08.all (fun x => plainL x.data.toList) = true := by decide +kernel
  have h : plainL (pc08 n) = true := by
    unfold pc08 rdOf
    rw [List.getD]
    cases e : tab08[(n % 18).toNat]? with
    | none => rfl
    | some x => exact List.all_eq_true.1 hall x (List.mem_of_getElem? e)
  unfold lineP lineOk
  have : plainL (108 :: pc08 n) = true := by unfold plainL at h ⊢; rw [List.all_cons, h]; rfl
  rw [this]; rfl
theorem lines_ok (l : List Int) : (l.map lineP).all lineOk = true := by
  rw [List.all_map]; exact List.all_eq_true.2 (fun x _ => line_ok x)
theorem same_loop (x5 : ByteArray) (l : List ByteArray) (n : Int) (hl : l.length ≤ 1000) (hn : n = wrap64 ((x5.size : Int) + 2)) : ∀ d i, l.length - i = d → i ≤ l.length →
    Ev (fun k => wicketmanlaw09_HttpLines.l1 k x5 l l n true false (i : Int)) true := by
  intro d
  induction d with
  | zero =>
    intro i hd hi
    refine Ev.step (f := fun _ => some true) (fun k => ?_) (Ev.now _)
    simp only [wicketmanlaw09_HttpLines.l1]
    rw [if_neg (by omega), known09_true]
    simp only [Option.bind_some, if_true, Bool.false_eq_true, if_false, hn, beq_self_eq_true]
  | succ d ih =>
    intro i hd hi
    refine Ev.step (fun k => ?_) (ih (i + 1) (by omega) (by omega))
    simp only [wicketmanlaw09_HttpLines.l1]
    rw [if_pos (by omega), if_pos (by omega), if_pos (by omega), if_pos trivial, wrap_id (by omega) (by omega)]; rfl
theorem ends (r : List Int) (ls : List (List UInt8)) (rest : List UInt8) (hr : rest.length ≤ 200) (h : ls.all lineOk = true) (hs : (joinL ls).length ≤ 100000) (hl : ls.length ≤ 1000) :
    Ev (fun k => wicketmanlaw09_HttpLines.j1 k (numsL rest) (mkB (joinL ls)) (ls.map mkB)) true := by
  have hz : (mkB (joinL ls)).size = (joinL ls).length := mkB_size _
  have hstr : strOfNums (numsL rest) = mkB rest := numsL_str rest
  have hcat : (mkB (joinL ls) ++ (⟨#[13, 10]⟩ : ByteArray)) ++ mkB rest = mkB (joinL ls ++ 13 :: 10 :: rest) := Pall.ba_ext (by simp [mkB])
  have hcz : (mkB (joinL ls ++ 13 :: 10 :: rest)).size = (joinL ls).length + 2 + rest.length := by rw [mkB_size, List.length_append, List.length_cons, List.length_cons]; omega
  have hbt : ∀ l : List UInt8, btsOf (mkB l) = numsL l := fun _ => rfl
  have h1 := httpLines_ev (numsL (joinL ls ++ 13 :: 10 :: rest)) (by rw [numsL_len, List.length_append, List.length_cons, List.length_cons]; omega)
  rw [numsL_str, mkB_list, linesS_join ls rest h, numsL_len] at h1
  have h2 := httpLines_ev (numsL (joinL ls)) (by rw [numsL_len]; omega)
  rw [numsL_str, mkB_list, linesS_noend ls h, numsL_len] at h2
  have hN : (((joinL ls ++ 13 :: 10 :: rest).length : Int) - (rest.length : Int)) = wrap64 (((mkB (joinL ls)).size : Int) + 2) := by
    rw [wrap_id (by omega) (by omega), hz, List.length_append, List.length_cons, List.length_cons]; omega
  refine Ev.step (f := fun k => (http_Lines.f k (numsL (joinL ls ++ 13 :: 10 :: rest))).bind fun bt454 => ((http_Lines.f k (numsL (joinL ls))).bind fun bt462 => (if (bt454.1.length : Int) = ((ls.map mkB).length : Int) then (wicketmanlaw09_HttpLines.l1 k (mkB (joinL ls)) (ls.map mkB) bt454.1 bt454.2.1 bt454.2.2 bt462.2.2 0) else (some false)))) (fun k => ?_) ?_
  · simp only [wicketmanlaw09_HttpLines.j1, hstr]
    rw [if_pos (by omega), if_pos (by rw [ByteArray.size_append, hz, mkB_size]; show _ + 2 + _ ≤ _; omega), hcat, if_pos (by omega)]
    simp only [if_pos (show (mkB (joinL ls)).size ≤ 140737488351232 by omega), hbt]
  · refine Ev.bind h1 ?_
    refine Ev.bind h2 ?_
    unfold lnR
    simp only [if_true, Bool.false_eq_true, if_false]
    exact same_loop _ _ _ (by rw [List.length_map]; exact hl) hN _ 0 rfl (by omega)
theorem build (c : List Int) (hc : ∀ x ∈ c, 0 ≤ x ∧ x ≤ 255) (rest : List UInt8) (hr : rest.length ≤ 200) (hlc : c.length ≤ 9223372036854775806) : ∀ d i, 10 - i = d → i ≤ 10 → i ≤ c.length →
    Ev (fun k => wicketmanlaw09_HttpLines.l0 k c (numsL rest) (mkB (joinL ((c.take i).map lineP))) (((c.take i).map lineP).map mkB) (i : Int)) true := by
  have hjl : ∀ l : List Int, (∀ x ∈ l, 0 ≤ x ∧ x ≤ 255) → (joinL (l.map lineP)).length ≤ 17 * l.length := by
    intro l
    induction l with
    | nil => intro _; exact Nat.le_refl _
    | cons a l ih =>
      intro h
      have h1 := pc08_len a (h a (by simp))
      have h2 := ih (fun x hx => h x (List.mem_cons_of_mem _ hx))
      unfold joinL at h2 ⊢
      rw [List.map_cons, List.flatMap_cons, List.length_append, List.length_append, List.length_cons]
      unfold lineP at h2 ⊢
      simp only [List.length_cons, List.length_nil]
      omega
  intro d
  induction d with
  | zero =>
    intro i hd hi hic
    have hj := hjl (c.take i) (fun x hx => hc x (List.mem_of_mem_take hx))
    rw [List.length_take] at hj
    refine Ev.step (fun k => ?_) (ends c ((c.take i).map lineP) rest hr (lines_ok _) (by omega) (by rw [List.length_map, List.length_take]; omega))
    simp only [wicketmanlaw09_HttpLines.l0]
    by_cases h : (i : Int) < (c.length : Int)
    · rw [if_pos h, if_neg (by omega)]
    · rw [if_neg h]
  | succ d ih =>
    intro i hd hi hic
    have hj := hjl (c.take i) (fun x hx => hc x (List.mem_of_mem_take hx))
    rw [List.length_take] at hj
    by_cases hlt : i < c.length
    · have hx := hc _ (getD_mem c 0 hlt)
      have htk : c.take (i + 1) = c.take i ++ [c.getD i 0] := by
        rw [List.take_succ_eq_append_getElem hlt, List.getD, List.getElem?_eq_getElem hlt]; rfl
      have hone : ((c.take (i + 1)).drop i) = [c.getD i 0] := by
        rw [htk, List.drop_left' (by rw [List.length_take]; omega)]
      have hp := pc08_len _ hx
      have hL := line_ev [c.getD i 0] (fun x h => by rw [List.mem_singleton] at h; rw [h]; exact hx) (by simp)
      have hLS : lineS [c.getD i 0] = mkB (pc08 (c.getD i 0)) := by
        unfold lineS
        show mkB (List.flatMap pc08 [c.getD i 0]) = _
        rw [List.flatMap_cons, List.flatMap_nil, List.append_nil]
      rw [hLS] at hL
      have hcat : (⟨#[108]⟩ : ByteArray) ++ mkB (pc08 (c.getD i 0)) = mkB (lineP (c.getD i 0)) := Pall.ba_ext (by simp [mkB, lineP])
      have hcat2 : (mkB (joinL ((c.take i).map lineP)) ++ mkB (lineP (c.getD i 0))) ++ (⟨#[13, 10]⟩ : ByteArray) = mkB (joinL ((c.take (i + 1)).map lineP)) := Pall.ba_ext (by
        rw [htk, List.map_append, joinL_app]; simp [mkB, joinL])
      have hmap : ((c.take i).map lineP).map mkB ++ [mkB (lineP (c.getD i 0))] = ((c.take (i + 1)).map lineP).map mkB := by
        rw [htk, List.map_append, List.map_append]; rfl
      have hz : (mkB (joinL ((c.take i).map lineP))).size ≤ 170 := by rw [mkB_size]; omega
      have hzl : (mkB (lineP (c.getD i 0))).size ≤ 15 := by rw [mkB_size]; show (pc08 _).length + 1 ≤ _; omega
      have hlen : (((c.take i).map lineP).map mkB).length ≤ 10 := by rw [List.length_map, List.length_map, List.length_take]; omega
      refine Ev.step (f := fun k => (wicketmanlaw08_Line.f k [c.getD i 0]).bind fun t447 => (if 1 + t447.size ≤ 9223372036854775807 then (if (((c.take i).map lineP).map mkB).length < 8796093022208 then (if (mkB (joinL ((c.take i).map lineP))).size + ((⟨#[108]⟩ : ByteArray) ++ t447).size ≤ 9223372036854775807 then (if (mkB (joinL ((c.take i).map lineP)) ++ ((⟨#[108]⟩ : ByteArray) ++ t447)).size + 2 ≤ 9223372036854775807 then (wicketmanlaw09_HttpLines.l0 k c (numsL rest) ((mkB (joinL ((c.take i).map lineP)) ++ ((⟨#[108]⟩ : ByteArray) ++ t447)) ++ (⟨#[13, 10]⟩ : ByteArray)) ((((c.take i).map lineP).map mkB) ++ [(⟨#[108]⟩ : ByteArray) ++ t447]) ((i + 1 : Nat) : Int)) else (none)) else (none)) else (none)) else (none))) (fun k => ?_) ?_
      · simp only [wicketmanlaw09_HttpLines.l0]
        rw [if_pos (by omega), if_pos (by omega), if_pos (by omega), wrap_id (by omega) (by omega), if_pos (by omega), if_pos (by omega), Int.toNat_natCast, show ((i : Int) + 1).toNat = i + 1 by omega, hone]
        rfl
      · refine Ev.bind hL ?_
        simp only [hcat, hcat2, hmap]
        rw [mkB_size] at hzl
        simp only [if_pos (show 1 + (mkB (pc08 (c.getD i 0))).size ≤ 9223372036854775807 by rw [mkB_size]; omega), if_pos (show (((c.take i).map lineP).map mkB).length < 8796093022208 by omega),
          if_pos (show (mkB (joinL ((c.take i).map lineP))).size + (mkB (lineP (c.getD i 0))).size ≤ 9223372036854775807 by rw [mkB_size (lineP _)]; omega),
          if_pos (show (mkB (joinL ((c.take i).map lineP)) ++ mkB (lineP (c.getD i 0))).size + 2 ≤ 9223372036854775807 by rw [ByteArray.size_append, mkB_size (lineP _)]; omega)]
        exact ih (i + 1) (by omega) (by omega) (by omega)
    · refine Ev.step (fun k => ?_) (ends c ((c.take i).map lineP) rest hr (lines_ok _) (by omega) (by rw [List.length_map, List.length_take]; omega))
      simp only [wicketmanlaw09_HttpLines.l0]
      rw [if_neg (by omega)]
theorem plain (c b : List Int) (hc : ∀ x ∈ c, 0 ≤ x ∧ x ≤ 255) (hb : ∀ x ∈ b, 0 ≤ x ∧ x ≤ 255) (hlc : c.length ≤ 9223372036854775806) : Ev (fun k => wicketmanlaw09_HttpLines.f k c b) true := by
  by_cases c1 : (b.length : Int) > 200
  · refine Ev.congr (f := fun _ => some true) (fun k => ?_) (Ev.now _)
    unfold wicketmanlaw09_HttpLines.f
    rw [if_pos c1, known09_true]; rfl
  obtain ⟨bs, rfl⟩ := nums_of b hb
  rw [numsL_len] at c1
  refine Ev.congr (fun k => ?_) (build c hc bs (by omega) hlc _ 0 rfl (by omega) (by omega))
  unfold wicketmanlaw09_HttpLines.f
  rw [numsL_len, if_neg c1]; rfl
theorem walk (A0 : Option Addr) (c0 : Nat) (l0 : List Int) {W : World} (hr0 : Kd.C (Kd.int .u8) W A0 l0.length l0) (hc0 : l0.length ≤ c0) (hw0 : ∀ x ∈ l0, (Lit.int .u8 x).wf = true) (y0 : l0.length ≤ 140737488351232)
    (A1 : Option Addr) (c1 : Nat) (l1 : List Int) (hr1 : Kd.C (Kd.int .u8) W A1 l1.length l1) (hc1 : l1.length ≤ c1) (hw1 : ∀ x ∈ l1, (Lit.int .u8 x).wf = true) (y1 : l1.length ≤ 140737488351232) (W' : World) (e : W' = W) (hS : Sh W) :
    Calls Tryd.prog 7 #[.slice A0 l0.length c0, .slice A1 l1.length c1] W fun e W' => e = .returned (.bool true) ∧ Below W.heap.size W W' := by
  obtain ⟨k, hk⟩ := (plain l0 l1 (u8s_of_wf hw0) (u8s_of_wf hw1) (by omega)).rounds
  exact wicketmanlaw09_HttpLines.calls k A0 c0 l0 A1 c1 l1 true W hr0 hc0 hr1 hc1 hS (Aside0.mk rfl) hk
end Go.Proofs.YtpfbemcoblganaaDoor.httpLines
namespace Go.Proofs.YtpfbemcoblganaaDoor.httpLines
open Go.ChangeShapes Go.WideShapes Go.ChangeAt Go.RowKit Go.Proofs.YtpfbemcoblganaaDoorW Go.Proofs.YtpfbemcoblganaaDoorW.PrintWords Go.Proofs.YtpfbemcoblganaaDoor.Pall
open Go.ChangeMaps (open_string shut_string)
set_option linter.unusedVariables false
theorem own : ownKnob Tryd.prog.godebug = none := by kernel_rfl
theorem laidOut : laidOutB Tryd.prog = true := by kernel_rfl
set_option maxRecDepth 100000 in
theorem lifted (os : Os) (started : os.Started) (H : Type) (enc : TypeId × Value → H) :
    ReturnsInHanded {} Tryd.checked os 7 .any (fun w args => (Rows.httpLinesSpec.pre enc Tryd.prog Tryd.f7 [] false w args ∧ laidMetH Tryd.prog Rows.httpLinesRow.laid w) ∧ sizedMet enc Tryd.prog Tryd.f7 (OpenSpec.ofChange Rows.httpLinesSpec) false w args)
      (Rows.httpLinesSpec.post enc Tryd.prog Tryd.f7 false true false false) := by
  refine law_lifted (C := Tryd.checked) (rt := 4) (L := Rows.httpLinesRow.laid) own started (by kernel_rfl) Tryd.func7 laidOut (by kernel_rfl) rfl rfl (by rfl) Tryd.underlying4 ?_ (ChangeSpec.witness_shaped (enc := enc) (C := Tryd.checked) (os := os) (X := fun w _ => laidMetH Tryd.prog Rows.httpLinesRow.laid w) false (World.laidAll Tryd.prog os Rows.httpLinesRow.laid) #[.slice none 0 0, .slice none 0 0] 8 (World.laidAll_os _ _ _)
    (World.shaped_of_ZipB (by kernel_rfl) (by kernel_rfl)) (by kernel_rfl) (by kernel_rfl) (by kernel_rfl) (by rw [MakeChecks.laidMetH_plain _ _ _ (by kernel_rfl)]; exact laidMet_laidAll _ (by kernel_rfl) (by kernel_rfl))) ?_
  · intro ds hds
    have hds : ds.length = 2 := hds
    match ds, hds with
    | [_, _], _ => rfl
  intro W base args ds ps hval0 hA0 hsz0 hL hsh
  have hS : Sh W := cell_of_shapedOpen_int' hsh
  have hval : ∀ (j : Nat) t v, Tryd.f7.params[j]? = some t → args[j]? = some v → Value.okWide Tryd.prog W .any base t v := hval0
  have hA : DataW.TrodAll enc Tryd.prog W 0 (fun _ => true) true Tryd.f7.params.toList args.toList ds ps := hA0
  have hsz : (DataW.weightsEach Tryd.prog Tryd.f7.params.toList ds).all (· ≤ reachBytes) = true := hsz0
  rw [Tryd.params7] at hA hval hsz
  obtain ⟨v0, vs0, d0, ds0, p0, q0, hargs, rfl, rfl, h0, r0⟩ := trodAll_cons hA
  obtain ⟨v1, vs1, d1, ds1, p1, q1, rfl, rfl, rfl, h1, r1⟩ := trodAll_cons r0
  obtain ⟨rfl, rfl, rfl⟩ := trodAll_nil r1
  obtain rfl : args = #[v0, v1] := by cases args; simp_all
  obtain ⟨A0, len0, cap0, rfl⟩ := okWide_slice Tryd.underlying22 (hval 0 22 v0 rfl rfl)
  obtain ⟨z0, w0⟩ := ints_row Tryd.underlying22 Tryd.underlying5 (by kernel_rfl) h0
  have y0 : len0 * 1 ≤ 140737488351232 := PrintWords.sized_ints hsz (j := 0) (t := 22) rfl rfl Tryd.underlying22 Tryd.underlying5 (by kernel_rfl) (by kernel_rfl) h0
  obtain ⟨l0, rfl, hr0, hm0, hw0, hc0⟩ := ReadsInt.ofRowC w0
  obtain ⟨A1, len1, cap1, rfl⟩ := okWide_slice Tryd.underlying22 (hval 1 22 v1 rfl rfl)
  obtain ⟨z1, w1⟩ := ints_row Tryd.underlying22 Tryd.underlying5 (by kernel_rfl) h1
  have y1 : len1 * 1 ≤ 140737488351232 := PrintWords.sized_ints hsz (j := 1) (t := 22) rfl rfl Tryd.underlying22 Tryd.underlying5 (by kernel_rfl) (by kernel_rfl) h1
  obtain ⟨l1, rfl, hr1, hm1, hw1, hc1⟩ := ReadsInt.ofRowC w1
  exact walk A0 cap0 l0 (Kd.C_of_reads (d := (0 : Int)) (h1 := fun _ => rfl) hr0) hc0 hw0 (by omega) A1 cap1 l1 (Kd.C_of_reads (d := (0 : Int)) (h1 := fun _ => rfl) hr1) hc1 hw1 (by omega) W rfl hS
theorem over : Rows.httpLinesRow.holds Tryd.pinned (OpenSpec.ofChange Rows.httpLinesSpec) :=
  OpenClaim.holds_of_wide 7 Tryd.f7 rfl rfl rfl rfl rfl rfl rfl ⟨rfl, rfl, rfl, rfl, rfl⟩ rfl rfl rfl rfl rfl (by kernel_rfl) Tryd.func7 (by kernel_rfl)
    (of_decide_eq_true (by kernel_rfl)) (by unfold Func.isWrapper; rw [if_neg (of_decide_eq_false (by kernel_rfl))]; exact ⟨rfl, rfl⟩)
    (fun os started H enc _ => lifted os started H enc)
theorem said : Rows.HttpLinesSaid := over
theorem card : Rows.HttpLinesCardSaid :=
  Claim7.holds_tied_plain_at .later [] [.data, .pinned] true (true, "79a6d220dc140684a9dab3eb2f9ce24deda1b71e26dfa61c675eb49a4432bf09") true said (fun _ h => by cases h) (by kernel_rfl) (fun _ h => by cases h) httpLines_row_tie rfl ⟨rfl, rfl⟩ (by kernel_rfl) rfl
    (fun f fn hf hfn => by
      obtain rfl : f = 7 := Option.some.inj ((show Tryd.prog.funcNamed "wicketman/wicketmanlaw09.HttpLines" = some 7 by kernel_rfl).symm.trans hf) |>.symm
      obtain rfl : fn = Tryd.f7 := (Option.some.inj (Tryd.func7.symm.trans hfn)).symm
      exact ⟨by kernel_rfl, fun j t ht => by
        rw [Tryd.params7] at ht
        have hm : t ∈ [22, 22] := by simpa using Array.mem_of_getElem? ht
        have hall : ([22, 22].all fun u => !Tryd.prog.wantsStandIn u) = true := by kernel_rfl
        exact (show Tryd.prog.wantsStandIn t = false by simpa using List.all_eq_true.1 hall t hm)⟩)
    (by kernel_rfl)
#print axioms card
end Go.Proofs.YtpfbemcoblganaaDoor.httpLines
namespace Go.Proofs.YtpfbemcoblganaaDoor
/-- The card, under a short name, for the claim. -/
theorem httpLines_card : Rows.HttpLinesCardSaid := httpLines.card
end Go.Proofs.YtpfbemcoblganaaDoor

