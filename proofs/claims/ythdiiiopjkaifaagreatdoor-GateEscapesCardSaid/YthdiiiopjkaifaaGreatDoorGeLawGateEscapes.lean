/-
 GateEscapes: for every bytes and note the law returns true.
-/
import Derived.Test.YthdiiiopjkaifaaGreatDoorGeFactGateEscapes
import Derived.Test.YthdiiiopjkaifaaGreatDoorGeSt
import Derived.Test.YthdiiiopjkaifaaGreatDoorTie
import Derived.Test.YthdiiiopjkaifaaGreatDoorCards
import Derived.Test.YthdiiiopjkaifaaGreatDoorGePall18
namespace Go.Proofs.YthdiiiopjkaifaaGreatDoor.gateEscapes
open Go Go.RowKit Go.Proofs.YthdiiiopjkaifaaGreatDoor.Pall Go.Proofs.YthdiiiopjkaifaaGreatDoor.Pl Go.Proofs.YthdiiiopjkaifaaGreatDoorW.PrintWords
set_option linter.unusedVariables false
set_option linter.unusedSimpArgs false
def okB (c : UInt8) : Bool := c != 60 && c != 62 && c != 34 && c != 39
theorem ok_hex (x : Int) (h : 0 ≤ x ∧ x ≤ 255) : (hexP x).all okB = true := by
 have h0 := u8_all (fun c => (hexP (c.toNat : Int)).all okB) (by decide +kernel) (UInt8.ofNat x.toNat)
 rw [UInt8.toNat_ofNat'] at h0
 rw [show ((x.toNat % 2 ^ 8 : Nat) : Int) = x by omega] at h0
 exact h0
theorem ok_hexs (l : List Int) (hl : ∀ x ∈ l, 0 ≤ x ∧ x ≤ 255) : (l.flatMap hexP).all okB = true := by
 rw [List.all_flatMap, List.all_eq_true]
 exact fun x hx => ok_hex x (hl x hx)
theorem hexs_len (l : List Int) : (l.flatMap hexP).length = 2 * l.length := by
 induction l with
 | nil => rfl
 | cons a l ih => rw [List.flatMap_cons, List.length_append, ih, List.length_cons, show (hexP a).length = 2 from rfl]; omega
theorem ok_big (x : Int) (h0 : 128 ≤ x) (h1 : x ≤ 255) : okB (x.toNat.toUInt8) = true := by
 have h2 := u8_all (fun c => decide (c.toNat < 128) || okB c) (by decide +kernel) (x.toNat.toUInt8)
 rw [Bool.or_eq_true, decide_eq_true_eq] at h2
 rcases h2 with h2 | h2
 ·rw [show x.toNat.toUInt8 = UInt8.ofNat x.toNat from rfl, UInt8.toNat_ofNat'] at h2
  omega
 ·exact h2
theorem ok_one (x : Int) (h0 : 0 ≤ x) (h1 : x ≤ 127) (h : x ≠ 60 ∧ x ≠ 62 ∧ x ≠ 34 ∧ x ≠ 39) : okB (x.toNat.toUInt8) = true := by
 have e : (x.toNat.toUInt8).toNat = x.toNat := by rw [show x.toNat.toUInt8 = UInt8.ofNat x.toNat from rfl, UInt8.toNat_ofNat']; omega
 have hn : ∀ c : UInt8, x.toNat.toUInt8 = c → x = c.toNat := fun c hc => by rw [← hc, e]; omega
 unfold okB
 simp only [Bool.and_eq_true, bne_iff_ne, ne_eq]
 exact ⟨⟨⟨fun hc => h.1 (hn 60 hc), fun hc => h.2.1 (hn 62 hc)⟩, fun hc => h.2.2.1 (hn 34 hc)⟩, fun hc => h.2.2.2 (hn 39 hc)⟩
theorem ok_rune (r : Int) (h : r ≠ 60 ∧ r ≠ 62 ∧ r ≠ 34 ∧ r ≠ 39) : (Lib.encodeRune r).all okB = true := by
 unfold Lib.encodeRune
 rw [List.all_map]
 unfold Lib.encodeRuneZ
 split
 ·rename_i h1
  simp only [List.all_cons, List.all_nil, Function.comp, Bool.and_true]
  exact ok_one r h1.1 h1.2 h
 ·split
  ·simp only [List.all_cons, List.all_nil, Function.comp, Bool.and_true, Bool.and_eq_true]
   exact ⟨ok_big _ (by omega) (by omega), ok_big _ (by omega) (by omega)⟩
  ·split
   ·simp only [List.all_cons, List.all_nil, Function.comp, Bool.and_true, Bool.and_eq_true]
    exact ⟨ok_big _ (by omega) (by omega), ok_big _ (by omega) (by omega), ok_big _ (by omega) (by omega)⟩
   ·split
    ·simp only [List.all_cons, List.all_nil, Function.comp, Bool.and_true, Bool.and_eq_true]
     exact ⟨ok_big _ (by omega) (by omega), ok_big _ (by omega) (by omega), ok_big _ (by omega) (by omega), ok_big _ (by omega) (by omega)⟩
    ·decide
theorem ok_escOne (l : List UInt8) : (escOne l).all okB = true := by
 unfold escOne
 split
 ·decide
 split
 ·decide
 split
 ·decide
 split
 ·decide
 split
 ·decide
 split
 ·split
  ·exact ok_rune _ (by decide)
  ·decide
 ·exact ok_rune _ ⟨by omega, by omega, by omega, by omega⟩
theorem ok_escL : ∀ (n : Nat) (l : List UInt8), (escL n l).all okB = true
 | 0, _ => rfl
 | n + 1, l => by
  unfold escL
  split
  ·rfl
  ·rw [List.all_append, ok_escOne, ok_escL n]; rfl
theorem line_two (a b : ByteArray) : lineL [a, b] = a.data.toList ++ 32 :: (b.data.toList ++ [10]) := by
 unfold lineL lineS
 simp [Lib.join]
theorem line_ok (a b : ByteArray) (ha : a.data.toList.all okB = true) (hb : b.data.toList.all okB = true) : (lineL [a, b]).all okB = true := by
 rw [line_two, List.all_append, List.all_cons, List.all_append, ha, hb]; rfl
theorem line_len (a b : ByteArray) : (lineL [a, b]).length = a.size + b.size + 2 := by
 rw [line_two, List.length_append, List.length_cons, List.length_append]
 rw [show a.data.toList.length = a.size from rfl, show b.data.toList.length = b.size from rfl]; simp; omega
theorem nil_to (s : ByteArray) : s.toList = [] ↔ s.data.toList = [] := by rw [ByteArray.toList_eq]
/-- the page's body -/
theorem body (t note : ByteArray) (ht : t.data.toList.all okB = true) (hts : t.size ≤ 1000) (hns : note.size ≤ 200) : ∃ X, pgB 200 t ⟨#[117]⟩ note = [117, 115, 101, 114, 32, 117, 10] ++ X ∧ (([117, 115, 101, 114, 32, 117, 10] : List UInt8) ++ X).all okB = true ∧ (([117, 115, 101, 114, 32, 117, 10] : List UInt8) ++ X).getLastD 0 = 10 ∧ X.length ≤ 5000 ∧ (note.toList ≠ [] → ∃ Y, X = [110, 111, 116, 101, 32] ++ Y) := by
 have hu : pgU (⟨#[117]⟩ : ByteArray) = [117, 115, 101, 114, 32, 117, 10] := by
  unfold pgU
  rw [if_neg (by rw [nil_to]; decide)]
  rw [line_two]; rfl
 have hel := escL_len note.size note.data.toList
 have hlast : ∀ (A B : List UInt8), (A ++ 32 :: (B ++ [10])).getLastD 0 = 10 := fun A B => by
  rw [show A ++ 32 :: (B ++ [10]) = (A ++ 32 :: B) ++ [10] by simp, List.getLastD_eq_getLast?, List.getLast?_append]; rfl
 unfold pgB
 rw [hu, if_neg (by simp), List.append_assoc]
 refine ⟨pgN note ++ pgT t, rfl, ?_, ?_, ?_, ?_⟩
 ·rw [List.all_append, List.all_append]
  have h1 : (pgN note).all okB = true := by
   unfold pgN
   split
   ·rfl
   ·exact line_ok _ _ (by decide) (ok_escL _ _)
  have h2 : (pgT t).all okB = true := by
   unfold pgT
   split
   ·rfl
   ·exact line_ok _ _ (by decide) ht
  rw [h1, h2]; rfl
 ·unfold pgT
  split
  ·unfold pgN
   split
   ·rfl
   ·rw [line_two, List.append_nil, ← List.append_assoc]; exact hlast _ _
  ·rw [line_two, ← List.append_assoc, ← List.append_assoc]; exact hlast _ _
 ·have h1 : (pgN note).length ≤ 1100 := by
   unfold pgN
   split
   ·simp
   ·rw [line_len, show (escS note).size = (escL note.size note.data.toList).length from mkB_size _, show sNote.size = 4 from rfl]
    omega
  have h2 : (pgT t).length ≤ 1100 := by
   unfold pgT
   split
   ·simp
   ·rw [line_len, show sToken.size = 5 from rfl]
    omega
  rw [List.length_append]; omega
 ·intro hn
  unfold pgN
  rw [if_neg hn, line_two]
  exact ⟨((escS note).data.toList ++ [10]) ++ pgT t, by simp⟩
theorem ends (note : ByteArray) (X : List UInt8) (B : List UInt8) (hB : B = [117, 115, 101, 114, 32, 117, 10] ++ X) (hl : B.getLastD 0 = 10) (hX : X.length ≤ 5000) (hn : note.toList ≠ [] → ∃ Y, X = [110, 111, 116, 101, 32] ++ Y) (hok : B.all okB = true) :
  ∀ d i, B.length - i = d → i ≤ B.length → Ev (fun k => wicketmanlaw19_GateEscapes.l0 k note (mkB B) (i : Int)) true := by
 have hlen : B.length = 7 + X.length := by rw [hB]; simp; omega
 intro d
 induction d with
 | zero =>
  intro i hd hi
  refine Ev.step (f := fun _ => some true) (fun k => ?_) (Ev.now _)
  simp only [wicketmanlaw19_GateEscapes.l0]
  rw [mkB_size, if_neg (by omega), show wicketmanlaw19_known.f = some true from rfl, Option.bind_some, if_pos rfl, wrap_id (by omega) (by omega), if_pos (by omega), if_pos (by omega)]
  have hb : bt (mkB B) ((B.length : Int) - 1) = 10 := by
   rw [show ((B.length : Int) - 1) = ((B.length - 1 : Nat) : Int) by omega, bt_nat _ _ (by rw [mkB_size]; omega), mkB_list]
   rw [List.getLastD_eq_getLast?, List.getLast?_eq_getElem?] at hl
   rw [List.getD, hl]; rfl
  rw [if_pos hb]
  by_cases hnn : note.toList = []
  ·rw [if_pos hnn]
  ·rw [if_neg hnn]
   obtain ⟨Y, hY⟩ := hn hnn
   have h5 : 5 ≤ X.length := by rw [hY]; simp
   rw [if_pos (by decide), if_pos (by omega)]
   have e : ((mkB B).extract 7 12).toList = [110, 111, 116, 101, 32] := by
    rw [ByteArray.toList_eq, Lib.extract_data, mkB_list, hB, hY]
    simp
   rw [e]; rfl
 | succ d ih =>
  intro i hd hi
  have hlt : i < B.length := by omega
  refine Ev.step (fun k => ?_) (ih (i + 1) (by omega) (by omega))
  simp only [wicketmanlaw19_GateEscapes.l0]
  have hc := List.all_eq_true.1 hok _ (getD_mem0 B 0 hlt)
  unfold okB at hc
  simp only [Bool.and_eq_true, bne_iff_ne, ne_eq] at hc
  have hne : ∀ c : UInt8, ¬ B.getD i 0 = c → ¬ (((B.getD i 0).toNat : Nat) : Int) = (c.toNat : Int) := fun c h1 h2 => h1 (UInt8.toNat_inj.1 (by omega))
  rw [mkB_size, if_pos (by omega), if_pos (by omega), bt_nat _ _ (by rw [mkB_size]; omega), mkB_list, if_neg (show ¬ (((B.getD i 0).toNat : Nat) : Int) = 60 from hne 60 hc.1.1.1), if_neg (show ¬ (((B.getD i 0).toNat : Nat) : Int) = 62 from hne 62 hc.1.1.2), if_neg (show ¬ (((B.getD i 0).toNat : Nat) : Int) = 34 from hne 34 hc.1.2), if_neg (show ¬ (((B.getD i 0).toNat : Nat) : Int) = 39 from hne 39 hc.2), wrap_id (by omega) (by omega)]
  rfl
theorem plain (c : List Int) (note : ByteArray) (hc : ∀ x ∈ c, 0 ≤ x ∧ x ≤ 255) (hl : c.length ≤ 9223372036854775806) : Ev (fun k => wicketmanlaw19_GateEscapes.f k c note) true := by
 by_cases c1 : (note.size : Int) > 200
 ·refine Ev.congr (f := fun _ => some true) (fun k => ?_) (Ev.now _)
  unfold wicketmanlaw19_GateEscapes.f
  rw [if_pos c1]; rfl
 have hmn : mn (c.length : Int) 32 = ((min c.length 32 : Nat) : Int) := by unfold mn; split <;> omega
 have hT := hexT (c.take (min c.length 32)) (fun x hx => hc x (List.mem_of_mem_take hx)) (by rw [List.length_take]; omega)
 have hokT := ok_hexs (c.take (min c.length 32)) (fun x hx => hc x (List.mem_of_mem_take hx))
 have hlT := hexs_len (c.take (min c.length 32))
 rw [List.length_take] at hlT
 generalize (c.take (min c.length 32)).flatMap hexP = tl at hT hokT hlT
 obtain ⟨X, hX, hok, hlast, hXl, hn⟩ := body (mkB tl) note hokT (by rw [mkB_size]; omega) (by omega)
 refine Ev.congr (f := fun k => (wicketmanref05_Text.f k (c.take (min c.length 32))).bind fun t359 => ((gate_Page.f 0 5 0 0 ([] : List Int) 200 (⟨#[]⟩ : ByteArray) false t359 (⟨#[117]⟩ : ByteArray) note).bind fun bt360 => (if ((strOfNums bt360.2.2).size : Int) < 7 then (wicketmanlaw19_GateEscapes.j0 k note (strOfNums bt360.2.2) true) else (if 0 ≤ 7 then (if 7 ≤ ((strOfNums bt360.2.2).size : Int) then (wicketmanlaw19_GateEscapes.j0 k note (strOfNums bt360.2.2) (((strOfNums bt360.2.2).extract 0 7).toList != ([117, 115, 101, 114, 32, 117, 10] : List UInt8))) else (none)) else (none))))) (fun k => ?_) (Ev.bind hT ?_)
 ·unfold wicketmanlaw19_GateEscapes.f
  rw [if_neg c1, hmn, if_pos (by omega), if_pos (by omega), Int.toNat_natCast]
 ·have hpg : ∃ l2, gate_Page.f 0 5 0 0 ([] : List Int) 200 (⟨#[]⟩ : ByteArray) false (mkB tl) (⟨#[117]⟩ : ByteArray) note = some (200, l2, btsOf (mkB ([117, 115, 101, 114, 32, 117, 10] ++ X))) := by
   unfold gate_Page.f
   rw [if_pos ⟨by rw [mkB_size]; omega, by decide, by omega⟩]
   have hpf : pgF 5 (⟨#[]⟩ : ByteArray) false = some [] := by unfold pgF; rw [if_pos (by rw [nil_to])]; rfl
   rw [hpf, Option.bind_some, hX]
   unfold resp_Page.f
   have hsz : (⟨([117, 115, 101, 114, 32, 117, 10] ++ X).toArray⟩ : ByteArray).size ≤ 140737488351232 := by
    show (mkB ([117, 115, 101, 114, 32, 117, 10] ++ X)).size ≤ _
    rw [mkB_size]; simp; omega
   rw [Option.bind_some, if_pos (by simp), if_pos hsz]
   exact ⟨_, rfl⟩
  obtain ⟨l2, hpg⟩ := hpg
  have hs : strOfNums (btsOf (mkB ([117, 115, 101, 114, 32, 117, 10] ++ X))) = mkB ([117, 115, 101, 114, 32, 117, 10] ++ X) := by
   rw [show btsOf (mkB ([117, 115, 101, 114, 32, 117, 10] ++ X)) = numsL ([117, 115, 101, 114, 32, 117, 10] ++ X) from rfl, numsL_str]
  have h7 : ¬ (((mkB ([117, 115, 101, 114, 32, 117, 10] ++ X)).size : Int) < 7) := by rw [mkB_size]; simp; omega
  have he : ((mkB ([117, 115, 101, 114, 32, 117, 10] ++ X)).extract 0 7).toList = [117, 115, 101, 114, 32, 117, 10] := by
   rw [ByteArray.toList_eq, Lib.extract_data, mkB_list]; simp
  refine Ev.congr (f := fun k => wicketmanlaw19_GateEscapes.j0 k note (mkB ([117, 115, 101, 114, 32, 117, 10] ++ X)) false) (fun k => ?_) ?_
  ·rw [hpg, Option.bind_some]
   simp only [hs]
   rw [if_neg h7, if_pos (by decide), if_pos (by omega), he]; rfl
  ·refine Ev.step (fun k => ?_) (ends note X _ rfl hlast hXl hn hok _ 0 rfl (Nat.zero_le _))
   simp only [wicketmanlaw19_GateEscapes.j0]
   rfl
theorem walk (A0 : Option Addr) (c0 : Nat) (l0 : List Int) {W : World} (hr0 : Kd.C (Kd.int .u8) W A0 l0.length l0) (hc0 : l0.length ≤ c0) (hw0 : ∀ x ∈ l0, (Lit.int .u8 x).wf = true) (y0 : l0.length ≤ 140737488351232)
  (a1 : ByteArray) (y1 : a1.size ≤ 140737488351232) (W' : World) (e : W' = W) (hS : Sh W) (hT : Tb W) :
  Calls Tryz.prog 10 #[.slice A0 l0.length c0, .string a1] W fun e W' => e = .returned (.bool true) ∧ Below W.heap.size W W' := by
 obtain ⟨k, hk⟩ := (plain l0 a1 (u8s_of_wf hw0) (by omega)).rounds
 exact wicketmanlaw19_GateEscapes.calls k A0 c0 l0 a1 true W hr0 hc0 hS hT (Aside0.mk rfl) hk
end Go.Proofs.YthdiiiopjkaifaaGreatDoor.gateEscapes
namespace Go.Proofs.YthdiiiopjkaifaaGreatDoor.gateEscapes
open Go.ChangeShapes Go.WideShapes Go.ChangeAt Go.RowKit Go.Proofs.YthdiiiopjkaifaaGreatDoorW Go.Proofs.YthdiiiopjkaifaaGreatDoorW.PrintWords Go.Proofs.YthdiiiopjkaifaaGreatDoor.Pall
open Go.ChangeMaps (open_string shut_string)
set_option linter.unusedVariables false
theorem own : ownKnob Tryz.prog.godebug = none := by kernel_rfl
theorem laidOut : laidOutB Tryz.prog = true := f_laid
set_option maxRecDepth 100000 in
theorem lifted (os : Os) (started : os.Started) (H : Type) (enc : TypeId × Value → H) :
  ReturnsInHanded {} Tryz.checked os 10 .any (fun w args => (Rows.gateEscapesSpec.pre enc Tryz.prog Tryz.f10 [] false w args ∧ laidMetH Tryz.prog Rows.gateEscapesRow.laid w) ∧ sizedMet enc Tryz.prog Tryz.f10 (OpenSpec.ofChange Rows.gateEscapesSpec) false w args)
   (Rows.gateEscapesSpec.post enc Tryz.prog Tryz.f10 false true false false) := by
 refine law_lifted (C := Tryz.checked) (rt := 4) (L := Rows.gateEscapesRow.laid) own started (by kernel_rfl) Tryz.func10 laidOut (by kernel_rfl) rfl rfl (by rfl) Tryz.underlying4 ?_ (ChangeSpec.witness_shaped (enc := enc) (C := Tryz.checked) (os := os) (X := fun w _ => laidMetH Tryz.prog Rows.gateEscapesRow.laid w) false (World.laidAll Tryz.prog os Rows.gateEscapesRow.laid) #[.slice none 0 0, .string ByteArray.empty] 8 (World.laidAll_os _ _ _)
  (World.shaped_of_ZipB (by kernel_rfl) (by kernel_rfl)) (by kernel_rfl) (by kernel_rfl) (by kernel_rfl) (by rw [MakeChecks.laidMetH_plain _ _ _ (by kernel_rfl)]; exact laidMet_laidAll _ (by kernel_rfl) (by kernel_rfl))) ?_
 ·intro ds hds
  have hds : ds.length = 2 := hds
  match ds, hds with
  | [_, _], _ => rfl
 intro W base args ds ps hval0 hA0 hsz0 hL hsh
 have hS : Sh W := cell_of_shapedOpen_int' hsh
 have hT : Tb W := tb_of hL (by kernel_rfl) 2 rfl
 have hval : ∀ (j : Nat) t v, Tryz.f10.params[j]? = some t → args[j]? = some v → Value.okWide Tryz.prog W .any base t v := hval0
 have hA : DataW.TrodAll enc Tryz.prog W 0 (fun _ => true) true Tryz.f10.params.toList args.toList ds ps := hA0
 have hsz : (DataW.weightsEach Tryz.prog Tryz.f10.params.toList ds).all (· ≤ reachBytes) = true := hsz0
 rw [Tryz.params10] at hA hval hsz
 obtain ⟨v0, vs0, d0, ds0, p0, q0, hargs, rfl, rfl, h0, r0⟩ := trodAll_cons hA
 obtain ⟨v1, vs1, d1, ds1, p1, q1, rfl, rfl, rfl, h1, r1⟩ := trodAll_cons r0
 obtain ⟨rfl, rfl, rfl⟩ := trodAll_nil r1
 obtain rfl : args = #[v0, v1] := by cases args; simp_all
 obtain ⟨A0, len0, cap0, rfl⟩ := okWide_slice Tryz.underlying23 (hval 0 23 v0 rfl rfl)
 obtain ⟨z0, w0⟩ := ints_row Tryz.underlying23 Tryz.underlying5 (by kernel_rfl) h0
 have y0 : len0 * 1 ≤ 140737488351232 := PrintWords.sized_ints hsz (j := 0) (t := 23) rfl rfl Tryz.underlying23 Tryz.underlying5 (by kernel_rfl) (by kernel_rfl) h0
 obtain ⟨l0, rfl, hr0, hm0, hw0, hc0⟩ := ReadsInt.ofRowC w0
 obtain ⟨a1, rfl, rfl, rfl, y1⟩ := open_string Tryz.underlying9 (hval 1 9 v1 rfl rfl) h1
 have w1 : a1.size ≤ 140737488351232 := by
  have z := sized_string hsz (j := 1) (t := 9) rfl rfl
  rw [Array.length_toList] at z
  exact z
 exact walk A0 cap0 l0 (Kd.C_of_reads (d := (0 : Int)) (h1 := fun _ => rfl) hr0) hc0 hw0 (by omega) a1 w1 W rfl hS hT
theorem over : Rows.gateEscapesRow.holds Tryz.pinned (OpenSpec.ofChange Rows.gateEscapesSpec) :=
 OpenClaim.holds_of_wide 10 Tryz.f10 rfl rfl rfl rfl rfl rfl rfl ⟨rfl, rfl, rfl, rfl, rfl⟩ rfl rfl rfl rfl rfl (by kernel_rfl) Tryz.func10 f_closed
  (of_decide_eq_true (by kernel_rfl)) (by unfold Func.isWrapper; rw [if_neg (of_decide_eq_false (by kernel_rfl))]; exact ⟨rfl, rfl⟩)
  (fun os started H enc _ => lifted os started H enc)
theorem said : Rows.GateEscapesSaid := over
theorem card : Rows.GateEscapesCardSaid :=
 Claim7.holds_tied_plain_at .later [] [.data, .data, .data, .data, .sentinel, .data, .pinned] true (true, "cbaf399387bbab5b2aa857cf5a388fc448ee37b6fc6eda4b010d0fadef5744a6") true said (fun _ h => by cases h) f_wf (fun _ h => by cases h) gateEscapes_row_tie rfl ⟨rfl, rfl⟩ (by kernel_rfl) rfl
  (fun f fn hf hfn => by
   obtain rfl : f = 10 := Option.some.inj ((show Tryz.prog.funcNamed "wicketman/wicketmanlaw19.GateEscapes" = some 10 by kernel_rfl).symm.trans hf) |>.symm
   obtain rfl : fn = Tryz.f10 := (Option.some.inj (Tryz.func10.symm.trans hfn)).symm
   exact ⟨f_looks, fun j t ht => by
    rw [Tryz.params10] at ht
    have hm : t ∈ [23, 9] := by simpa using Array.mem_of_getElem? ht
    have hall : ([23, 9].all fun u => !Tryz.prog.wantsStandIn u) = true := by kernel_rfl
    exact (show Tryz.prog.wantsStandIn t = false by simpa using List.all_eq_true.1 hall t hm)⟩)
  f_goes
#print axioms card
end Go.Proofs.YthdiiiopjkaifaaGreatDoor.gateEscapes
namespace Go.Proofs.YthdiiiopjkaifaaGreatDoor
/-- The card, under a short name, for the claim. -/
theorem gateEscapes_card : Rows.GateEscapesCardSaid := gateEscapes.card
end Go.Proofs.YthdiiiopjkaifaaGreatDoor
