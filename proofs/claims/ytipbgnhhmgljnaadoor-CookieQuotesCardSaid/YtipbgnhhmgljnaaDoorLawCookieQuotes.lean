/-
  CookieQuotes: for every choices the law returns true.
-/
import Derived.Test.YtipbgnhhmgljnaaDoorP11
import Derived.Test.YtipbgnhhmgljnaaDoorRow
import Derived.Test.YtipbgnhhmgljnaaDoorTie
import Derived.Test.YtipbgnhhmgljnaaDoorCards
import Derived.Test.YtipbgnhhmgljnaaDoorPall14

namespace Go.Proofs.YtipbgnhhmgljnaaDoor.cookieQuotes
open Go.RowKit Go.Proofs.YtipbgnhhmgljnaaDoor.Pall Go.Proofs.YtipbgnhhmgljnaaDoor.Split Go.Proofs.YtipbgnhhmgljnaaDoor.Pl Go.Proofs.YtipbgnhhmgljnaaDoorW.PrintWords
set_option linter.unusedVariables false
set_option linter.unusedSimpArgs false
def qB (n : Int) : UInt8 := ([97, 98, 99, 48, 61, 40, 47] : List UInt8).getD (n.toNat % 7) 0
def vL (l : List Int) : List UInt8 := (l.take 40).map qB
theorem qB_ok (n : Int) : octB (qB n) = true ∧ qB n ≠ 32 ∧ qB n ≠ 59 ∧ qB n ≠ 34 := by
  have h : ∀ j, j < 7 → octB (([97, 98, 99, 48, 61, 40, 47] : List UInt8).getD j 0) = true ∧ ([97, 98, 99, 48, 61, 40, 47] : List UInt8).getD j 0 ≠ 32 ∧ ([97, 98, 99, 48, 61, 40, 47] : List UInt8).getD j 0 ≠ 59 ∧ ([97, 98, 99, 48, 61, 40, 47] : List UInt8).getD j 0 ≠ 34 := by decide +kernel
  exact h _ (Nat.mod_lt _ (by omega))
theorem vL_ok (l : List Int) : octL (vL l) = true ∧ (32 ∉ vL l) ∧ (34 ∉ vL l) := by
  refine ⟨?_, ?_, ?_⟩
  · unfold octL vL; rw [List.all_map, List.all_eq_true]; intro x _; exact (qB_ok x).1
  · intro h; obtain ⟨x, _, e⟩ := List.mem_map.1 h; exact (qB_ok x).2.1 e
  · intro h; obtain ⟨x, _, e⟩ := List.mem_map.1 h; exact (qB_ok x).2.2.2 e
/-- n=v -/
theorem plain2 (v : List UInt8) (ho : octL v = true) (hb : 32 ∉ v) (hq : 34 ∉ v) : parseS (mkS (110 :: 61 :: v)) = ([⟨⟨#[110]⟩, mkS v⟩], true) := by
  have e := oneS_mk [110] v (by decide)
  have ht : tokL [110] = true := by decide +kernel
  rw [bare_plain v hq] at e
  have hok : okS (mkS (110 :: 61 :: v)) = true := by
    show (oneS (mkS ([110] ++ 61 :: v))).2.2 = true
    rw [e]; show (tokL [110] && octL v) = true; rw [ht, ho]; rfl
  rw [parse_one _ (by simp) (by simp [hb]), if_pos hok]
  show ([(⟨(oneS (mkS ([110] ++ 61 :: v))).1, (oneS (mkS ([110] ++ 61 :: v))).2.1⟩ : S38)], true) = _
  rw [e]; rfl
/-- n=v; -/
theorem plain4 (v : List UInt8) (hb : 32 ∉ v) (hq : 34 ∉ v) : (parseS (mkS (110 :: 61 :: (v ++ [59])))).2 = false := by
  have e := oneS_mk [110] (v ++ [59]) (by decide)
  rw [bare_plain _ (by simp [hq])] at e
  have hok : ¬ okS (mkS (110 :: 61 :: (v ++ [59]))) = true := by
    show ¬ (oneS (mkS ([110] ++ 61 :: (v ++ [59])))).2.2 = true
    rw [e]; show ¬ (tokL [110] && octL (v ++ [59])) = true
    have : octL (v ++ [59]) = false := by unfold octL; rw [List.all_append, show ([59] : List UInt8).all octB = false by decide +kernel, Bool.and_false]
    rw [this]; simp
  rw [parse_one _ (by simp) (by simp [hb]), if_neg hok]
/-- n="v -/
theorem plain3 (v : List UInt8) (hb : 32 ∉ v) (hq : 34 ∉ v) : (parseS (mkS (110 :: 61 :: 34 :: v))).2 = false := by
  have e := oneS_mk [110] (34 :: v) (by decide)
  have hbare : bareS (mkS (34 :: v)) = mkS (34 :: v) := by
    unfold bareS
    rw [if_neg]
    rintro ⟨h2, _, hs⟩
    have h3 : [34] <:+ (34 :: v) := List.isSuffixOf_iff_suffix.1 hs
    obtain ⟨t, ht⟩ := h3
    cases t with
    | nil => simp at ht; subst ht; exact absurd h2 (by decide)
    | cons a t => simp at ht; exact hq (by rw [← ht.2]; simp)
  rw [hbare] at e
  have hok : ¬ okS (mkS (110 :: 61 :: 34 :: v)) = true := by
    show ¬ (oneS (mkS ([110] ++ 61 :: (34 :: v)))).2.2 = true
    rw [e]; show ¬ (tokL [110] && octL (34 :: v)) = true
    have : octL (34 :: v) = false := by unfold octL; rw [List.all_cons, show octB 34 = false by decide +kernel, Bool.false_and]
    rw [this]; simp
  rw [parse_one _ (by simp) (by simp [hb]), if_neg hok]
/-- n="v" -/
theorem plain1 (v : List UInt8) (ho : octL v = true) (hb : 32 ∉ v) : parseS (mkS (110 :: 61 :: 34 :: (v ++ [34]))) = ([⟨⟨#[110]⟩, mkS v⟩], true) := by
  have e := oneS_mk [110] (34 :: (v ++ [34])) (by decide)
  have ht : tokL [110] = true := by decide +kernel
  have hsz : (mkS (34 :: (v ++ [34]))).size = v.length + 2 := by show (34 :: (v ++ [34])).length = _; simp
  have hbare : bareS (mkS (34 :: (v ++ [34]))) = mkS v := by
    unfold bareS
    rw [if_pos ⟨by omega, List.isPrefixOf_iff_prefix.2 ⟨v ++ [34], rfl⟩, List.isSuffixOf_iff_suffix.2 ⟨34 :: v, by simp [mkS]⟩⟩, hsz]
    apply Split.ba_ext
    rw [Lib.extract_data]
    simp [mkS]
  rw [hbare] at e
  have hok : okS (mkS (110 :: 61 :: 34 :: (v ++ [34]))) = true := by
    show (oneS (mkS ([110] ++ 61 :: (34 :: (v ++ [34]))))).2.2 = true
    rw [e]; show (tokL [110] && octL v) = true; rw [ht, ho]; rfl
  rw [parse_one _ (by simp) (by simp [hb]), if_pos hok]
  show ([(⟨(oneS (mkS ([110] ++ 61 :: (34 :: (v ++ [34]))))).1, (oneS (mkS ([110] ++ 61 :: (34 :: (v ++ [34]))))).2.1⟩ : S38)], true) = _
  rw [e]; rfl
theorem qB_ext (n : Int) (h : 0 ≤ n) : (⟨#[97, 98, 99, 48, 61, 40, 47]⟩ : ByteArray).extract (n % 7).toNat ((n % 7 + 1) % 256).toNat = mkB [qB n] := by
  have hall : ∀ j, j < 7 → (⟨#[97, 98, 99, 48, 61, 40, 47]⟩ : ByteArray).extract j (j + 1) = mkB [([97, 98, 99, 48, 61, 40, 47] : List UInt8).getD j 0] := by decide +kernel
  have h1 : (n % 7).toNat = n.toNat % 7 := by omega
  have h2 : ((n % 7 + 1) % 256).toNat = n.toNat % 7 + 1 := by omega
  rw [h1, h2]
  exact hall _ (by omega)
theorem flat_map (l : List Int) : l.flatMap (fun n => [qB n]) = l.map qB := by
  induction l with
  | nil => rfl
  | cons a l ih => rw [List.flatMap_cons, List.map_cons, ih]; rfl
theorem plain (l : List Int) (hb : ∀ x ∈ l, 0 ≤ x ∧ x ≤ 255) (hl : l.length ≤ 9223372036854775806) : Ev (fun k => wicketmanlaw11_CookieQuotes.f k l) true := by
  refine ev_build (fun k s i => wicketmanlaw11_CookieQuotes.l0 k l s (i : Nat)) (fun k s => wicketmanlaw11_CookieQuotes.j1 k s) l 40 1 (fun n => [qB n]) (fun x _ => by simp) ?_ ?_ ?_
  · intro k s i hi h40 hs
    have hx := hb _ (getD_mem0 l 0 hi)
    have he := qB_ext _ hx.1
    have hz : (mkB [qB (l.getD i 0)]).size = 1 := rfl
    simp only [wicketmanlaw11_CookieQuotes.l0]
    rw [rd_at, tmod_pos _ hx.1]
    rw [if_pos (by omega), if_pos (by omega), if_pos (by omega), if_pos (by omega), if_pos (by omega), if_pos (by omega), he, if_pos (by rw [hz]; omega), wrap_id (by omega) (by omega)]
    rfl
  · intro k s i hil hi hstop hs
    simp only [wicketmanlaw11_CookieQuotes.l0]
    by_cases h : (i : Int) < (l.length : Int)
    · rw [if_pos h, if_neg (by omega)]
    · rw [if_neg h]
  rw [flat_map]
  have hv := vL_ok l
  have hlen : (vL l).length ≤ 40 := by unfold vL; rw [List.length_map, List.length_take]; omega
  show Ev (fun k => wicketmanlaw11_CookieQuotes.j1 k (mkS (vL l))) true
  generalize vL l = v at *
  have p1 := plain1 v hv.1 hv.2.1
  have p2 := plain2 v hv.1 hv.2.1 hv.2.2
  have p3 := plain3 v hv.2.1 hv.2.2
  have p4 := plain4 v hv.2.1 hv.2.2
  have hz := mkS_size v
  have e1 : (⟨#[110, 61, 34]⟩ : ByteArray) ++ mkS v ++ (⟨#[34]⟩ : ByteArray) = mkS (110 :: 61 :: 34 :: (v ++ [34])) := Split.ba_ext (by simp [mkS])
  have e2 : (⟨#[110, 61]⟩ : ByteArray) ++ mkS v = mkS (110 :: 61 :: v) := Split.ba_ext (by simp [mkS])
  have e3 : (⟨#[110, 61, 34]⟩ : ByteArray) ++ mkS v = mkS (110 :: 61 :: 34 :: v) := Split.ba_ext (by simp [mkS])
  have e4 : (⟨#[110, 61]⟩ : ByteArray) ++ mkS v ++ (⟨#[59]⟩ : ByteArray) = mkS (110 :: 61 :: (v ++ [59])) := Split.ba_ext (by simp [mkS])
  refine Ev.step (f := fun _ => some true) (fun k => ?_) (Ev.now _)
  simp only [wicketmanlaw11_CookieQuotes.j1]
  rw [e1, e4, e2, e3, parse_f _ (by rw [mkS_size]; simp; omega), parse_f _ (by rw [mkS_size]; simp; omega), parse_f _ (by rw [mkS_size]; simp; omega), parse_f _ (by rw [mkS_size]; simp; omega), p1, p2, known11_true]
  simp only [Option.bind_some]
  rw [if_pos (by omega), if_pos (by rw [mkS_size]; simp; omega), if_pos (by omega), if_pos (by rw [mkS_size]; simp; omega), p3, p4]
  simp [rd_T38]
theorem walk (A0 : Option Addr) (c0 : Nat) (l0 : List Int) {W : World} (hr0 : Kd.C (Kd.int .u8) W A0 l0.length l0) (hc0 : l0.length ≤ c0) (hw0 : ∀ x ∈ l0, (Lit.int .u8 x).wf = true) (y0 : l0.length ≤ 140737488351232) (W' : World) (e : W' = W) (hS : Sh W) :
    Calls Tryd.prog 5 #[.slice A0 l0.length c0] W fun e W' => e = .returned (.bool true) ∧ Below W.heap.size W W' := by
  obtain ⟨k, hk⟩ := (plain l0 (u8s_of_wf hw0) (by omega)).rounds
  exact wicketmanlaw11_CookieQuotes.calls k A0 c0 l0 true W hr0 hc0 hS (Aside0.mk rfl) hk
end Go.Proofs.YtipbgnhhmgljnaaDoor.cookieQuotes
namespace Go.Proofs.YtipbgnhhmgljnaaDoor.cookieQuotes
open Go.ChangeShapes Go.WideShapes Go.ChangeAt Go.RowKit Go.Proofs.YtipbgnhhmgljnaaDoorW Go.Proofs.YtipbgnhhmgljnaaDoorW.PrintWords Go.Proofs.YtipbgnhhmgljnaaDoor.Pall
open Go.ChangeMaps (open_string shut_string)
set_option linter.unusedVariables false
theorem own : ownKnob Tryd.prog.godebug = none := by kernel_rfl
theorem laidOut : laidOutB Tryd.prog = true := by kernel_rfl
set_option maxRecDepth 100000 in
theorem lifted (os : Os) (started : os.Started) (H : Type) (enc : TypeId × Value → H) :
    ReturnsInHanded {} Tryd.checked os 5 .any (fun w args => (Rows.cookieQuotesSpec.pre enc Tryd.prog Tryd.f5 [] false w args ∧ laidMetH Tryd.prog Rows.cookieQuotesRow.laid w) ∧ sizedMet enc Tryd.prog Tryd.f5 (OpenSpec.ofChange Rows.cookieQuotesSpec) false w args)
      (Rows.cookieQuotesSpec.post enc Tryd.prog Tryd.f5 false true false false) := by
  refine law_lifted (C := Tryd.checked) (rt := 4) (L := Rows.cookieQuotesRow.laid) own started (by kernel_rfl) Tryd.func5 laidOut (by kernel_rfl) rfl rfl (by rfl) Tryd.underlying4 ?_ (ChangeSpec.witness_shaped (enc := enc) (C := Tryd.checked) (os := os) (X := fun w _ => laidMetH Tryd.prog Rows.cookieQuotesRow.laid w) false (World.laidAll Tryd.prog os Rows.cookieQuotesRow.laid) #[.slice none 0 0] 8 (World.laidAll_os _ _ _)
    (World.shaped_of_ZipB (by kernel_rfl) (by kernel_rfl)) (by kernel_rfl) (by kernel_rfl) (by kernel_rfl) (by rw [MakeChecks.laidMetH_plain _ _ _ (by kernel_rfl)]; exact laidMet_laidAll _ (by kernel_rfl) (by kernel_rfl))) ?_
  · intro ds hds
    have hds : ds.length = 1 := hds
    match ds, hds with
    | [_], _ => rfl
  intro W base args ds ps hval0 hA0 hsz0 hL hsh
  have hS : Sh W := sh_of hsh hL (by kernel_rfl) 2 rfl
  have hval : ∀ (j : Nat) t v, Tryd.f5.params[j]? = some t → args[j]? = some v → Value.okWide Tryd.prog W .any base t v := hval0
  have hA : DataW.TrodAll enc Tryd.prog W 0 (fun _ => true) true Tryd.f5.params.toList args.toList ds ps := hA0
  have hsz : (DataW.weightsEach Tryd.prog Tryd.f5.params.toList ds).all (· ≤ reachBytes) = true := hsz0
  rw [Tryd.params5] at hA hval hsz
  obtain ⟨v0, vs0, d0, ds0, p0, q0, hargs, rfl, rfl, h0, r0⟩ := trodAll_cons hA
  obtain ⟨rfl, rfl, rfl⟩ := trodAll_nil r0
  obtain rfl : args = #[v0] := by cases args; simp_all
  obtain ⟨A0, len0, cap0, rfl⟩ := okWide_slice Tryd.underlying23 (hval 0 23 v0 rfl rfl)
  obtain ⟨z0, w0⟩ := ints_row Tryd.underlying23 Tryd.underlying5 (by kernel_rfl) h0
  have y0 : len0 * 1 ≤ 140737488351232 := PrintWords.sized_ints hsz (j := 0) (t := 23) rfl rfl Tryd.underlying23 Tryd.underlying5 (by kernel_rfl) (by kernel_rfl) h0
  obtain ⟨l0, rfl, hr0, hm0, hw0, hc0⟩ := ReadsInt.ofRowC w0
  exact walk A0 cap0 l0 (Kd.C_of_reads (d := (0 : Int)) (h1 := fun _ => rfl) hr0) hc0 hw0 (by omega) W rfl hS
theorem over : Rows.cookieQuotesRow.holds Tryd.pinned (OpenSpec.ofChange Rows.cookieQuotesSpec) :=
  OpenClaim.holds_of_wide 5 Tryd.f5 rfl rfl rfl rfl rfl rfl rfl ⟨rfl, rfl, rfl, rfl, rfl⟩ rfl rfl rfl rfl rfl (by kernel_rfl) Tryd.func5 (by kernel_rfl)
    (of_decide_eq_true (by kernel_rfl)) (by unfold Func.isWrapper; rw [if_neg (of_decide_eq_false (by kernel_rfl))]; exact ⟨rfl, rfl⟩)
    (fun os started H enc _ => lifted os started H enc)
theorem said : Rows.CookieQuotesSaid := over
theorem card : Rows.CookieQuotesCardSaid :=
  Claim7.holds_tied_plain_at .later [] [.data, .data, .data, .data, .pinned] true (true, "82b5f123bb936d0beffd2142160fa2ce6c33d3fa771e2f017819932a8649ff2e") false said (fun _ h => by cases h) (by kernel_rfl) (fun _ h => by cases h) cookieQuotes_row_tie rfl ⟨rfl, rfl⟩ (by kernel_rfl) rfl
    (fun f fn hf hfn => by
      obtain rfl : f = 5 := Option.some.inj ((show Tryd.prog.funcNamed "wicketman/wicketmanlaw11.CookieQuotes" = some 5 by kernel_rfl).symm.trans hf) |>.symm
      obtain rfl : fn = Tryd.f5 := (Option.some.inj (Tryd.func5.symm.trans hfn)).symm
      exact ⟨by kernel_rfl, fun j t ht => by
        rw [Tryd.params5] at ht
        have hm : t ∈ [23] := by simpa using Array.mem_of_getElem? ht
        have hall : ([23].all fun u => !Tryd.prog.wantsStandIn u) = true := by kernel_rfl
        exact (show Tryd.prog.wantsStandIn t = false by simpa using List.all_eq_true.1 hall t hm)⟩)
    (by kernel_rfl)
#print axioms card
end Go.Proofs.YtipbgnhhmgljnaaDoor.cookieQuotes
namespace Go.Proofs.YtipbgnhhmgljnaaDoor
/-- The card, under a short name, for the claim. -/
theorem cookieQuotes_card : Rows.CookieQuotesCardSaid := cookieQuotes.card
end Go.Proofs.YtipbgnhhmgljnaaDoor

