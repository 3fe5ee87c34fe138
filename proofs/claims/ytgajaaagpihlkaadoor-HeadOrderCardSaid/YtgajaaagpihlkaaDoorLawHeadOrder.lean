/-
  HeadOrder: for every choices the law returns true.
-/
import Derived.Test.YtgajaaagpihlkaaDoorRowB
import Derived.Test.YtgajaaagpihlkaaDoorPlB
import Derived.Test.YtgajaaagpihlkaaDoorTie
import Derived.Test.YtgajaaagpihlkaaDoorCards
import Derived.Test.YtgajaaagpihlkaaDoorMHeadOrder
namespace Go.Proofs.YtgajaaagpihlkaaDoor.headOrder
open Go.RowKit Go.Proofs.YtgajaaagpihlkaaDoorW.PrintWords Go.Proofs.YtgajaaagpihlkaaDoor.Pall
set_option linter.unusedVariables false
set_option linter.unusedSimpArgs false
def ck (g : Bool) : ByteArray := if g = true then ⟨#[67, 79, 79, 75, 73, 69]⟩ else ⟨#[67, 111, 111, 107, 105, 101]⟩
def cks : ByteArray := ⟨#[67, 111, 111, 107, 105, 101, 115]⟩
def ckl : ByteArray := ⟨#[99, 111, 111, 107, 105, 101]⟩
theorem no_s (g : Bool) : ¬ sameS cks (ck g) = true := by cases g <;> decide
theorem yes_l (g : Bool) : sameS ckl (ck g) = true := by cases g <;> decide
theorem ck_size (g : Bool) : (ck g).size ≤ 140737488351232 := by cases g <;> decide
def Good (m : List Pr) : Prop := ∀ p ∈ m, p.f0.size ≤ 140737488351232
theorem allS_app (l : List Pr) (p : Pr) (n : ByteArray) : allS (l ++ [p]) n = allS l n ++ allS [p] n := by simp [allS]
theorem l1_true (w : List ByteArray) (hl : w.length ≤ 100) : ∀ d i, w.length - i = d → i ≤ w.length → Ev (fun k => wicketmanlaw08_HeadOrder.l1 k w w (i : Nat)) true := by
  intro d
  induction d with
  | zero =>
    intro i hd hi
    refine Ev.step (f := fun _ => some true) (fun k => ?_) (Ev.now _)
    simp only [wicketmanlaw08_HeadOrder.l1]; rw [if_neg (by omega), known08_true]; rfl
  | succ d ih =>
    intro i hd hi
    refine Ev.step (f := fun k => wicketmanlaw08_HeadOrder.l1 k w w ((i + 1 : Nat) : Int)) (fun k => ?_) (ih (i + 1) (by omega) (by omega))
    simp only [wicketmanlaw08_HeadOrder.l1]
    rw [if_pos (by omega), if_pos (by omega), if_pos (by omega), if_pos True.intro, wrap_id (by omega) (by omega)]; rfl
theorem j2_true (l : List Pr) (g : Bool) (hl : l.length ≤ 30) (hgl : Good l) : Ev (fun k => wicketmanlaw08_HeadOrder.j2 k l (allS l (ck g)) (ck g)) true := by
  have ha := allS_len l (ck g)
  refine Ev.step (f := fun k => (head_All.f k l (ck g)).bind fun t => if (t.length : Int) = ((allS l (ck g)).length : Int) then wicketmanlaw08_HeadOrder.l1 k (allS l (ck g)) t ((0 : Nat) : Int) else some false) (fun k => ?_) ?_
  · simp only [wicketmanlaw08_HeadOrder.j2]; rfl
  · refine Ev.bind (headAll_ev l _ (by omega) hgl (ck_size g)) ?_
    simp only [if_true]
    exact l1_true _ (by omega) _ 0 rfl (by omega)
theorem loop_true (c : List Int) (g : Bool) (hc : ∀ x ∈ c, 0 ≤ x ∧ x ≤ 255) (hcl : c.length ≤ 9223372036854775806) : ∀ d i (l : List Pr), 30 - i = d → i ≤ 30 → i ≤ c.length → l.length ≤ i → Good l →
    Ev (fun k => wicketmanlaw08_HeadOrder.l0 k c g l (allS l (ck g)) (i : Nat)) true := by
  have hend : ∀ (l : List Pr) (i : Int), l.length ≤ 30 → Good l → Ev (fun k => wicketmanlaw08_HeadOrder.j1 k c g l (allS l (ck g)) i false) true := by
    intro l i hl hgl
    refine Ev.step (f := fun k => wicketmanlaw08_HeadOrder.j2 k l (allS l (ck g)) (ck g)) (fun k => ?_) (j2_true l g hl hgl)
    simp only [wicketmanlaw08_HeadOrder.j1]
    rw [if_neg (by decide)]
    cases g <;> rfl
  intro d
  induction d with
  | zero =>
    intro i l hd hi hic hl hgl
    obtain rfl : i = 30 := by omega
    refine Ev.step (f := fun k => wicketmanlaw08_HeadOrder.j1 k c g l (allS l (ck g)) ((30 : Nat) : Int) false) (fun k => ?_) (hend l _ hl hgl)
    simp only [wicketmanlaw08_HeadOrder.l0]
    by_cases h : ((30 : Nat) : Int) < (c.length : Int)
    · rw [if_pos h]; rfl
    · rw [if_neg h]
  | succ d ih =>
    intro i l hd hi hic hl hgl
    by_cases hlt : i < c.length
    · have hx := hc _ (getD_mem c 0 hlt)
      have e1 : Int.tmod (rd c (i : Nat)) 3 = c.getD i 0 % 3 := by unfold rd; rw [Int.toNat_natCast, Int.tmod_eq_emod_of_nonneg hx.1]
      have hwd := word_ev (c.drop i) (fun x hx => hc x (List.mem_of_mem_drop hx)) (by rw [List.length_drop]; omega)
      have hall := allS_len l (ck g)
      refine Ev.step (f := fun k => wicketmanlaw08_HeadOrder.j1 k c g l (allS l (ck g)) (i : Nat) true) (fun k => ?_) ?_
      · simp only [wicketmanlaw08_HeadOrder.l0]
        rw [if_pos (by omega), decide_eq_true (by omega)]
      · by_cases h3 : c.getD i 0 % 3 = 0
        · refine Ev.step (f := fun k => (wicketmanlaw08_word.f k (c.drop i)).bind fun t => wicketmanlaw08_HeadOrder.l0 k c g (l ++ [⟨cks, t⟩]) (allS l (ck g)) ((i + 1 : Nat) : Int)) (fun k => ?_) ?_
          · simp only [wicketmanlaw08_HeadOrder.j1]
            rw [if_pos trivial, if_pos (by omega), if_pos (by omega), e1, if_pos h3, if_pos (by omega), Int.toNat_natCast, wrap_id (by omega) (by omega)]
            simp only [if_pos (show l.length < 4398046511104 by omega)]
            rfl
          · refine Ev.bind hwd ?_
            have e : allS (l ++ [⟨cks, wordS (c.drop i)⟩]) (ck g) = allS l (ck g) := by rw [allS_app, allS_no (no_s g)]; simp [allS]
            have := ih (i + 1) (l ++ [⟨cks, wordS (c.drop i)⟩]) (by omega) (by omega) (by omega) (by rw [List.length_append]; simp; omega) (fun p hp => by
              rcases List.mem_append.1 hp with hp | hp
              · exact hgl p hp
              · obtain rfl := List.mem_singleton.1 hp
                show cks.size ≤ _; decide)
            rw [e] at this; exact this
        · refine Ev.step (f := fun k => (wicketmanlaw08_word.f k (c.drop i)).bind fun t => (wicketmanlaw08_word.f k (c.drop i)).bind fun t2 => wicketmanlaw08_HeadOrder.l0 k c g (l ++ [⟨ckl, t2⟩]) (allS l (ck g) ++ [t]) ((i + 1 : Nat) : Int)) (fun k => ?_) ?_
          · simp only [wicketmanlaw08_HeadOrder.j1]
            rw [if_pos trivial, if_pos (by omega), if_pos (by omega), e1, if_neg h3, if_pos (by omega), Int.toNat_natCast, wrap_id (by omega) (by omega)]
            simp only [if_pos (show l.length < 4398046511104 by omega), if_pos (show (allS l (ck g)).length < 8796093022208 by omega)]
            rfl
          · refine Ev.bind hwd ?_
            refine Ev.bind hwd ?_
            have e : allS (l ++ [⟨ckl, wordS (c.drop i)⟩]) (ck g) = allS l (ck g) ++ [wordS (c.drop i)] := by rw [allS_app, allS_yes (yes_l g)]; simp [allS]
            have := ih (i + 1) (l ++ [⟨ckl, wordS (c.drop i)⟩]) (by omega) (by omega) (by omega) (by rw [List.length_append]; simp; omega) (fun p hp => by
              rcases List.mem_append.1 hp with hp | hp
              · exact hgl p hp
              · obtain rfl := List.mem_singleton.1 hp
                show ckl.size ≤ _; decide)
            rw [e] at this; exact this
    · refine Ev.step (f := fun k => wicketmanlaw08_HeadOrder.j1 k c g l (allS l (ck g)) (i : Nat) false) (fun k => ?_) (hend l _ (by omega) hgl)
      simp only [wicketmanlaw08_HeadOrder.l0]
      rw [if_neg (by omega)]
theorem walk (A0 : Option Addr) (c0 : Nat) (l0 : List Int) {W : World} (hr0 : Kd.C (Kd.int .u8) W A0 l0.length l0) (hc0 : l0.length ≤ c0) (hw0 : ∀ x ∈ l0, (Lit.int .u8 x).wf = true) (y0 : l0.length ≤ 140737488351232)
    (a1 : Bool) (W2 : World) (e : W2 = W) (hS : Sh W) :
    Calls Tryd.prog 7 #[.slice A0 l0.length c0, .bool a1] W fun e W' => e = .returned (.bool true) ∧ Below W.heap.size W W' := by
  have h := loop_true l0 a1 (u8s_of_wf hw0) (by omega) _ 0 [] rfl (by omega) (by omega) (by simp) (fun p hp => by cases hp)
  obtain ⟨k, hk⟩ := h.rounds
  exact wicketmanlaw08_HeadOrder.calls k A0 c0 l0 a1 true W hr0 hc0 hS hk
end Go.Proofs.YtgajaaagpihlkaaDoor.headOrder
namespace Go.Proofs.YtgajaaagpihlkaaDoor.headOrder
open Go.ChangeShapes Go.WideShapes Go.ChangeAt Go.RowKit Go.Proofs.YtgajaaagpihlkaaDoorW Go.Proofs.YtgajaaagpihlkaaDoorW.PrintWords Go.Proofs.YtgajaaagpihlkaaDoor.Pall
open Go.ChangeMaps (open_string shut_string)
set_option linter.unusedVariables false
theorem own : ownKnob Tryd.prog.godebug = none := by kernel_rfl
theorem laidOut : laidOutB Tryd.prog = true := by kernel_rfl
set_option maxRecDepth 100000 in
theorem lifted (os : Os) (started : os.Started) (H : Type) (enc : TypeId × Value → H) :
    ReturnsInHanded {} Tryd.checked os 7 .any (fun w args => (Rows.headOrderSpec.pre enc Tryd.prog Tryd.f7 [] false w args ∧ laidMetH Tryd.prog Rows.headOrderRow.laid w) ∧ sizedMet enc Tryd.prog Tryd.f7 (OpenSpec.ofChange Rows.headOrderSpec) false w args)
      (Rows.headOrderSpec.post enc Tryd.prog Tryd.f7 false true false false) := by
  refine law_lifted (C := Tryd.checked) (rt := 4) (L := Rows.headOrderRow.laid) own started (by kernel_rfl) Tryd.func7 laidOut (by kernel_rfl) rfl rfl (by rfl) Tryd.underlying4 ?_ (ChangeSpec.witness_shaped (enc := enc) (C := Tryd.checked) (os := os) (X := fun w _ => laidMetH Tryd.prog Rows.headOrderRow.laid w) false (World.laidAll Tryd.prog os Rows.headOrderRow.laid) #[.slice none 0 0, .bool false] 8 (World.laidAll_os _ _ _)
    (World.shaped_of_ZipB (by kernel_rfl) (by kernel_rfl)) (by kernel_rfl) (by kernel_rfl) (by kernel_rfl) (by rw [MakeChecks.laidMetH_plain _ _ _ (by kernel_rfl)]; exact laidMet_laidAll _ (by kernel_rfl) (by kernel_rfl))) ?_
  · intro ds hds
    have hds : ds.length = 2 := hds
    match ds, hds with
    | [_, _], _ => rfl
  intro W base args ds ps hval0 hA0 hsz0 hL hsh
  have hS : Sh W := cell_of_shapedOpen_int' hsh
  have hval : ∀ (j : Nat) t v, Tryd.f7.params[j]? = some t → args[j]? = some v → Value.okWide Tryd.prog W .any base t v := hval0
  have hA : DataW.TrodAll enc Tryd.prog W 0 (fun _ => true) true Tryd.f7.params.toList args.toList ds ps := hA0
  have hsz : (DataW.weightsEach Tryd.prog Tryd.f7.params.toList ds).all (· ≤ reachBytes) = true := hsz0
  rw [Tryd.params7] at hA hval hsz
  obtain ⟨v0, vs0, d0, ds0, p0, q0, hargs, rfl, rfl, h0, r0⟩ := trodAll_cons hA
  obtain ⟨v1, vs1, d1, ds1, p1, q1, rfl, rfl, rfl, h1, r1⟩ := trodAll_cons r0
  obtain ⟨rfl, rfl, rfl⟩ := trodAll_nil r1
  obtain rfl : args = #[v0, v1] := by cases args; simp_all
  obtain ⟨A0, len0, cap0, rfl⟩ := okWide_slice Tryd.underlying22 (hval 0 22 v0 rfl rfl)
  obtain ⟨z0, w0⟩ := ints_row Tryd.underlying22 Tryd.underlying5 (by kernel_rfl) h0
  have y0 : len0 * 1 ≤ 140737488351232 := PrintWords.sized_ints hsz (j := 0) (t := 22) rfl rfl Tryd.underlying22 Tryd.underlying5 (by kernel_rfl) (by kernel_rfl) h0
  obtain ⟨l0, rfl, hr0, hm0, hw0, hc0⟩ := ReadsInt.ofRowC w0
  obtain ⟨a1, rfl, rfl, rfl⟩ := open_bool Tryd.underlying4 (hval 1 4 v1 rfl rfl) h1
  exact walk A0 cap0 l0 (Kd.C_of_reads (d := (0 : Int)) (h1 := fun _ => rfl) hr0) hc0 hw0 (by omega) a1 W rfl hS
theorem over : Rows.headOrderRow.holds Tryd.pinned (OpenSpec.ofChange Rows.headOrderSpec) :=
  OpenClaim.holds_of_wide 7 Tryd.f7 rfl rfl rfl rfl rfl rfl rfl ⟨rfl, rfl, rfl, rfl, rfl⟩ rfl rfl rfl rfl rfl (by kernel_rfl) Tryd.func7 (by kernel_rfl)
    (of_decide_eq_true (by kernel_rfl)) (by unfold Func.isWrapper; rw [if_neg (of_decide_eq_false (by kernel_rfl))]; exact ⟨rfl, rfl⟩)
    (fun os started H enc _ => lifted os started H enc)
theorem said : Rows.HeadOrderSaid := over
theorem card : Rows.HeadOrderCardSaid :=
  Claim7.holds_tied_plain_at .later [] [.data, .pinned] true (true, "354fb149afdaf3c4257d8e9b9bc27b1df5f32269821a08f6267663514def154d") false said (fun _ h => by cases h) (by kernel_rfl) (fun _ h => by cases h) headOrder_row_tie rfl ⟨rfl, rfl⟩ (by kernel_rfl) rfl
    (fun f fn hf hfn => by
      obtain rfl : f = 7 := Option.some.inj ((show Tryd.prog.funcNamed "wicketman/wicketmanlaw08.HeadOrder" = some 7 by kernel_rfl).symm.trans hf) |>.symm
      obtain rfl : fn = Tryd.f7 := (Option.some.inj (Tryd.func7.symm.trans hfn)).symm
      exact ⟨by kernel_rfl, fun j t ht => by
        rw [Tryd.params7] at ht
        have hm : t ∈ [22, 4] := by simpa using Array.mem_of_getElem? ht
        have hall : ([22, 4].all fun u => !Tryd.prog.wantsStandIn u) = true := by kernel_rfl
        exact (show Tryd.prog.wantsStandIn t = false by simpa using List.all_eq_true.1 hall t hm)⟩)
    (by kernel_rfl)
#print axioms card
end Go.Proofs.YtgajaaagpihlkaaDoor.headOrder
namespace Go.Proofs.YtgajaaagpihlkaaDoor
/-- The card, under a short name, for the claim. -/
theorem headOrder_card : Rows.HeadOrderCardSaid := headOrder.card
end Go.Proofs.YtgajaaagpihlkaaDoor

