/-
  RespMany: for every choices the law returns true.
-/
import Derived.Test.YtpfbemcoblganaaDoorPl10
import Derived.Test.YtpfbemcoblganaaDoorRow
import Derived.Test.YtpfbemcoblganaaDoorTie
import Derived.Test.YtpfbemcoblganaaDoorCards
import Derived.Test.YtpfbemcoblganaaDoorPall21
namespace Go.Proofs.YtpfbemcoblganaaDoor.respMany
open Go.RowKit Go.Proofs.YtpfbemcoblganaaDoor.Pall Go.Proofs.YtpfbemcoblganaaDoor.Pl Go.Proofs.YtpfbemcoblganaaDoorW.PrintWords
set_option linter.unusedVariables false
set_option linter.unusedSimpArgs false
def pX : S43 := ⟨⟨#[88]⟩, ⟨#[49]⟩⟩
def pB : S43 := ⟨⟨#[88]⟩, ⟨#[97, 13, 10, 83, 101, 116, 45, 67, 111, 111, 107, 105, 101, 58, 32, 98]⟩⟩
theorem pX_ok : (printS pX.f0 pX.f1).2 = 0 := by decide +kernel
theorem pB_err : (printS pB.f0 pB.f1).2 = 12 := by decide +kernel
theorem set_last (m : Nat) : (List.replicate (m + 1) pX).set m pB = List.replicate m pX ++ [pB] := by
  rw [List.replicate_succ', List.set_append_right (h := by simp)]
  simp
theorem end2 (x2 : Bool) (m n : Nat) (hm : m < 60) (hn : n < 5000) (x10 x44 : Bool) (h10 : x10 = decide (m ≤ 40 ∧ n ≤ 4000)) (h44 : x44 = (x2 && decide (0 < m))) :
    Ev (fun k => wicketmanlaw10_RespMany.j2 k x2 (m : Int) x10 x44 200 (List.replicate m pX) (List.replicate n 0)) true := by
  refine Ev.step (f := fun _ => some true) (fun k => ?_) (Ev.now _)
  simp only [wicketmanlaw10_RespMany.j2, wicketmanlaw10_known.told, Option.bind_some, if_true]
  cases hx : x44 with
  | true =>
    rw [hx] at h44
    have h44 := (Bool.and_eq_true_iff.1 h44.symm)
    have hm0 : 0 < m := of_decide_eq_true h44.2
    obtain ⟨m, rfl⟩ : ∃ q, m = q + 1 := ⟨m - 1, by omega⟩
    have hx2 := h44.1
    subst hx2
    have e1 : wrap64 (((m + 1 : Nat) : Int) - 1) = (m : Int) := by rw [wrap_id (by omega) (by omega)]; omega
    have e2 : (rd_T43 (List.replicate (m + 1) pX) (m : Int)).f0 = (⟨#[88]⟩ : ByteArray) := by
      unfold rd_T43; rw [Int.toNat_natCast, List.getD, List.getElem?_replicate, if_pos (by omega)]; rfl
    simp only [e1, e2, Int.toNat_natCast, List.length_replicate, if_pos (show (0 : Int) ≤ (m : Int) by omega), if_pos (show (m : Int) < ((m + 1 : Nat) : Int) by omega), if_true]
    rw [show (⟨(⟨#[88]⟩ : ByteArray), (⟨#[97, 13, 10, 83, 101, 116, 45, 67, 111, 111, 107, 105, 101, 58, 32, 98]⟩ : ByteArray)⟩ : S43) = pB from rfl, set_last]
    have hsm : smallF (List.replicate m pX ++ [pB]) = true := by
      have h := small_rep pX (by decide) m
      unfold smallF at h ⊢
      rw [List.all_append, h]; decide
    have hdm : decide (((m + 1 : Nat) : Int) > 0) = true := decide_eq_true (by omega)
    unfold resp_Print.f
    rw [if_pos hsm, Option.bind_some]
    by_cases hok : m + 1 ≤ 40 ∧ n ≤ 4000
    · rw [prS_err reason200 (by simp; omega) (by rw [fsErr_app _ _ (fsErr_rep pX pX_ok m), pB_err]; decide), fsErr_app _ _ (fsErr_rep pX pX_ok m), pB_err]
      rw [decide_eq_true hok] at h10
      subst h10
      simp only [hdm]
      rfl
    · rw [prS_long reason200 (by simp; omega)]
      rw [decide_eq_false hok] at h10
      subst h10
      simp only [hdm]
      rfl
  | false =>
    rw [hx] at h44
    simp only [Bool.false_eq_true, if_false]
    have hsm := small_rep pX (by decide) m
    unfold resp_Print.f
    rw [if_pos hsm, Option.bind_some]
    by_cases hok : m ≤ 40 ∧ n ≤ 4000
    · rw [prS_ok reason200 (by simp; omega) (fsErr_rep pX pX_ok m)]
      rw [decide_eq_true hok] at h10
      subst h10
      cases x2 with
      | true =>
        have hm0 : ¬ ((m : Int) > 0) := by
          intro h
          rw [decide_eq_true (show 0 < m by omega)] at h44
          exact absurd h44 (by decide)
        simp only [decide_eq_false hm0]
        rfl
      | false => rfl
    · rw [prS_long reason200 (by simp; omega)]
      rw [decide_eq_false hok] at h10
      subst h10
      rfl
theorem end1 (x2 : Bool) (m n : Nat) (hm : m < 60) (hn : n < 5000) (x10 : Bool) (h10 : x10 = decide (m ≤ 40 ∧ n ≤ 4000)) :
    Ev (fun k => wicketmanlaw10_RespMany.j1 k x2 (m : Int) x10 200 (List.replicate m pX) (List.replicate n 0)) true := by
  refine Ev.step (f := fun k => wicketmanlaw10_RespMany.j2 k x2 (m : Int) x10 (x2 && decide (0 < m)) 200 (List.replicate m pX) (List.replicate n 0)) (fun k => ?_) (end2 x2 m n hm hn x10 _ h10 rfl)
  simp only [wicketmanlaw10_RespMany.j1]
  cases x2 with
  | true =>
    rw [if_pos rfl, Bool.true_and, show decide ((m : Int) > 0) = decide (0 < m) from decide_eq_decide.2 (by omega)]
  | false => rfl
theorem loop (x2 : Bool) (m n : Nat) (hm : m < 60) (hn : n < 5000) : ∀ d i, m - i = d → i ≤ m → Ev (fun k => wicketmanlaw10_RespMany.l0 k x2 (m : Int) (i : Int) 200 (List.replicate i pX) (List.replicate n 0)) true := by
  intro d
  induction d with
  | zero =>
    intro i hd hi
    obtain rfl : i = m := by omega
    by_cases h40 : (i : Int) ≤ 40
    · refine Ev.step (f := fun k => wicketmanlaw10_RespMany.j1 k x2 (i : Int) (decide (i ≤ 40 ∧ n ≤ 4000)) 200 (List.replicate i pX) (List.replicate n 0)) (fun k => ?_) (end1 x2 i n hm hn _ rfl)
      simp only [wicketmanlaw10_RespMany.l0]
      rw [if_neg (by omega), if_pos h40, List.length_replicate, show decide ((n : Int) ≤ 4000) = decide (i ≤ 40 ∧ n ≤ 4000) from decide_eq_decide.2 (by omega)]
    · refine Ev.step (f := fun k => wicketmanlaw10_RespMany.j1 k x2 (i : Int) false 200 (List.replicate i pX) (List.replicate n 0)) (fun k => ?_) (end1 x2 i n hm hn _ (by rw [decide_eq_false (by omega)]))
      simp only [wicketmanlaw10_RespMany.l0]
      rw [if_neg (by omega), if_neg h40]
  | succ d ih =>
    intro i hd hi
    refine Ev.step (f := fun k => wicketmanlaw10_RespMany.l0 k x2 (m : Int) ((i + 1 : Nat) : Int) 200 (List.replicate (i + 1) pX) (List.replicate n 0)) (fun k => ?_) (ih (i + 1) (by omega) (by omega))
    simp only [wicketmanlaw10_RespMany.l0]
    rw [if_pos (by omega), List.length_replicate, if_pos (by omega), wrap_id (by omega) (by omega), List.replicate_succ' (n := i)]
    rfl
theorem plain (a0 a1 : Int) (a2 : Bool) (h0 : 0 ≤ a0 ∧ a0 ≤ 255) (h1 : 0 ≤ a1 ∧ a1 ≤ 65535) : Ev (fun k => wicketmanlaw10_RespMany.f k a0 a1 a2) true := by
  obtain ⟨m, hm⟩ : ∃ m : Nat, (m : Int) = a0 % 60 := ⟨(a0 % 60).toNat, by omega⟩
  obtain ⟨n, hn⟩ : ∃ n : Nat, (n : Int) = a1 % 5000 := ⟨(a1 % 5000).toNat, by omega⟩
  have e0 : wrap64 (Int.tmod a0 60) = (m : Int) := by rw [tmod_pos _ h0.1 60, wrap_id (by omega) (by omega), hm]
  have e1 : wrap64 (Int.tmod a1 5000) = (n : Int) := by rw [tmod_pos _ h1.1 5000, wrap_id (by omega) (by omega), hn]
  refine Ev.congr (f := fun k => wicketmanlaw10_RespMany.l0 k a2 (m : Int) ((0 : Nat) : Int) 200 (List.replicate 0 pX) (List.replicate n 0)) (fun k => ?_) (loop a2 m n (by omega) (by omega) _ 0 rfl (by omega))
  unfold wicketmanlaw10_RespMany.f
  rw [e0, e1, Int.toNat_natCast, if_pos (by omega), if_pos (by omega)]
  rfl
theorem walk (a0 : Int) (w0 : (Lit.int .u8 a0).wf = true) (a1 : Int) (w1 : (Lit.int .u16 a1).wf = true) (a2 : Bool) {W : World} (W' : World) (e : W' = W) (hS : Sh W) (hT : Tb W) :
    Calls Tryd.prog 9 #[.int .u8 a0, .int .u16 a1, .bool a2] W fun e W' => e = .returned (.bool true) ∧ Below W.heap.size W W' := by
  simp [Lit.wf, IntKind.min, IntKind.max, IntKind.signed, IntKind.bits] at w0 w1
  obtain ⟨k, hk⟩ := (plain a0 a1 a2 ⟨by omega, by omega⟩ ⟨by omega, by omega⟩).rounds
  exact wicketmanlaw10_RespMany.calls k a0 a1 a2 true W hT (Aside0.mk rfl) hk
end Go.Proofs.YtpfbemcoblganaaDoor.respMany
namespace Go.Proofs.YtpfbemcoblganaaDoor.respMany
open Go.ChangeShapes Go.WideShapes Go.ChangeAt Go.RowKit Go.Proofs.YtpfbemcoblganaaDoorW Go.Proofs.YtpfbemcoblganaaDoorW.PrintWords Go.Proofs.YtpfbemcoblganaaDoor.Pall
open Go.ChangeMaps (open_string shut_string)
set_option linter.unusedVariables false
theorem own : ownKnob Tryd.prog.godebug = none := by kernel_rfl
theorem laidOut : laidOutB Tryd.prog = true := by kernel_rfl
set_option maxRecDepth 100000 in
theorem lifted (os : Os) (started : os.Started) (H : Type) (enc : TypeId × Value → H) :
    ReturnsInHanded {} Tryd.checked os 9 .any (fun w args => (Rows.respManySpec.pre enc Tryd.prog Tryd.f9 [] false w args ∧ laidMetH Tryd.prog Rows.respManyRow.laid w) ∧ sizedMet enc Tryd.prog Tryd.f9 (OpenSpec.ofChange Rows.respManySpec) false w args)
      (Rows.respManySpec.post enc Tryd.prog Tryd.f9 false true false false) := by
  refine law_lifted (C := Tryd.checked) (rt := 4) (L := Rows.respManyRow.laid) own started (by kernel_rfl) Tryd.func9 laidOut (by kernel_rfl) rfl rfl (by rfl) Tryd.underlying4 ?_ (ChangeSpec.witness_shaped (enc := enc) (C := Tryd.checked) (os := os) (X := fun w _ => laidMetH Tryd.prog Rows.respManyRow.laid w) false (World.laidAll Tryd.prog os Rows.respManyRow.laid) #[.int .u8 0, .int .u16 0, .bool false] 8 (World.laidAll_os _ _ _)
    (World.shaped_of_ZipB (by kernel_rfl) (by kernel_rfl)) (by kernel_rfl) (by kernel_rfl) (by kernel_rfl) (by rw [MakeChecks.laidMetH_plain _ _ _ (by kernel_rfl)]; exact laidMet_laidAll _ (by kernel_rfl) (by kernel_rfl))) ?_
  · intro ds hds
    have hds : ds.length = 3 := hds
    match ds, hds with
    | [_, _, _], _ => rfl
  intro W base args ds ps hval0 hA0 hsz0 hL hsh
  have hS : Sh W := cell_of_shapedOpen_int' hsh
  have hT : Tb W := tb_of hL (by kernel_rfl) 2 rfl
  have hval : ∀ (j : Nat) t v, Tryd.f9.params[j]? = some t → args[j]? = some v → Value.okWide Tryd.prog W .any base t v := hval0
  have hA : DataW.TrodAll enc Tryd.prog W 0 (fun _ => true) true Tryd.f9.params.toList args.toList ds ps := hA0
  have hsz : (DataW.weightsEach Tryd.prog Tryd.f9.params.toList ds).all (· ≤ reachBytes) = true := hsz0
  rw [Tryd.params9] at hA hval hsz
  obtain ⟨v0, vs0, d0, ds0, p0, q0, hargs, rfl, rfl, h0, r0⟩ := trodAll_cons hA
  obtain ⟨v1, vs1, d1, ds1, p1, q1, rfl, rfl, rfl, h1, r1⟩ := trodAll_cons r0
  obtain ⟨v2, vs2, d2, ds2, p2, q2, rfl, rfl, rfl, h2, r2⟩ := trodAll_cons r1
  obtain ⟨rfl, rfl, rfl⟩ := trodAll_nil r2
  obtain rfl : args = #[v0, v1, v2] := by cases args; simp_all
  obtain ⟨a0, rfl, rfl, rfl, w0⟩ := open_int Tryd.underlying5 (hval 0 5 v0 rfl rfl) h0
  obtain ⟨a1, rfl, rfl, rfl, w1⟩ := open_int Tryd.underlying23 (hval 1 23 v1 rfl rfl) h1
  obtain ⟨a2, rfl, rfl, rfl⟩ := open_bool Tryd.underlying4 (hval 2 4 v2 rfl rfl) h2
  exact walk a0 w0 a1 w1 a2 W rfl hS hT
theorem over : Rows.respManyRow.holds Tryd.pinned (OpenSpec.ofChange Rows.respManySpec) :=
  OpenClaim.holds_of_wide 9 Tryd.f9 rfl rfl rfl rfl rfl rfl rfl ⟨rfl, rfl, rfl, rfl, rfl⟩ rfl rfl rfl rfl rfl (by kernel_rfl) Tryd.func9 (by kernel_rfl)
    (of_decide_eq_true (by kernel_rfl)) (by unfold Func.isWrapper; rw [if_neg (of_decide_eq_false (by kernel_rfl))]; exact ⟨rfl, rfl⟩)
    (fun os started H enc _ => lifted os started H enc)
theorem said : Rows.RespManySaid := over
theorem card : Rows.RespManyCardSaid :=
  Claim7.holds_tied_plain_at .later [] [.data, .data, .data, .data, .sentinel, .pinned] true (true, "79a6d220dc140684a9dab3eb2f9ce24deda1b71e26dfa61c675eb49a4432bf09") true said (fun _ h => by cases h) (by kernel_rfl) (fun _ h => by cases h) respMany_row_tie rfl ⟨rfl, rfl⟩ (by kernel_rfl) rfl
    (fun f fn hf hfn => by
      obtain rfl : f = 9 := Option.some.inj ((show Tryd.prog.funcNamed "wicketman/wicketmanlaw10.RespMany" = some 9 by kernel_rfl).symm.trans hf) |>.symm
      obtain rfl : fn = Tryd.f9 := (Option.some.inj (Tryd.func9.symm.trans hfn)).symm
      exact ⟨by kernel_rfl, fun j t ht => by
        rw [Tryd.params9] at ht
        have hm : t ∈ [5, 23, 4] := by simpa using Array.mem_of_getElem? ht
        have hall : ([5, 23, 4].all fun u => !Tryd.prog.wantsStandIn u) = true := by kernel_rfl
        exact (show Tryd.prog.wantsStandIn t = false by simpa using List.all_eq_true.1 hall t hm)⟩)
    (by kernel_rfl)
#print axioms card
end Go.Proofs.YtpfbemcoblganaaDoor.respMany
namespace Go.Proofs.YtpfbemcoblganaaDoor
/-- The card, under a short name, for the claim. -/
theorem respMany_card : Rows.RespManyCardSaid := respMany.card
end Go.Proofs.YtpfbemcoblganaaDoor

