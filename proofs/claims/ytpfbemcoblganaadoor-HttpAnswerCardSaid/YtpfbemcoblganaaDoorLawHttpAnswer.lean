/-
  HttpAnswer: for every error and bytes the law returns true.
-/
import Derived.Test.YtpfbemcoblganaaDoorPl09p
import Derived.Test.YtpfbemcoblganaaDoorRow
import Derived.Test.YtpfbemcoblganaaDoorTie
import Derived.Test.YtpfbemcoblganaaDoorCards
import Derived.Test.YtpfbemcoblganaaDoorPall18
namespace Go.Proofs.YtpfbemcoblganaaDoor.httpAnswer
open Go.RowKit Go.Proofs.YtpfbemcoblganaaDoor.Pall Go.Proofs.YtpfbemcoblganaaDoor.Pl Go.Proofs.YtpfbemcoblganaaDoorW.PrintWords
set_option linter.unusedVariables false
set_option linter.unusedSimpArgs false
theorem parseQ_err (l0 : List Int) (h : ¬ (parseQ l0).2.2.2.2 = 0) : parseQ l0 = noReq (parseQ l0).2.2.2.2 := by
  unfold parseQ at h ⊢
  split
  · rename_i hok
    rw [if_pos hok] at h
    unfold parseL at h ⊢
    split
    · rfl
    · rename_i x rest hls
      rw [hls] at h
      simp only at h
      split
      · rfl
      · rename_i h1
        rw [if_neg h1] at h
        split
        · rfl
        · rename_i h2
          rw [if_neg h2] at h
          split
          · rfl
          · rename_i h3
            rw [if_neg h3] at h
            split
            · rfl
            · rename_i h4
              rw [if_neg h4] at h
              exact absurd rfl h
  · rfl
def tail (k : Nat) (q : Req) : Option Bool := if q.2.2.2.2 = 0 then some true else (wicketmanref09_Same.f k q.1 q.2.1 q.2.2.1 q.2.2.2.1 (⟨#[]⟩ : ByteArray) (⟨#[]⟩ : ByteArray) ([] : List S43) ([] : List Int)).bind fun t => some t
theorem tail_ev (q : Req) (h : ¬ q.2.2.2.2 = 0 → q = noReq q.2.2.2.2) : Ev (fun k => tail k q) true := by
  by_cases h0 : q.2.2.2.2 = 0
  · refine Ev.congr (fun k => ?_) (Ev.now _)
    unfold tail; rw [if_pos h0]
  · refine Ev.congr (f := fun k => (wicketmanref09_Same.f k (⟨#[]⟩ : ByteArray) (⟨#[]⟩ : ByteArray) ([] : List S43) ([] : List Int) (⟨#[]⟩ : ByteArray) (⟨#[]⟩ : ByteArray) ([] : List S43) ([] : List Int)).bind fun t => some t) (fun k => ?_) ?_
    · unfold tail
      rw [if_neg h0, h h0]; rfl
    · exact Ev.bind (same09_true _ _ _ _ (by simp)) (Ev.now _)
theorem plain (e : Int) (b : List Int) (hb : ∀ x ∈ b, 0 ≤ x ∧ x ≤ 255) (he : 0 ≤ e ∧ e ≤ 65535) : Ev (fun k => wicketmanlaw09_HttpAnswer.f k e b) true := by
  by_cases c1 : (b.length : Int) > 300
  · refine Ev.congr (f := fun _ => some true) (fun k => ?_) (Ev.now _)
    unfold wicketmanlaw09_HttpAnswer.f
    rw [if_pos c1, known09_true]; rfl
  obtain ⟨bs, rfl⟩ := nums_of b hb
  rw [numsL_len] at c1
  have hq := tail_ev (parseQ (numsL bs)) (parseQ_err (numsL bs))
  refine Ev.congr (f := fun k => tail k (parseQ (numsL bs))) (fun k => ?_) hq
  unfold wicketmanlaw09_HttpAnswer.f
  rw [numsL_len, if_neg c1, parse_some bs (by omega), known09_true]
  simp only [Option.bind_some, if_true]
  generalize parseQ (numsL bs) = q
  unfold http_Status.f
  by_cases e0 : e = 0
  · subst e0
    simp only [if_true, Option.bind_some]
    rfl
  · simp only [if_neg e0]
    have e0' : (e == 0) = false := beq_eq_false_iff_ne.2 e0
    by_cases e3 : e = 3
    · simp only [if_pos e3, Option.bind_some, e0']
      rfl
    · simp only [if_neg e3]
      by_cases e13 : e = 13
      · simp only [if_pos e13, Option.bind_some, e0']
        rfl
      · simp only [if_neg e13, Option.bind_some, e0']
        rfl
theorem walk (a0 : Int) (w0 : (Lit.int .u16 a0).wf = true) (A1 : Option Addr) (c1 : Nat) (l1 : List Int) {W : World} (hr1 : Kd.C (Kd.int .u8) W A1 l1.length l1) (hc1 : l1.length ≤ c1) (hw1 : ∀ x ∈ l1, (Lit.int .u8 x).wf = true) (y1 : l1.length ≤ 140737488351232) (W' : World) (e : W' = W) (hS : Sh W) :
    Calls Tryd.prog 8 #[.int .u16 a0, .slice A1 l1.length c1] W fun e W' => e = .returned (.bool true) ∧ Below W.heap.size W W' := by
  simp [Lit.wf, IntKind.min, IntKind.max, IntKind.signed, IntKind.bits] at w0
  obtain ⟨k, hk⟩ := (plain a0 l1 (u8s_of_wf hw1) ⟨by omega, by omega⟩).rounds
  exact wicketmanlaw09_HttpAnswer.calls k a0 A1 c1 l1 true W hr1 hc1 hS (Aside0.mk rfl) hk
end Go.Proofs.YtpfbemcoblganaaDoor.httpAnswer
namespace Go.Proofs.YtpfbemcoblganaaDoor.httpAnswer
open Go.ChangeShapes Go.WideShapes Go.ChangeAt Go.RowKit Go.Proofs.YtpfbemcoblganaaDoorW Go.Proofs.YtpfbemcoblganaaDoorW.PrintWords Go.Proofs.YtpfbemcoblganaaDoor.Pall
open Go.ChangeMaps (open_string shut_string)
set_option linter.unusedVariables false
theorem own : ownKnob Tryd.prog.godebug = none := by kernel_rfl
theorem laidOut : laidOutB Tryd.prog = true := by kernel_rfl
set_option maxRecDepth 100000 in
theorem lifted (os : Os) (started : os.Started) (H : Type) (enc : TypeId × Value → H) :
    ReturnsInHanded {} Tryd.checked os 8 .any (fun w args => (Rows.httpAnswerSpec.pre enc Tryd.prog Tryd.f8 [] false w args ∧ laidMetH Tryd.prog Rows.httpAnswerRow.laid w) ∧ sizedMet enc Tryd.prog Tryd.f8 (OpenSpec.ofChange Rows.httpAnswerSpec) false w args)
      (Rows.httpAnswerSpec.post enc Tryd.prog Tryd.f8 false true false false) := by
  refine law_lifted (C := Tryd.checked) (rt := 4) (L := Rows.httpAnswerRow.laid) own started (by kernel_rfl) Tryd.func8 laidOut (by kernel_rfl) rfl rfl (by rfl) Tryd.underlying4 ?_ (ChangeSpec.witness_shaped (enc := enc) (C := Tryd.checked) (os := os) (X := fun w _ => laidMetH Tryd.prog Rows.httpAnswerRow.laid w) false (World.laidAll Tryd.prog os Rows.httpAnswerRow.laid) #[.int .u16 0, .slice none 0 0] 8 (World.laidAll_os _ _ _)
    (World.shaped_of_ZipB (by kernel_rfl) (by kernel_rfl)) (by kernel_rfl) (by kernel_rfl) (by kernel_rfl) (by rw [MakeChecks.laidMetH_plain _ _ _ (by kernel_rfl)]; exact laidMet_laidAll _ (by kernel_rfl) (by kernel_rfl))) ?_
  · intro ds hds
    have hds : ds.length = 2 := hds
    match ds, hds with
    | [_, _], _ => rfl
  intro W base args ds ps hval0 hA0 hsz0 hL hsh
  have hS : Sh W := cell_of_shapedOpen_int' hsh
  have hval : ∀ (j : Nat) t v, Tryd.f8.params[j]? = some t → args[j]? = some v → Value.okWide Tryd.prog W .any base t v := hval0
  have hA : DataW.TrodAll enc Tryd.prog W 0 (fun _ => true) true Tryd.f8.params.toList args.toList ds ps := hA0
  have hsz : (DataW.weightsEach Tryd.prog Tryd.f8.params.toList ds).all (· ≤ reachBytes) = true := hsz0
  rw [Tryd.params8] at hA hval hsz
  obtain ⟨v0, vs0, d0, ds0, p0, q0, hargs, rfl, rfl, h0, r0⟩ := trodAll_cons hA
  obtain ⟨v1, vs1, d1, ds1, p1, q1, rfl, rfl, rfl, h1, r1⟩ := trodAll_cons r0
  obtain ⟨rfl, rfl, rfl⟩ := trodAll_nil r1
  obtain rfl : args = #[v0, v1] := by cases args; simp_all
  obtain ⟨a0, rfl, rfl, rfl, w0⟩ := open_int Tryd.underlying24 (hval 0 24 v0 rfl rfl) h0
  obtain ⟨A1, len1, cap1, rfl⟩ := okWide_slice Tryd.underlying22 (hval 1 22 v1 rfl rfl)
  obtain ⟨z1, w1⟩ := ints_row Tryd.underlying22 Tryd.underlying5 (by kernel_rfl) h1
  have y1 : len1 * 1 ≤ 140737488351232 := PrintWords.sized_ints hsz (j := 1) (t := 22) rfl rfl Tryd.underlying22 Tryd.underlying5 (by kernel_rfl) (by kernel_rfl) h1
  obtain ⟨l1, rfl, hr1, hm1, hw1, hc1⟩ := ReadsInt.ofRowC w1
  exact walk a0 w0 A1 cap1 l1 (Kd.C_of_reads (d := (0 : Int)) (h1 := fun _ => rfl) hr1) hc1 hw1 (by omega) W rfl hS
theorem over : Rows.httpAnswerRow.holds Tryd.pinned (OpenSpec.ofChange Rows.httpAnswerSpec) :=
  OpenClaim.holds_of_wide 8 Tryd.f8 rfl rfl rfl rfl rfl rfl rfl ⟨rfl, rfl, rfl, rfl, rfl⟩ rfl rfl rfl rfl rfl (by kernel_rfl) Tryd.func8 (by kernel_rfl)
    (of_decide_eq_true (by kernel_rfl)) (by unfold Func.isWrapper; rw [if_neg (of_decide_eq_false (by kernel_rfl))]; exact ⟨rfl, rfl⟩)
    (fun os started H enc _ => lifted os started H enc)
theorem said : Rows.HttpAnswerSaid := over
theorem card : Rows.HttpAnswerCardSaid :=
  Claim7.holds_tied_plain_at .later [] [.data, .pinned] true (true, "79a6d220dc140684a9dab3eb2f9ce24deda1b71e26dfa61c675eb49a4432bf09") true said (fun _ h => by cases h) (by kernel_rfl) (fun _ h => by cases h) httpAnswer_row_tie rfl ⟨rfl, rfl⟩ (by kernel_rfl) rfl
    (fun f fn hf hfn => by
      obtain rfl : f = 8 := Option.some.inj ((show Tryd.prog.funcNamed "wicketman/wicketmanlaw09.HttpAnswer" = some 8 by kernel_rfl).symm.trans hf) |>.symm
      obtain rfl : fn = Tryd.f8 := (Option.some.inj (Tryd.func8.symm.trans hfn)).symm
      exact ⟨by kernel_rfl, fun j t ht => by
        rw [Tryd.params8] at ht
        have hm : t ∈ [24, 22] := by simpa using Array.mem_of_getElem? ht
        have hall : ([24, 22].all fun u => !Tryd.prog.wantsStandIn u) = true := by kernel_rfl
        exact (show Tryd.prog.wantsStandIn t = false by simpa using List.all_eq_true.1 hall t hm)⟩)
    (by kernel_rfl)
#print axioms card
end Go.Proofs.YtpfbemcoblganaaDoor.httpAnswer
namespace Go.Proofs.YtpfbemcoblganaaDoor
/-- The card, under a short name, for the claim. -/
theorem httpAnswer_card : Rows.HttpAnswerCardSaid := httpAnswer.card
end Go.Proofs.YtpfbemcoblganaaDoor

