/-
  CookieAges: for every number and every byte the law returns true.
-/
import Derived.Test.YtipbgnhhmgljnaaDoorPl11
import Derived.Test.YtipbgnhhmgljnaaDoorTie
import Derived.Test.YtipbgnhhmgljnaaDoorCards
import Derived.Outline

namespace Go.Proofs.YtipbgnhhmgljnaaDoor.cookieAges
open Go.RowKit Go.Proofs.YtipbgnhhmgljnaaDoor.Pall Go.Proofs.YtipbgnhhmgljnaaDoor.Split Go.Proofs.YtipbgnhhmgljnaaDoor.Pl Go.Proofs.YtipbgnhhmgljnaaDoorW.PrintWords
set_option linter.unusedVariables false
set_option linter.unusedSimpArgs false
theorem u8_of_wf {a : Int} (h : (Lit.int .u8 a).wf = true) : ∃ c : UInt8, a = (c.toNat : Int) := by
  simp [Lit.wf, IntKind.min, IntKind.max, IntKind.signed, IntKind.bits] at h
  refine ⟨UInt8.ofNat a.toNat, ?_⟩
  rw [UInt8.toNat_ofNat']; omega
theorem age1 (t : Int) : (setS (⟨#[97]⟩ : ByteArray) (⟨#[49]⟩ : ByteArray) t).2 = if 0 ≤ t ∧ t ≤ 999999999 then 0 else 1 := by
  unfold setS
  have h1 : tokL (⟨#[97]⟩ : ByteArray).data.toList = true := by decide +kernel
  have h2 : octL (⟨#[49]⟩ : ByteArray).data.toList = true := by decide +kernel
  by_cases h : 0 ≤ t ∧ t ≤ 999999999
  · rw [if_pos ⟨h1, h2, h⟩, if_pos h]
  · rw [if_neg (fun q => h q.2.2), if_neg h]
theorem val1 (c : UInt8) : (setS (⟨#[97]⟩ : ByteArray) (mkS [c]) 1).2 = if octB c = true then 0 else 1 := by
  have h1 : tokL (⟨#[97]⟩ : ByteArray).data.toList = true := by decide +kernel
  have h2 : octL (mkS [c]).data.toList = octB c := by show octL [c] = _; unfold octL; simp
  unfold setS
  rw [h2]
  by_cases h : octB c = true
  · rw [if_pos ⟨h1, h, by decide, by decide⟩, if_pos h]
  · rw [if_neg (fun q => h q.2.1), if_neg h]
theorem par1 (c : UInt8) : (parseS (mkS [97, 61, c])).2 = octB c :=
  beq_iff_eq.1 (u8_all (fun c => (parseS (mkS [97, 61, c])).2 == octB c) (by decide +kernel) c)
theorem fine1 (c : UInt8) : octB c = (decide (32 < (c.toNat : Int)) && decide ((c.toNat : Int) < 127) && !((c.toNat : Int) == 34) && !((c.toNat : Int) == 44) && !((c.toNat : Int) == 59) && !((c.toNat : Int) == 92)) :=
  beq_iff_eq.1 (u8_all (fun c => octB c == (decide (32 < (c.toNat : Int)) && decide ((c.toNat : Int) < 127) && !((c.toNat : Int) == 34) && !((c.toNat : Int) == 44) && !((c.toNat : Int) == 59) && !((c.toNat : Int) == 92))) (by decide +kernel) c)
theorem str1 (c : UInt8) : strOfNums [(c.toNat : Int)] = mkS [c] := ba_ext (by rw [strOfNums_data]; simp [mkS])
set_option maxRecDepth 100000 in
set_option maxHeartbeats 4000000 in
theorem core (t : Int) (h0 : -9223372036854775808 ≤ t) (h1 : t ≤ 9223372036854775807) (c : UInt8) (n1 n2 : Int) (ok : Bool) (H1 : Hid ((setS (⟨#[97]⟩ : ByteArray) (⟨#[49]⟩ : ByteArray) t).2 = n1)) (H2 : Hid ((setS (⟨#[97]⟩ : ByteArray) (mkS [c]) 1).2 = n2)) (H3 : Hid ((parseS (mkS [97, 61, c])).2 = ok))
    (hn1 : (n1 = 0 ∧ 0 ≤ t ∧ t ≤ 999999999) ∨ (n1 = 1 ∧ (t < 0 ∨ 999999999 < t)))
    (hn2 : (n2 = 0 ∧ ok = true ∧ 32 < (c.toNat : Int) ∧ (c.toNat : Int) < 127 ∧ ¬ (c.toNat : Int) = 34 ∧ ¬ (c.toNat : Int) = 44 ∧ ¬ (c.toNat : Int) = 59 ∧ ¬ (c.toNat : Int) = 92) ∨
      (n2 = 1 ∧ ok = false ∧ ((c.toNat : Int) ≤ 32 ∨ (32 < (c.toNat : Int) ∧ 127 ≤ (c.toNat : Int)) ∨ (32 < (c.toNat : Int) ∧ (c.toNat : Int) < 127 ∧ (c.toNat : Int) = 34) ∨ (32 < (c.toNat : Int) ∧ (c.toNat : Int) < 127 ∧ ¬ (c.toNat : Int) = 34 ∧ (c.toNat : Int) = 44) ∨ (32 < (c.toNat : Int) ∧ (c.toNat : Int) < 127 ∧ ¬ (c.toNat : Int) = 34 ∧ ¬ (c.toNat : Int) = 44 ∧ (c.toNat : Int) = 59) ∨ (32 < (c.toNat : Int) ∧ (c.toNat : Int) < 127 ∧ ¬ (c.toNat : Int) = 34 ∧ ¬ (c.toNat : Int) = 44 ∧ ¬ (c.toNat : Int) = 59 ∧ (c.toNat : Int) = 92))))
    {W : World} (hS : Sh W) :
    Calls Tryd.prog 6 #[.int .i64 t, .int .u8 c.toNat] W fun e W' => e = .returned (.bool true) ∧ Below W.heap.size W W' := by
  have hu := Tryd.underlying38
  have HB0 := hid (Below.refl W.heap.size W)
  have hc := c.toNat_lt
  go_enter Tryd.func6, Tryd.ntmps6
  go_wp2_with fail
  refine (set_any _ _ _ (by decide) (by decide) _ (hS.of_below (by repeat (first | (with_reducible first | exact HB0.out | apply below_alloc | apply pw_below_drewN | apply below_drew1) | exact HB0.out)))).mono ?_
  rintro e w1 ⟨rfl, hb1⟩
  generalize setS (⟨#[97]⟩ : ByteArray) (⟨#[49]⟩ : ByteArray) t = q1 at *
  obtain ⟨s1, m1⟩ := q1
  obtain rfl : m1 = n1 := H1.out
  have HB1 := hid (below_step (by repeat (first | (with_reducible first | exact HB0.out | apply below_alloc | apply pw_below_drewN | apply below_drew1) | exact HB0.out)) hb1)
  clear hb1 H1
  have hcv := run_convert_bytes_arg (P := Tryd.prog) (w1.alloc (.cells #[.int .u8 c.toNat] 5)) 23 5 Tryd.underlying23 Tryd.underlying5 w1.heap.size 0 1 1 [(c.toNat : Int)] rfl (fun i hi => by
    obtain rfl : i = 0 := by omega
    unfold World.cell?; rw [World.alloc_heap_new]; rfl) 9 Tryd.underlying9
  rw [str1] at hcv
  go_wp2_with fail
  clear hcv
  refine (set_any _ _ _ (by decide) (by show 1 ≤ _; decide) _ (hS.of_below (by repeat (first | (with_reducible first | exact HB1.out | apply below_alloc | apply pw_below_drewN | apply below_drew1) | exact HB1.out)))).mono ?_
  rintro e w2 ⟨rfl, hb2⟩
  have HE := hid (show (⟨#[97, 61]⟩ : ByteArray) ++ mkS [c] = mkS [97, 61, c] from ba_ext (by simp [mkS]))
  generalize setS (⟨#[97]⟩ : ByteArray) (mkS [c]) 1 = q2 at *
  obtain ⟨s2, m2⟩ := q2
  obtain rfl : m2 = n2 := H2.out
  have HB2 := hid (below_step (by repeat (first | (with_reducible first | exact HB1.out | apply below_alloc | apply pw_below_drewN | apply below_drew1) | exact HB1.out)) hb2)
  have hz1 : (mkS [c]).size = 1 := rfl
  generalize mkS [c] = v1 at *
  clear hb2 H2
  rcases hn2 with ⟨rfl, rfl, d1, d2, d3, d4, d5, d6⟩ | ⟨rfl, rfl, d1 | ⟨d1, d2⟩ | ⟨d1, d2, d3⟩ | ⟨d1, d2, d3, d4⟩ | ⟨d1, d2, d3, d4, d5⟩ | ⟨d1, d2, d3, d4, d5, d6⟩⟩
  all_goals
    go_wp2_with fail
    rw [HE.out]
    refine (parse_any _ (by show 3 ≤ _; decide) _ (hS.of_below (by repeat (first | (with_reducible first | exact HB2.out | apply below_alloc | apply pw_below_drewN | apply below_drew1) | exact HB2.out)))).mono ?_
    rintro e w3 ⟨r, rfl, hR, hb3⟩
    rw [H3.out]
    obtain ⟨Ao, co, rfl⟩ := Kd.R_slice hR
    have HB3 := hid (below_step (by repeat (first | (with_reducible first | exact HB2.out | apply below_alloc | apply pw_below_drewN | apply below_drew1) | exact HB2.out)) hb3)
    clear hb3 hR
    go_wp2_with fail
    refine (known11_any _ (hS.of_below (by repeat (first | (with_reducible first | exact HB3.out | apply below_alloc | apply pw_below_drewN | apply below_drew1) | exact HB3.out)))).mono ?_
    rintro e w4 ⟨rfl, hb4⟩
    have HB4 := hid (below_step (by repeat (first | (with_reducible first | exact HB3.out | apply below_alloc | apply pw_below_drewN | apply below_drew1) | exact HB3.out)) hb4)
    clear hb4
    rcases hn1 with ⟨rfl, t1, t2⟩ | ⟨rfl, t1 | t1⟩
    all_goals
      go_wp2
      go_ret
      exact ⟨by first | rfl | (show Ending.returned (Value.bool _) = Ending.returned (Value.bool true); congr 2; simp only [Bool.and_eq_true, bne_iff_ne, ne_eq, Bool.not_eq_true', decide_eq_false_iff_not, decide_eq_true_eq]; omega), HB4.out⟩
theorem walk (a0 : Int) (w0 : (Lit.int .i64 a0).wf = true) (a1 : Int) (w1 : (Lit.int .u8 a1).wf = true) {W : World} (W2 : World) (e : W2 = W) (hS : Sh W) :
    Calls Tryd.prog 6 #[.int .i64 a0, .int .u8 a1] W fun e W' => e = .returned (.bool true) ∧ Below W.heap.size W W' := by
  obtain ⟨c, rfl⟩ := u8_of_wf w1
  simp [Lit.wf, IntKind.min, IntKind.max, IntKind.signed, IntKind.bits] at w0
  have hf := fine1 c
  refine core a0 (by omega) (by omega) c _ _ (octB c) (hid rfl) (hid rfl) (hid (par1 c)) ?_ ?_ hS
  · rw [age1]
    by_cases h : 0 ≤ a0 ∧ a0 ≤ 999999999
    · exact .inl ⟨if_pos h, h⟩
    · exact .inr ⟨if_neg h, by omega⟩
  · rw [val1]
    cases ho : octB c with
    | true =>
      rw [ho] at hf
      have hf := hf.symm
      simp only [Bool.and_eq_true, decide_eq_true_eq, Bool.not_eq_true', beq_eq_false_iff_ne] at hf
      exact .inl ⟨if_pos rfl, rfl, by omega, by omega, by omega, by omega, by omega, by omega⟩
    | false =>
      refine .inr ⟨if_neg (by decide), rfl, ?_⟩
      rw [ho] at hf
      have hf : ¬ (32 < (c.toNat : Int) ∧ (c.toNat : Int) < 127 ∧ ¬ (c.toNat : Int) = 34 ∧ ¬ (c.toNat : Int) = 44 ∧ ¬ (c.toNat : Int) = 59 ∧ ¬ (c.toNat : Int) = 92) := by
        rintro ⟨g1, g2, g3, g4, g5, g6⟩
        have : (decide (32 < (c.toNat : Int)) && decide ((c.toNat : Int) < 127) && !((c.toNat : Int) == 34) && !((c.toNat : Int) == 44) && !((c.toNat : Int) == 59) && !((c.toNat : Int) == 92)) = true := by
          simp only [Bool.and_eq_true, decide_eq_true_eq, Bool.not_eq_true', beq_eq_false_iff_ne]
          exact ⟨⟨⟨⟨⟨g1, g2⟩, g3⟩, g4⟩, g5⟩, g6⟩
        rw [this] at hf; cases hf
      omega
end Go.Proofs.YtipbgnhhmgljnaaDoor.cookieAges
namespace Go.Proofs.YtipbgnhhmgljnaaDoor.cookieAges
open Go.ChangeShapes Go.WideShapes Go.ChangeAt Go.RowKit Go.Proofs.YtipbgnhhmgljnaaDoorW Go.Proofs.YtipbgnhhmgljnaaDoorW.PrintWords Go.Proofs.YtipbgnhhmgljnaaDoor.Pall
open Go.ChangeMaps (open_string shut_string)
set_option linter.unusedVariables false
theorem own : ownKnob Tryd.prog.godebug = none := by kernel_rfl
theorem laidOut : laidOutB Tryd.prog = true := by kernel_rfl
set_option maxRecDepth 100000 in
theorem lifted (os : Os) (started : os.Started) (H : Type) (enc : TypeId × Value → H) :
    ReturnsInHanded {} Tryd.checked os 6 .any (fun w args => (Rows.cookieAgesSpec.pre enc Tryd.prog Tryd.f6 [] false w args ∧ laidMetH Tryd.prog Rows.cookieAgesRow.laid w) ∧ sizedMet enc Tryd.prog Tryd.f6 (OpenSpec.ofChange Rows.cookieAgesSpec) false w args)
      (Rows.cookieAgesSpec.post enc Tryd.prog Tryd.f6 false true false false) := by
  refine law_lifted (C := Tryd.checked) (rt := 4) (L := Rows.cookieAgesRow.laid) own started (by kernel_rfl) Tryd.func6 laidOut (by kernel_rfl) rfl rfl (by rfl) Tryd.underlying4 ?_ (ChangeSpec.witness_shaped (enc := enc) (C := Tryd.checked) (os := os) (X := fun w _ => laidMetH Tryd.prog Rows.cookieAgesRow.laid w) false (World.laidAll Tryd.prog os Rows.cookieAgesRow.laid) #[.int .i64 0, .int .u8 0] 8 (World.laidAll_os _ _ _)
    (World.shaped_of_ZipB (by kernel_rfl) (by kernel_rfl)) (by kernel_rfl) (by kernel_rfl) (by kernel_rfl) (by rw [MakeChecks.laidMetH_plain _ _ _ (by kernel_rfl)]; exact laidMet_laidAll _ (by kernel_rfl) (by kernel_rfl))) ?_
  · intro ds hds
    have hds : ds.length = 2 := hds
    match ds, hds with
    | [_, _], _ => rfl
  intro W base args ds ps hval0 hA0 hsz0 hL hsh
  have hS : Sh W := sh_of hsh hL (by kernel_rfl) 2 rfl
  have hval : ∀ (j : Nat) t v, Tryd.f6.params[j]? = some t → args[j]? = some v → Value.okWide Tryd.prog W .any base t v := hval0
  have hA : DataW.TrodAll enc Tryd.prog W 0 (fun _ => true) true Tryd.f6.params.toList args.toList ds ps := hA0
  have hsz : (DataW.weightsEach Tryd.prog Tryd.f6.params.toList ds).all (· ≤ reachBytes) = true := hsz0
  rw [Tryd.params6] at hA hval hsz
  obtain ⟨v0, vs0, d0, ds0, p0, q0, hargs, rfl, rfl, h0, r0⟩ := trodAll_cons hA
  obtain ⟨v1, vs1, d1, ds1, p1, q1, rfl, rfl, rfl, h1, r1⟩ := trodAll_cons r0
  obtain ⟨rfl, rfl, rfl⟩ := trodAll_nil r1
  obtain rfl : args = #[v0, v1] := by cases args; simp_all
  obtain ⟨a0, rfl, rfl, rfl, w0⟩ := open_int Tryd.underlying3 (hval 0 3 v0 rfl rfl) h0
  obtain ⟨a1, rfl, rfl, rfl, w1⟩ := open_int Tryd.underlying5 (hval 1 5 v1 rfl rfl) h1
  exact walk a0 w0 a1 w1 W rfl hS
theorem over : Rows.cookieAgesRow.holds Tryd.pinned (OpenSpec.ofChange Rows.cookieAgesSpec) :=
  OpenClaim.holds_of_wide 6 Tryd.f6 rfl rfl rfl rfl rfl rfl rfl ⟨rfl, rfl, rfl, rfl, rfl⟩ rfl rfl rfl rfl rfl (by kernel_rfl) Tryd.func6 (by kernel_rfl)
    (of_decide_eq_true (by kernel_rfl)) (by unfold Func.isWrapper; rw [if_neg (of_decide_eq_false (by kernel_rfl))]; exact ⟨rfl, rfl⟩)
    (fun os started H enc _ => lifted os started H enc)
theorem said : Rows.CookieAgesSaid := over
theorem card : Rows.CookieAgesCardSaid :=
  Claim7.holds_tied_plain_at .later [] [.data, .data, .data, .data, .pinned] true (true, "82b5f123bb936d0beffd2142160fa2ce6c33d3fa771e2f017819932a8649ff2e") false said (fun _ h => by cases h) (by kernel_rfl) (fun _ h => by cases h) cookieAges_row_tie rfl ⟨rfl, rfl⟩ (by kernel_rfl) rfl
    (fun f fn hf hfn => by
      obtain rfl : f = 6 := Option.some.inj ((show Tryd.prog.funcNamed "wicketman/wicketmanlaw11.CookieAges" = some 6 by kernel_rfl).symm.trans hf) |>.symm
      obtain rfl : fn = Tryd.f6 := (Option.some.inj (Tryd.func6.symm.trans hfn)).symm
      exact ⟨by kernel_rfl, fun j t ht => by
        rw [Tryd.params6] at ht
        have hm : t ∈ [3, 5] := by simpa using Array.mem_of_getElem? ht
        have hall : ([3, 5].all fun u => !Tryd.prog.wantsStandIn u) = true := by kernel_rfl
        exact (show Tryd.prog.wantsStandIn t = false by simpa using List.all_eq_true.1 hall t hm)⟩)
    (by kernel_rfl)
#print axioms card
end Go.Proofs.YtipbgnhhmgljnaaDoor.cookieAges
namespace Go.Proofs.YtipbgnhhmgljnaaDoor
/-- The card, under a short name, for the claim. -/
theorem cookieAges_card : Rows.CookieAgesCardSaid := cookieAges.card
end Go.Proofs.YtipbgnhhmgljnaaDoor

