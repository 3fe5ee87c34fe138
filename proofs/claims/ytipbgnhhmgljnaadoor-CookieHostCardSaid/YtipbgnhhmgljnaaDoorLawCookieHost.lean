/-
  CookieHost: for every choices the law returns true.
-/
import Derived.Test.YtipbgnhhmgljnaaDoorByteRow
import Derived.Test.YtipbgnhhmgljnaaDoorRowB
import Derived.Test.YtipbgnhhmgljnaaDoorTie
import Derived.Test.YtipbgnhhmgljnaaDoorCards
import Derived.Outline

namespace Go.Proofs.YtipbgnhhmgljnaaDoor.cookieHost
open Go.RowKit Go.Proofs.YtipbgnhhmgljnaaDoor.Pall Go.Proofs.YtipbgnhhmgljnaaDoor.Split Go.Proofs.YtipbgnhhmgljnaaDoor.Pl Go.Proofs.YtipbgnhhmgljnaaDoorW.PrintWords
set_option linter.unusedVariables false
set_option linter.unusedSimpArgs false
/-- a letter that may be made great -/
def upB (g : Bool) (c : UInt8) : UInt8 := if g = true ∧ 97 ≤ c.toNat then UInt8.ofNat (c.toNat - 32) else c
def hostL : List UInt8 := [95, 95, 104, 111, 115, 116, 45, 120]
/-- behind k rounds -/
def upTo (g : List Bool) (k j : Nat) : UInt8 := if j < k then upB (g.getD j false) (hostL.getD j 0) else hostL.getD j 0
def upAll (g : List Bool) : List UInt8 := (List.range 8).map (upTo g (min 8 g.length))
theorem upTo_step {g : List Bool} {k j : Nat} : upTo g (k + 1) j = if j = k then upB (g.getD k false) (hostL.getD k 0) else upTo g k j := by
  unfold upTo
  by_cases e : j = k
  · subst e; rw [if_pos (Nat.lt_succ_self _), if_pos rfl]
  · rw [if_neg e]
    by_cases h : j < k
    · rw [if_pos (by omega), if_pos h]
    · rw [if_neg (by omega), if_neg h]
/-- what the choices come to: eight bits -/
def bitsL (n : Nat) : List Bool := (List.range 8).map fun j => n.testBit j
def upBits (l : List Bool) : List UInt8 := (List.range 8).map fun j => upB (l.getD j false) (hostL.getD j 0)
theorem upAll_bits (g : List Bool) : upAll g = upBits g := by
  unfold upAll upBits
  apply List.map_congr_left
  intro j hj
  have hj := List.mem_range.1 hj
  unfold upTo
  by_cases h : j < min 8 g.length
  · rw [if_pos h]
  · rw [if_neg h]
    have : g.getD j false = false := by rw [List.getD, List.getElem?_eq_none (by omega)]; rfl
    rw [this]; unfold upB; rw [if_neg (fun h => by cases h.1)]
def upL (a b c d e f i j : Bool) : List UInt8 := [upB a 95, upB b 95, upB c 104, upB d 111, upB e 115, upB f 116, upB i 45, upB j 120]
theorem pre_all : ∀ a b c d e f i j s q r : Bool, cookie_Prefix.f (mkS (upL a b c d e f i j)) s (if r = true then (⟨#[47]⟩ : ByteArray) else ⟨#[47, 97]⟩) q = some (s && r && !q) := by decide +kernel
theorem up_same (g : List Bool) (s q r : Bool) : cookie_Prefix.f (mkS (upAll g)) s (if r = true then (⟨#[47]⟩ : ByteArray) else ⟨#[47, 97]⟩) q = some (s && r && !q) := by
  rw [upAll_bits]
  exact pre_all _ _ _ _ _ _ _ _ s q r
theorem pre_other : ∀ s q r : Bool, cookie_Prefix.f (⟨#[95, 95, 115, 101, 99, 117, 114, 101, 45, 120]⟩ : ByteArray) s (if r = true then (⟨#[47]⟩ : ByteArray) else ⟨#[47, 97]⟩) q = some s := by decide +kernel
theorem pre_x : ∀ s q r : Bool, cookie_Prefix.f ((⟨#[120]⟩ : ByteArray) ++ (⟨#[95, 95, 104, 111, 115, 116, 45, 120]⟩ : ByteArray)) s (if r = true then (⟨#[47]⟩ : ByteArray) else ⟨#[47, 97]⟩) q = some true := by decide +kernel
theorem pre_short : ∀ s q r : Bool, cookie_Prefix.f (⟨#[95, 95, 72, 111, 115, 116]⟩ : ByteArray) s (if r = true then (⟨#[47]⟩ : ByteArray) else ⟨#[47, 97]⟩) q = some true := by decide +kernel
set_option maxRecDepth 100000 in
set_option maxHeartbeats 2000000 in
theorem core (s q r : Bool) (A1 : Option Addr) (c1 : Nat) (g : List Bool) {W : World} (hr1 : Kd.C Kd.bool W A1 g.length g) (hc1 : g.length ≤ c1) (y1 : g.length ≤ 140737488351232) (hS : Sh W) :
    Calls Tryd.prog 7 #[.bool s, .bool q, .bool r, .slice A1 g.length c1] W fun e W' => e = .returned (.bool true) ∧ Below W.heap.size W W' := by
  have HB0 := hid (Below.refl W.heap.size W)
  go_enter Tryd.func7, Tryd.ntmps7
  have hcv := fun W : World => Lib.run_convert_string_bytes (P := Tryd.prog) W 9 23 5 (⟨#[95, 95, 104, 111, 115, 116, 45, 120]⟩ : ByteArray) Tryd.underlying9 Tryd.underlying23 Tryd.underlying5
  go_wp2_with fail
  clear hcv
  have HR := hid ((ByteRow.start W W (⟨#[95, 95, 104, 111, 115, 116, 45, 120]⟩ : ByteArray) HB0.out).congr (g := upTo g 0) (fun j hj => by unfold upTo; rw [if_neg (by omega)]; rfl))
  have HR : Hid (ByteRow W W.heap.size (Lib.bytesWorld W 5 (⟨#[95, 95, 104, 111, 115, 116, 45, 120]⟩ : ByteArray)) 8 (upTo g 0)) := HR
  generalize Lib.bytesWorld W 5 (⟨#[95, 95, 104, 111, 115, 116, 45, 120]⟩ : ByteArray) = W1 at HR ⊢
  generalize grownCap W 8 0 5 = cp at *
  generalize hbb : W.heap.size = b at *
  go_loopw [12] (fun i X => ∃ k : Nat, k ≤ 8 ∧ k ≤ g.length ∧ i = .int .i64 k ∧ ByteRow W b X 8 (upTo g k)) (fun i _ => 8 - (RowKit.intOf i).toNat)
  case atStart => exact ⟨0, by omega, Nat.zero_le _, rfl, HR.out⟩
  case round =>
    clear HR
    obtain ⟨k, hk, hkg, rfl, hR⟩ := hrel
    have HR := hid hR
    clear hR
    by_cases hgo : k < 8 ∧ k < g.length
    · obtain ⟨hlt, hlg⟩ := hgo
      obtain ⟨ad, rfl, hgc⟩ := Kd.at_bool (Kd.C_below hr1 HR.out.below) (k : Int) (by omega) (by omega)
      have hgv : rdOf false g (k : Int) = g.getD k false := by unfold rdOf; rw [Int.toNat_natCast]
      rw [hgv, Int.toNat_natCast] at hgc
      clear hgv
      have hcell := HR.out.cell k hlt
      have hfree := HR.out.free k hlt
      have hlow : upTo g k k = hostL.getD k 0 := by unfold upTo; rw [if_neg (by omega)]
      rw [hlow] at hcell
      have HUP : Hid (∀ q : Bool, g.getD k false = q → ∀ j, j < 8 → (if j = k then upB q (hostL.getD k 0) else upTo g k j) = upTo g (k + 1) j) := hid (fun q hq j _ => by rw [upTo_step, hq])
      have hc8 := (hostL.getD k 0).toNat_lt
      cases hq : g.getD k false with
      | true =>
        rw [hq] at hgc
        by_cases h97 : 97 ≤ ((hostL.getD k 0).toNat : Int)
        · have hval : ((hostL.getD k 0).toNat : Int) - 32 = ((upB true (hostL.getD k 0)).toNat : Int) := by
            unfold upB; rw [if_pos ⟨rfl, by omega⟩, UInt8.toNat_ofNat']; omega
          have HP := hid ((HR.out.put hlt (upB true (hostL.getD k 0)) _ hval).congr (HUP.out true hq))
          clear HUP hq hval hlow
          generalize hostL.getD k 0 = c at *
          go_wp2
          go_roundw
          case rel => exact ⟨k + 1, by omega, by omega, by go_num, HP.out⟩
          case measure => simp [RowKit.intOf]; omega
        · have HP := hid (HR.out.congr (fun j hj => (show upTo g k j = upTo g (k + 1) j by
            rw [← HUP.out true hq j hj]
            by_cases e : j = k
            · subst e; rw [if_pos rfl, hlow]; unfold upB; rw [if_neg (fun h => by omega)]
            · rw [if_neg e])))
          clear HUP hq hlow
          generalize hostL.getD k 0 = c at *
          go_wp2
          go_roundw
          case rel => exact ⟨k + 1, by omega, by omega, by go_num, HP.out⟩
          case measure => simp [RowKit.intOf]; omega
      | false =>
        rw [hq] at hgc
        have HP := hid (HR.out.congr (fun j hj => (show upTo g k j = upTo g (k + 1) j by
          rw [← HUP.out false hq j hj]
          by_cases e : j = k
          · subst e; rw [if_pos rfl, hlow]; unfold upB; rw [if_neg (fun h => by cases h.1)]
          · rw [if_neg e])))
        clear HUP hq hlow
        generalize hostL.getD k 0 = c at *
        go_wp2
        go_roundw
        case rel => exact ⟨k + 1, by omega, by omega, by go_num, HP.out⟩
        case measure => simp [RowKit.intOf]; omega
    · have hmin : min 8 g.length = k := by omega
      have HTX : Hid (∀ X, ByteRow W b X 8 (upTo g k) → (convert 23 9 (.slice (some ⟨b, 0, none⟩) 8 cp)).run Tryd.prog X = .ok (.string (mkS (upAll g))) X) :=
        hid (fun X h => h.text cp (upAll g) (by simp [upAll]) (fun j hj => by unfold upAll; rw [hmin]; simp [List.getD, hj]))
      have HP := HR
      clear HR
      have HU := hid (up_same g s q r)
      have HO := hid (pre_other s q r)
      have HX := hid (pre_x s q r)
      have HS := hid (pre_short s q r)
      generalize mkS (upAll g) = tx at *
      have hcases : (k < 8 → g.length ≤ k) := by omega
      clear hgo hmin hc1 y1
      have hk8 : (k < 8 ∧ ¬ k < g.length) ∨ ¬ k < 8 := by omega
      rcases hk8 with ⟨k1, k2⟩ | k1
      all_goals
        cases s <;> cases q <;> cases r
      all_goals
        go_wp2_with fail
        refine (known11_any _ (hS.of_below (by repeat (first | (with_reducible first | exact HP.out.below | apply below_alloc | apply pw_below_drewN | apply below_drew1) | exact HP.out.below)))).mono ?_
        rintro e w1 ⟨rfl, hb1⟩
        have HP := hid (HP.out.later hb1)
        clear hb1
        have ht1 := HTX.out w1 HP.out
        go_wp2_with fail
        clear ht1
        refine (cookie_Prefix.calls _ _ _ _ _ _ HU.out).mono ?_
        rintro e w2 ⟨rfl, hb2⟩
        have HP := hid (HP.out.later hb2)
        clear hb2
        go_wp2_with fail
        refine (cookie_Prefix.calls _ _ _ _ _ _ HO.out).mono ?_
        rintro e w3 ⟨rfl, hb3⟩
        have HP := hid (HP.out.later hb3)
        clear hb3
        go_wp2_with fail
        refine (cookie_Prefix.calls _ _ _ _ _ _ HX.out).mono ?_
        rintro e w4 ⟨rfl, hb4⟩
        have HP := hid (HP.out.later hb4)
        clear hb4
        go_wp2_with fail
        refine (cookie_Prefix.calls _ _ _ _ _ _ HS.out).mono ?_
        rintro e w5 ⟨rfl, hb5⟩
        have HP := hid (HP.out.later hb5)
        clear hb5
        go_wp2
        go_ret
        exact ⟨rfl, by first | exact HP.out.below | (rw [← hbb]; exact HP.out.below) | (have := HP.out.below; rw [hbb] at this; exact this)⟩
theorem walk (s q r : Bool) (A1 : Option Addr) (c1 : Nat) (g : List Bool) {W : World} (hr1 : Kd.C Kd.bool W A1 g.length g) (hc1 : g.length ≤ c1) (y1 : g.length ≤ 140737488351232) (W2 : World) (e : W2 = W) (hS : Sh W) :
    Calls Tryd.prog 7 #[.bool s, .bool q, .bool r, .slice A1 g.length c1] W fun e W' => e = .returned (.bool true) ∧ Below W.heap.size W W' :=
  core s q r A1 c1 g hr1 hc1 y1 hS
end Go.Proofs.YtipbgnhhmgljnaaDoor.cookieHost
namespace Go.Proofs.YtipbgnhhmgljnaaDoor.cookieHost
open Go.ChangeShapes Go.WideShapes Go.ChangeAt Go.RowKit Go.Proofs.YtipbgnhhmgljnaaDoorW Go.Proofs.YtipbgnhhmgljnaaDoorW.PrintWords Go.Proofs.YtipbgnhhmgljnaaDoor.Pall
open Go.ChangeMaps (open_string shut_string)
set_option linter.unusedVariables false
theorem own : ownKnob Tryd.prog.godebug = none := by kernel_rfl
theorem laidOut : laidOutB Tryd.prog = true := by kernel_rfl
set_option maxRecDepth 100000 in
theorem lifted (os : Os) (started : os.Started) (H : Type) (enc : TypeId × Value → H) :
    ReturnsInHanded {} Tryd.checked os 7 .any (fun w args => (Rows.cookieHostSpec.pre enc Tryd.prog Tryd.f7 [] false w args ∧ laidMetH Tryd.prog Rows.cookieHostRow.laid w) ∧ sizedMet enc Tryd.prog Tryd.f7 (OpenSpec.ofChange Rows.cookieHostSpec) false w args)
      (Rows.cookieHostSpec.post enc Tryd.prog Tryd.f7 false true false false) := by
  refine law_lifted (C := Tryd.checked) (rt := 4) (L := Rows.cookieHostRow.laid) own started (by kernel_rfl) Tryd.func7 laidOut (by kernel_rfl) rfl rfl (by rfl) Tryd.underlying4 ?_ (ChangeSpec.witness_shaped (enc := enc) (C := Tryd.checked) (os := os) (X := fun w _ => laidMetH Tryd.prog Rows.cookieHostRow.laid w) false (World.laidAll Tryd.prog os Rows.cookieHostRow.laid) #[.bool false, .bool false, .bool false, .slice none 0 0] 8 (World.laidAll_os _ _ _)
    (World.shaped_of_ZipB (by kernel_rfl) (by kernel_rfl)) (by kernel_rfl) (by kernel_rfl) (by kernel_rfl) (by rw [MakeChecks.laidMetH_plain _ _ _ (by kernel_rfl)]; exact laidMet_laidAll _ (by kernel_rfl) (by kernel_rfl))) ?_
  · intro ds hds
    have hds : ds.length = 4 := hds
    match ds, hds with
    | [_, _, _, _], _ => rfl
  intro W base args ds ps hval0 hA0 hsz0 hL hsh
  have hS : Sh W := sh_of hsh hL (by kernel_rfl) 2 rfl
  have hval : ∀ (j : Nat) t v, Tryd.f7.params[j]? = some t → args[j]? = some v → Value.okWide Tryd.prog W .any base t v := hval0
  have hA : DataW.TrodAll enc Tryd.prog W 0 (fun _ => true) true Tryd.f7.params.toList args.toList ds ps := hA0
  have hsz : (DataW.weightsEach Tryd.prog Tryd.f7.params.toList ds).all (· ≤ reachBytes) = true := hsz0
  rw [Tryd.params7] at hA hval hsz
  obtain ⟨v0, vs0, d0, ds0, p0, q0, hargs, rfl, rfl, h0, r0⟩ := trodAll_cons hA
  obtain ⟨v1, vs1, d1, ds1, p1, q1, rfl, rfl, rfl, h1, r1⟩ := trodAll_cons r0
  obtain ⟨v2, vs2, d2, ds2, p2, q2, rfl, rfl, rfl, h2, r2⟩ := trodAll_cons r1
  obtain ⟨v3, vs3, d3, ds3, p3, q3, rfl, rfl, rfl, h3, r3⟩ := trodAll_cons r2
  obtain ⟨rfl, rfl, rfl⟩ := trodAll_nil r3
  obtain rfl : args = #[v0, v1, v2, v3] := by cases args; simp_all
  obtain ⟨a0, rfl, rfl, rfl⟩ := open_bool Tryd.underlying4 (hval 0 4 v0 rfl rfl) h0
  obtain ⟨a1, rfl, rfl, rfl⟩ := open_bool Tryd.underlying4 (hval 1 4 v1 rfl rfl) h1
  obtain ⟨a2, rfl, rfl, rfl⟩ := open_bool Tryd.underlying4 (hval 2 4 v2 rfl rfl) h2
  obtain ⟨A3, len3, cap3, rfl⟩ := okWide_slice Tryd.underlying44 (hval 3 44 v3 rfl rfl)
  obtain ⟨l3, rfl, hr3, hc3⟩ := bools_row Tryd.underlying44 Tryd.underlying4 (by kernel_rfl) h3
  have y3 : l3.length ≤ 140737488351232 := by have := slice_weight hsz (j := 3) (t := 44) rfl rfl Tryd.underlying44 h3; rw [show Tryd.prog.bytesOf 4 = 1 by kernel_rfl] at this; omega
  exact walk a0 a1 a2 A3 cap3 l3 hr3 hc3 y3 W rfl hS
theorem over : Rows.cookieHostRow.holds Tryd.pinned (OpenSpec.ofChange Rows.cookieHostSpec) :=
  OpenClaim.holds_of_wide 7 Tryd.f7 rfl rfl rfl rfl rfl rfl rfl ⟨rfl, rfl, rfl, rfl, rfl⟩ rfl rfl rfl rfl rfl (by kernel_rfl) Tryd.func7 (by kernel_rfl)
    (of_decide_eq_true (by kernel_rfl)) (by unfold Func.isWrapper; rw [if_neg (of_decide_eq_false (by kernel_rfl))]; exact ⟨rfl, rfl⟩)
    (fun os started H enc _ => lifted os started H enc)
theorem said : Rows.CookieHostSaid := over
theorem card : Rows.CookieHostCardSaid :=
  Claim7.holds_tied_plain_at .later [] [.data, .data, .data, .data, .pinned] true (true, "82b5f123bb936d0beffd2142160fa2ce6c33d3fa771e2f017819932a8649ff2e") false said (fun _ h => by cases h) (by kernel_rfl) (fun _ h => by cases h) cookieHost_row_tie rfl ⟨rfl, rfl⟩ (by kernel_rfl) rfl
    (fun f fn hf hfn => by
      obtain rfl : f = 7 := Option.some.inj ((show Tryd.prog.funcNamed "wicketman/wicketmanlaw11.CookieHost" = some 7 by kernel_rfl).symm.trans hf) |>.symm
      obtain rfl : fn = Tryd.f7 := (Option.some.inj (Tryd.func7.symm.trans hfn)).symm
      exact ⟨by kernel_rfl, fun j t ht => by
        rw [Tryd.params7] at ht
        have hm : t ∈ [4, 4, 4, 44] := by simpa using Array.mem_of_getElem? ht
        have hall : ([4, 4, 4, 44].all fun u => !Tryd.prog.wantsStandIn u) = true := by kernel_rfl
        exact (show Tryd.prog.wantsStandIn t = false by simpa using List.all_eq_true.1 hall t hm)⟩)
    (by kernel_rfl)
#print axioms card
end Go.Proofs.YtipbgnhhmgljnaaDoor.cookieHost
namespace Go.Proofs.YtipbgnhhmgljnaaDoor
/-- The card, under a short name, for the claim. -/
theorem cookieHost_card : Rows.CookieHostCardSaid := cookieHost.card
end Go.Proofs.YtipbgnhhmgljnaaDoor

