/-
  CookieBack: for every choices the law returns true.
-/
import Derived.Test.YtipbgnhhmgljnaaDoorPl11f
import Derived.Test.YtipbgnhhmgljnaaDoorRow
import Derived.Test.YtipbgnhhmgljnaaDoorTie
import Derived.Test.YtipbgnhhmgljnaaDoorCards
import Derived.Test.YtipbgnhhmgljnaaDoorPall17
namespace Go.Proofs.YtipbgnhhmgljnaaDoor.cookieBack
open Go.RowKit Go.Proofs.YtipbgnhhmgljnaaDoor.Pall Go.Proofs.YtipbgnhhmgljnaaDoor.Split Go.Proofs.YtipbgnhhmgljnaaDoor.Pl Go.Proofs.YtipbgnhhmgljnaaDoorW.PrintWords
set_option linter.unusedVariables false
set_option linter.unusedSimpArgs false
def dB (n : Int) : UInt8 := dgt (n.toNat % 16)
def vL (l : List Int) : List UInt8 := (l.take 64).map dB
def cP (n : Int) : List UInt8 × List UInt8 := ([99, UInt8.ofNat (97 + n.toNat % 26)], [49])
def othP (n : Int) : List UInt8 := pcL (cP n) ++ [59, 32]
theorem cP_good (n : Int) : goodP (cP n) ∧ mkS (cP n).1 ≠ nameB := by
  refine ⟨⟨?_, show octL [49] = true by decide +kernel⟩, ?_⟩
  · have hall : ∀ j, j < 26 → tokL [99, UInt8.ofNat (97 + j)] = true := by decide +kernel
    exact hall _ (Nat.mod_lt _ (by omega))
  · intro e
    have := congrArg ByteArray.size e
    exact absurd this (by show ¬ 2 = 9; decide)
theorem vL_oct (l : List Int) : octL (vL l) = true := by
  unfold octL vL; rw [List.all_map, List.all_eq_true]; intro x _; exact dgt_oct _ (Nat.mod_lt _ (by omega))
theorem vL_len (l : List Int) : (vL l).length ≤ 64 := by unfold vL; rw [List.length_map, List.length_take]; omega
theorem dB_ext (n : Int) (h : 0 ≤ n) : (⟨#[48, 49, 50, 51, 52, 53, 54, 55, 56, 57, 97, 98, 99, 100, 101, 102]⟩ : ByteArray).extract (n % 16).toNat ((n % 16 + 1) % 256).toNat = mkB [dB n] := by
  have h1 : (n % 16).toNat = n.toNat % 16 := by omega
  have h2 : ((n % 16 + 1) % 256).toNat = n.toNat % 16 + 1 := by omega
  rw [h1, h2]
  exact dgt_ext _ (Nat.mod_lt _ (by omega))
theorem flat_map (l : List Int) : l.flatMap (fun n => [dB n]) = l.map dB := by
  induction l with
  | nil => rfl
  | cons a l ih => rw [List.flatMap_cons, List.map_cons, ih]; rfl
/-- others, then the session's -/
def one (v : List UInt8) : List UInt8 := pcL (nameL, v)
theorem oth_join (l : List Int) (v : List UInt8) : l.flatMap othP ++ one v = joinS ((l.map cP).map pcL ++ [one v]) := by
  have h := join_ends (fun n => pcL (cP n)) l (one v)
  rw [List.map_map]
  exact h.symm
theorem fine (l : List Int) (v : List UInt8) (hv : octL v = true) : sessS [mkS (l.flatMap othP ++ one v)] = (mkS v, true) := by
  rw [oth_join]
  exact sess_single (l.map cP) (fun p hp => by obtain ⟨x, hx, rfl⟩ := List.mem_map.1 hp; exact cP_good x) _ hv
theorem twice (l : List Int) (v : List UInt8) (hv : octL v = true) : sessS [mkS (l.flatMap othP ++ one v), mkS (one v)] = (⟨#[]⟩, false) := by
  apply sess_two _ (0, ⟨#[]⟩)
  have h1 := parse_good [(nameL, v)] (by simp) (fun p hp => by rw [List.mem_singleton.1 hp]; exact ⟨show tokL nameL = true by decide +kernel, hv⟩)
  have h1 : parseS (mkS (one v)) = ([⟨mkS nameL, mkS v⟩], true) := h1
  have h := parse_good (l.map cP ++ [(nameL, v)]) (by simp) (fun p hp => by
    rcases List.mem_append.1 hp with h | h
    · obtain ⟨x, hx, rfl⟩ := List.mem_map.1 h; exact (cP_good x).1
    · rw [List.mem_singleton.1 h]; exact ⟨show tokL nameL = true by decide +kernel, hv⟩)
  rw [List.map_append, List.map_append] at h
  have h : parseS (mkS (joinS ((l.map cP).map pcL ++ [one v]))) = _ := h
  rw [oth_join, List.foldl_cons, List.foldl_cons, List.foldl_nil]
  unfold sessF
  rw [h, h1, List.foldl_append, sess_others (l.map cP) (fun p hp => by obtain ⟨x, hx, rfl⟩ := List.mem_map.1 hp; exact (cP_good x).2)]
  simp only [List.map_cons, List.map_nil, List.foldl_cons, List.foldl_nil, sess_name]
  decide
theorem plain (l : List Int) (a : Nat) (l2 : List Int) (hb : ∀ x ∈ l, 0 ≤ x ∧ x ≤ 255) (hb2 : ∀ x ∈ l2, 0 ≤ x ∧ x ≤ 255) (hl : l.length ≤ 9223372036854775806) (hl2 : l2.length ≤ 9223372036854775806) (ha : a ≤ 4294967295) :
    Ev (fun k => wicketmanlaw11_CookieBack.f k l (a : Int) l2) true := by
  refine ev_build (fun k s i => wicketmanlaw11_CookieBack.l0 k l (a : Int) l2 s (i : Nat)) (fun k s => wicketmanlaw11_CookieBack.j1 k (a : Int) l2 s) l 64 1 (fun n => [dB n]) (fun x _ => by simp) ?_ ?_ ?_
  · intro k s i hi h64 hs
    have hx := hb _ (getD_mem0 l 0 hi)
    have he := dB_ext _ hx.1
    have hz : (mkB [dB (l.getD i 0)]).size = 1 := rfl
    simp only [wicketmanlaw11_CookieBack.l0]
    rw [rd_at, tmod_pos _ hx.1]
    rw [if_pos (by omega), if_pos (by omega), if_pos (by omega), if_pos (by omega), if_pos (by omega), if_pos (by omega), he, if_pos (by rw [hz]; omega), wrap_id (by omega) (by omega)]
    rfl
  · intro k s i hil hi hstop hs
    simp only [wicketmanlaw11_CookieBack.l0]
    by_cases h : (i : Int) < (l.length : Int)
    · rw [if_pos h, if_neg (by omega)]
    · rw [if_neg h]
  rw [flat_map]
  have hvo := vL_oct l
  have hvl := vL_len l
  show Ev (fun k => wicketmanlaw11_CookieBack.j1 k (a : Int) l2 (mkS (vL l))) true
  generalize vL l = v at *
  have hu : a % 1000000000 ≤ 999999999 := by omega
  have hw : wrap64 (Int.tmod (a : Int) 1000000000) = ((a % 1000000000 : Nat) : Int) := by rw [tmod_pos _ (by omega), wrap_id (by omega) (by omega)]; omega
  generalize a % 1000000000 = u at *
  have hnm : (⟨#[95, 95, 72, 111, 115, 116, 45, 105, 100]⟩ : ByteArray) = mkS nameL := rfl
  have hset : cookie_Set.f (mkS nameL) (mkS v) (u : Int) = some (mkS (setL nameL v u), 0) := by
    rw [set_ev _ _ _ (by decide) (by rw [mkS_size]; omega), setS_good _ _ _ (by decide +kernel) hvo hu]
  obtain ⟨K, hK⟩ : Ev (fun k => wicketmanlaw11_CookieBack.l1 k l2 (mkS v) (u : Int) 0 (u : Int) true (⟨#[]⟩ : ByteArray) ((0 : Nat) : Int) (mkS nameL) (mkS v) (mkS nameL) (mkS v)) true := by
    refine ev_build (fun k s i => wicketmanlaw11_CookieBack.l1 k l2 (mkS v) (u : Int) 0 (u : Int) true s (i : Nat) (mkS nameL) (mkS v) (mkS nameL) (mkS v)) (fun k s => wicketmanlaw11_CookieBack.l1 (k + 1) [] (mkS v) (u : Int) 0 (u : Int) true s ((0 : Nat) : Int) (mkS nameL) (mkS v) (mkS nameL) (mkS v)) l2 5 6 othP (fun x _ => by simp [othP, pcL, cP]) ?_ ?_ ?_
    · intro k s i hi h5 hs
      have hx := hb2 _ (getD_mem0 l2 0 hi)
      have e0 : (97 + Int.tmod (rd l2 (i : Nat)) 26) % 256 = (((97 + (l2.getD i 0).toNat % 26) : Nat) : Int) := by rw [rd_at, tmod_pos _ hx.1]; omega
      have e1 : strOfNums [(((97 + (l2.getD i 0).toNat % 26) : Nat) : Int)] = mkS [UInt8.ofNat (97 + (l2.getD i 0).toNat % 26)] := Split.ba_ext rfl
      have hz : ∀ c : UInt8, (mkS [c]).size = 1 := fun _ => rfl
      simp only [wicketmanlaw11_CookieBack.l1, e0, e1]
      rw [if_pos (by omega), if_pos (by omega), if_pos (by omega), if_pos (by omega)]
      simp only [Option.bind_some, e1]
      rw [if_pos (by rw [ByteArray.size_append, hz]; show s.size + 1 + 1 ≤ _; omega), if_pos (by rw [ByteArray.size_append, ByteArray.size_append, hz]; show s.size + 1 + 1 + 4 ≤ _; omega), wrap_id (by omega) (by omega)]
      have e : s ++ (⟨#[99]⟩ : ByteArray) ++ mkS [UInt8.ofNat (97 + (l2.getD i 0).toNat % 26)] ++ (⟨#[61, 49, 59, 32]⟩ : ByteArray) = s ++ mkB (othP (l2.getD i 0)) := Split.ba_ext (by simp [mkS, mkB, othP, pcL, cP])
      rw [e]; rfl
    · intro k s i hil hi hstop hs
      simp only [wicketmanlaw11_CookieBack.l1]
      rw [if_neg (show ¬ ((0 : Nat) : Int) < (([] : List Int).length : Int) by simp)]
      by_cases h : (i : Int) < (l2.length : Int)
      · rw [if_pos h, if_neg (by omega)]
      · rw [if_neg h]
    have hoth : ((l2.take 5).flatMap othP).length ≤ 30 := by
      have := flat_le othP 6 (l2.take 5) (fun x _ => by simp [othP, pcL, cP])
      rw [List.length_take] at this; omega
    have t1 := fine (l2.take 5) v hvo
    have t2 := twice (l2.take 5) v hvo
    show Ev (fun k => wicketmanlaw11_CookieBack.l1 (k + 1) [] (mkS v) (u : Int) 0 (u : Int) true (mkS ((l2.take 5).flatMap othP)) ((0 : Nat) : Int) (mkS nameL) (mkS v) (mkS nameL) (mkS v)) true
    generalize (l2.take 5).flatMap othP = o at *
    have hs : ∀ l : List UInt8, (mkS l).size = l.length := mkS_size
    have e1 : mkS o ++ (⟨#[95, 95, 72, 111, 115, 116, 45, 105, 100, 61]⟩ : ByteArray) ++ mkS v = mkS (o ++ one v) := Split.ba_ext (by simp [mkS, one, pcL, nameL])
    have e2 : (⟨#[95, 95, 72, 111, 115, 116, 45, 105, 100, 61]⟩ : ByteArray) ++ mkS v = mkS (one v) := Split.ba_ext (by simp [mkS, one, pcL, nameL])
    have hone : (one v).length = 10 + v.length := by simp [one, pcL, nameL]; omega
    have z1 : (mkS (o ++ one v)).size ≤ 1000000 := by rw [hs, List.length_append]; omega
    have z2 : (mkS (one v)).size ≤ 1000000 := by rw [hs]; omega
    refine Ev.congr (f := fun _ => some true) (fun k => ?_) (Ev.now _)
    simp only [wicketmanlaw11_CookieBack.l1]
    rw [if_neg (show ¬ ((0 : Nat) : Int) < (([] : List Int).length : Int) by simp), e1, e2]
    rw [if_pos (by rw [hs]; omega), if_pos (by rw [ByteArray.size_append, hs, hs]; show _ + 10 + _ ≤ _; omega)]
    rw [session_f [mkS (o ++ one v)] (by simp) (by intro x hx; rw [List.mem_singleton.1 hx]; exact z1), t1]
    simp only [Option.bind_some]
    rw [if_pos (by rw [hs]; omega), session_f _ (by simp) (by intro x hx; simp at hx; rcases hx with rfl | rfl; exact z1; exact z2), t2, known11_true]
    simp
  refine ⟨K + 2, fun k hk => ?_⟩
  obtain ⟨k, rfl⟩ : ∃ m, k = m + 2 := ⟨k - 2, by omega⟩
  simp only [wicketmanlaw11_CookieBack.j1]
  rw [hw, hnm, hset]
  simp only [Option.bind_some]
  rw [read_good k nameL v u (by decide +kernel) hvo hu (by show 9 + _ ≤ _; omega)]
  simp only [Option.bind_some]
  exact hK (k + 1) (by omega)
theorem walk (A0 : Option Addr) (c0 : Nat) (l0 : List Int) {W : World} (hr0 : Kd.C (Kd.int .u8) W A0 l0.length l0) (hc0 : l0.length ≤ c0) (hw0 : ∀ x ∈ l0, (Lit.int .u8 x).wf = true) (y0 : l0.length ≤ 140737488351232)
    (a1 : Int) (w1 : (Lit.int .u32 a1).wf = true) (A2 : Option Addr) (c2 : Nat) (l2 : List Int) (hr2 : Kd.C (Kd.int .u8) W A2 l2.length l2) (hc2 : l2.length ≤ c2) (hw2 : ∀ x ∈ l2, (Lit.int .u8 x).wf = true) (y2 : l2.length ≤ 140737488351232) (W' : World) (e : W' = W) (hS : Sh W) :
    Calls Tryd.prog 8 #[.slice A0 l0.length c0, .int .u32 a1, .slice A2 l2.length c2] W fun e W' => e = .returned (.bool true) ∧ Below W.heap.size W W' := by
  simp [Lit.wf, IntKind.min, IntKind.max, IntKind.signed, IntKind.bits] at w1
  obtain ⟨n1, rfl⟩ := Int.eq_ofNat_of_zero_le w1.1
  obtain ⟨k, hk⟩ := (plain l0 n1 l2 (u8s_of_wf hw0) (u8s_of_wf hw2) (by omega) (by omega) (by omega)).rounds
  exact wicketmanlaw11_CookieBack.calls k A0 c0 l0 n1 A2 c2 l2 true W hr0 hc0 hr2 hc2 hS (Aside0.mk rfl) hk
end Go.Proofs.YtipbgnhhmgljnaaDoor.cookieBack
namespace Go.Proofs.YtipbgnhhmgljnaaDoor.cookieBack
open Go.ChangeShapes Go.WideShapes Go.ChangeAt Go.RowKit Go.Proofs.YtipbgnhhmgljnaaDoorW Go.Proofs.YtipbgnhhmgljnaaDoorW.PrintWords Go.Proofs.YtipbgnhhmgljnaaDoor.Pall
open Go.ChangeMaps (open_string shut_string)
set_option linter.unusedVariables false
theorem own : ownKnob Tryd.prog.godebug = none := by kernel_rfl
theorem laidOut : laidOutB Tryd.prog = true := by kernel_rfl
set_option maxRecDepth 100000 in
theorem lifted (os : Os) (started : os.Started) (H : Type) (enc : TypeId × Value → H) :
    ReturnsInHanded {} Tryd.checked os 8 .any (fun w args => (Rows.cookieBackSpec.pre enc Tryd.prog Tryd.f8 [] false w args ∧ laidMetH Tryd.prog Rows.cookieBackRow.laid w) ∧ sizedMet enc Tryd.prog Tryd.f8 (OpenSpec.ofChange Rows.cookieBackSpec) false w args)
      (Rows.cookieBackSpec.post enc Tryd.prog Tryd.f8 false true false false) := by
  refine law_lifted (C := Tryd.checked) (rt := 4) (L := Rows.cookieBackRow.laid) own started (by kernel_rfl) Tryd.func8 laidOut (by kernel_rfl) rfl rfl (by rfl) Tryd.underlying4 ?_ (ChangeSpec.witness_shaped (enc := enc) (C := Tryd.checked) (os := os) (X := fun w _ => laidMetH Tryd.prog Rows.cookieBackRow.laid w) false (World.laidAll Tryd.prog os Rows.cookieBackRow.laid) #[.slice none 0 0, .int .u32 0, .slice none 0 0] 8 (World.laidAll_os _ _ _)
    (World.shaped_of_ZipB (by kernel_rfl) (by kernel_rfl)) (by kernel_rfl) (by kernel_rfl) (by kernel_rfl) (by rw [MakeChecks.laidMetH_plain _ _ _ (by kernel_rfl)]; exact laidMet_laidAll _ (by kernel_rfl) (by kernel_rfl))) ?_
  · intro ds hds
    have hds : ds.length = 3 := hds
    match ds, hds with
    | [_, _, _], _ => rfl
  intro W base args ds ps hval0 hA0 hsz0 hL hsh
  have hS : Sh W := sh_of hsh hL (by kernel_rfl) 2 rfl
  have hval : ∀ (j : Nat) t v, Tryd.f8.params[j]? = some t → args[j]? = some v → Value.okWide Tryd.prog W .any base t v := hval0
  have hA : DataW.TrodAll enc Tryd.prog W 0 (fun _ => true) true Tryd.f8.params.toList args.toList ds ps := hA0
  have hsz : (DataW.weightsEach Tryd.prog Tryd.f8.params.toList ds).all (· ≤ reachBytes) = true := hsz0
  rw [Tryd.params8] at hA hval hsz
  obtain ⟨v0, vs0, d0, ds0, p0, q0, hargs, rfl, rfl, h0, r0⟩ := trodAll_cons hA
  obtain ⟨v1, vs1, d1, ds1, p1, q1, rfl, rfl, rfl, h1, r1⟩ := trodAll_cons r0
  obtain ⟨v2, vs2, d2, ds2, p2, q2, rfl, rfl, rfl, h2, r2⟩ := trodAll_cons r1
  obtain ⟨rfl, rfl, rfl⟩ := trodAll_nil r2
  obtain rfl : args = #[v0, v1, v2] := by cases args; simp_all
  obtain ⟨A0, len0, cap0, rfl⟩ := okWide_slice Tryd.underlying23 (hval 0 23 v0 rfl rfl)
  obtain ⟨z0, w0⟩ := ints_row Tryd.underlying23 Tryd.underlying5 (by kernel_rfl) h0
  have y0 : len0 * 1 ≤ 140737488351232 := PrintWords.sized_ints hsz (j := 0) (t := 23) rfl rfl Tryd.underlying23 Tryd.underlying5 (by kernel_rfl) (by kernel_rfl) h0
  obtain ⟨l0, rfl, hr0, hm0, hw0, hc0⟩ := ReadsInt.ofRowC w0
  obtain ⟨a1, rfl, rfl, rfl, w1⟩ := open_int Tryd.underlying47 (hval 1 47 v1 rfl rfl) h1
  obtain ⟨A2, len2, cap2, rfl⟩ := okWide_slice Tryd.underlying23 (hval 2 23 v2 rfl rfl)
  obtain ⟨z2, w2⟩ := ints_row Tryd.underlying23 Tryd.underlying5 (by kernel_rfl) h2
  have y2 : len2 * 1 ≤ 140737488351232 := PrintWords.sized_ints hsz (j := 2) (t := 23) rfl rfl Tryd.underlying23 Tryd.underlying5 (by kernel_rfl) (by kernel_rfl) h2
  obtain ⟨l2, rfl, hr2, hm2, hw2, hc2⟩ := ReadsInt.ofRowC w2
  exact walk A0 cap0 l0 (Kd.C_of_reads (d := (0 : Int)) (h1 := fun _ => rfl) hr0) hc0 hw0 (by omega) a1 w1 A2 cap2 l2 (Kd.C_of_reads (d := (0 : Int)) (h1 := fun _ => rfl) hr2) hc2 hw2 (by omega) W rfl hS
theorem over : Rows.cookieBackRow.holds Tryd.pinned (OpenSpec.ofChange Rows.cookieBackSpec) :=
  OpenClaim.holds_of_wide 8 Tryd.f8 rfl rfl rfl rfl rfl rfl rfl ⟨rfl, rfl, rfl, rfl, rfl⟩ rfl rfl rfl rfl rfl (by kernel_rfl) Tryd.func8 (by kernel_rfl)
    (of_decide_eq_true (by kernel_rfl)) (by unfold Func.isWrapper; rw [if_neg (of_decide_eq_false (by kernel_rfl))]; exact ⟨rfl, rfl⟩)
    (fun os started H enc _ => lifted os started H enc)
theorem said : Rows.CookieBackSaid := over
theorem card : Rows.CookieBackCardSaid :=
  Claim7.holds_tied_plain_at .later [] [.data, .data, .data, .data, .pinned] true (true, "82b5f123bb936d0beffd2142160fa2ce6c33d3fa771e2f017819932a8649ff2e") false said (fun _ h => by cases h) (by kernel_rfl) (fun _ h => by cases h) cookieBack_row_tie rfl ⟨rfl, rfl⟩ (by kernel_rfl) rfl
    (fun f fn hf hfn => by
      obtain rfl : f = 8 := Option.some.inj ((show Tryd.prog.funcNamed "wicketman/wicketmanlaw11.CookieBack" = some 8 by kernel_rfl).symm.trans hf) |>.symm
      obtain rfl : fn = Tryd.f8 := (Option.some.inj (Tryd.func8.symm.trans hfn)).symm
      exact ⟨by kernel_rfl, fun j t ht => by
        rw [Tryd.params8] at ht
        have hm : t ∈ [23, 47, 23] := by simpa using Array.mem_of_getElem? ht
        have hall : ([23, 47, 23].all fun u => !Tryd.prog.wantsStandIn u) = true := by kernel_rfl
        exact (show Tryd.prog.wantsStandIn t = false by simpa using List.all_eq_true.1 hall t hm)⟩)
    (by kernel_rfl)
#print axioms card
end Go.Proofs.YtipbgnhhmgljnaaDoor.cookieBack
namespace Go.Proofs.YtipbgnhhmgljnaaDoor
/-- The card, under a short name, for the claim. -/
theorem cookieBack_card : Rows.CookieBackCardSaid := cookieBack.card
end Go.Proofs.YtipbgnhhmgljnaaDoor

