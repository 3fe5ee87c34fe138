/-
  CookieSets: for every cookie, number, texts and choices the law returns true.
-/
import Derived.Test.YtipbgnhhmgljnaaDoorPl11g
import Derived.Test.YtipbgnhhmgljnaaDoorRow
import Derived.Test.YtipbgnhhmgljnaaDoorTie
import Derived.Test.YtipbgnhhmgljnaaDoorCards
import Derived.Test.YtipbgnhhmgljnaaDoorPall22
namespace Go.Proofs.YtipbgnhhmgljnaaDoor.cookieSets
open Go.RowKit Go.Proofs.YtipbgnhhmgljnaaDoor.Pall Go.Proofs.YtipbgnhhmgljnaaDoor.Split Go.Proofs.YtipbgnhhmgljnaaDoor.Pl Go.Proofs.YtipbgnhhmgljnaaDoorW.PrintWords
set_option linter.unusedVariables false
set_option linter.unusedSimpArgs false
def chB (c : Int) : Bool := if c ≥ 97 then (if c ≤ 122 then true else (if c ≥ 65 then (if c ≤ 90 then true else (if c ≥ 48 then (if c ≤ 57 then true else (if c = 45 then true else (if c = 46 then true else (if c = 95 then true else (c == 126))))) else (if c = 45 then true else (if c = 46 then true else (if c = 95 then true else (c == 126)))))) else (if c ≥ 48 then (if c ≤ 57 then true else (if c = 45 then true else (if c = 46 then true else (if c = 95 then true else (c == 126))))) else (if c = 45 then true else (if c = 46 then true else (if c = 95 then true else (c == 126))))))) else (if c ≥ 65 then (if c ≤ 90 then true else (if c ≥ 48 then (if c ≤ 57 then true else (if c = 45 then true else (if c = 46 then true else (if c = 95 then true else (c == 126))))) else (if c = 45 then true else (if c = 46 then true else (if c = 95 then true else (c == 126)))))) else (if c ≥ 48 then (if c ≤ 57 then true else (if c = 45 then true else (if c = 46 then true else (if c = 95 then true else (c == 126))))) else (if c = 45 then true else (if c = 46 then true else (if c = 95 then true else (c == 126))))))
theorem esc_l0 (k : Nat) (s out : ByteArray) (i : Nat) (h : i < s.size) : wicketmanref07_Escape.l0 (k + 1) s out (i : Nat) = wicketmanref07_Escape.j1 k s out (i : Nat) (bt s (i : Nat)) (chB (bt s (i : Nat))) := by
  simp only [wicketmanref07_Escape.l0]
  rw [if_pos (by omega), if_pos (by omega)]
  unfold chB
  simp only [apply_ite (wicketmanref07_Escape.j1 k s out (i : Nat) (bt s (i : Nat)))]
theorem up_one (n : Nat) (h : n < 16) : ((⟨#[48, 49, 50, 51, 52, 53, 54, 55, 56, 57, 65, 66, 67, 68, 69, 70]⟩ : ByteArray).extract n (n + 1)).size = 1 := by
  rw [ByteArray.size_extract]; show min (n + 1) 16 - n = 1; omega
theorem esc_loop (s : ByteArray) (hs : s.size ≤ 1000000) : ∀ d i (out : ByteArray), s.size - i = d → i ≤ s.size → out.size ≤ 3 * i → ∃ r : ByteArray, r.size ≤ 3 * s.size ∧ Ev (fun k => wicketmanref07_Escape.l0 k s out (i : Nat)) r := by
  intro d
  induction d with
  | zero =>
    intro i out hd hi ho
    refine ⟨out, by omega, Ev.step (f := fun _ => some out) (fun k => ?_) (Ev.now _)⟩
    simp only [wicketmanref07_Escape.l0]; rw [if_neg (by omega)]
  | succ d ih =>
    intro i out hd hi ho
    have hlt : i < s.size := by omega
    have hb := bt_nat s i hlt
    have hc := (s.data.toList.getD i 0).toNat_lt
    cases hch : chB (bt s (i : Nat)) with
    | true =>
      have hz : (s.extract i (i + 1)).size = 1 := by rw [ByteArray.size_extract]; omega
      obtain ⟨r, h1, h2⟩ := ih (i + 1) (out ++ s.extract i (i + 1)) (by omega) (by omega) (by rw [ByteArray.size_append, hz]; omega)
      refine ⟨r, h1, Ev.step (fun k => by rw [esc_l0 k s out i hlt, hch]) (Ev.step (fun k => ?_) h2)⟩
      simp only [wicketmanref07_Escape.j1]
      rw [if_pos trivial, wrap_id (by omega) (by omega), if_pos (by omega), if_pos (by omega), if_pos (by omega), Int.toNat_natCast, show ((i : Int) + 1).toNat = i + 1 by omega, if_pos (by rw [hz]; omega)]
      rfl
    | false =>
      by_cases h32 : bt s (i : Nat) = 32
      · obtain ⟨r, h1, h2⟩ := ih (i + 1) (out ++ (⟨#[43]⟩ : ByteArray)) (by omega) (by omega) (by rw [ByteArray.size_append]; show out.size + 1 ≤ _; omega)
        refine ⟨r, h1, Ev.step (fun k => by rw [esc_l0 k s out i hlt, hch]) (Ev.step (fun k => ?_) h2)⟩
        simp only [wicketmanref07_Escape.j1]
        rw [if_neg (by decide), if_pos h32, wrap_id (by omega) (by omega), if_pos (by omega)]
        rfl
      · have e1 : (Int.tdiv (bt s (i : Nat)) 16) % 256 = (((s.data.toList.getD i 0).toNat / 16 : Nat) : Int) := by
          rw [hb, Int.tdiv_eq_ediv_of_nonneg (by omega)]; omega
        have e2 : Int.tmod (bt s (i : Nat)) 16 = (((s.data.toList.getD i 0).toNat % 16 : Nat) : Int) := by
          rw [hb, tmod_pos _ (by omega)]; omega
        have g1 : (s.data.toList.getD i 0).toNat / 16 < 16 := by omega
        have g2 : (s.data.toList.getD i 0).toNat % 16 < 16 := by omega
        generalize (s.data.toList.getD i 0).toNat / 16 = a at *
        generalize (s.data.toList.getD i 0).toNat % 16 = b at *
        have u1 := up_one a g1
        have u2 := up_one b g2
        have w1 : (((a : Int) + 1) % 256).toNat = a + 1 := by omega
        have w2 : (((b : Int) + 1) % 256).toNat = b + 1 := by omega
        obtain ⟨r, h1, h2⟩ := ih (i + 1) (((out ++ (⟨#[37]⟩ : ByteArray)) ++ (⟨#[48, 49, 50, 51, 52, 53, 54, 55, 56, 57, 65, 66, 67, 68, 69, 70]⟩ : ByteArray).extract a (a + 1)) ++ (⟨#[48, 49, 50, 51, 52, 53, 54, 55, 56, 57, 65, 66, 67, 68, 69, 70]⟩ : ByteArray).extract b (b + 1)) (by omega) (by omega) (by
          rw [ByteArray.size_append, ByteArray.size_append, ByteArray.size_append, u1, u2]; show out.size + 1 + 1 + 1 ≤ _; omega)
        refine ⟨r, h1, Ev.step (fun k => by rw [esc_l0 k s out i hlt, hch]) (Ev.step (fun k => ?_) h2)⟩
        simp only [wicketmanref07_Escape.j1]
        rw [if_neg (by decide), if_neg h32, e1, e2, wrap_id (by omega) (by omega), if_pos (by omega), if_pos (by omega), if_pos (by omega), if_pos (by omega), w1, w2, Int.toNat_natCast, Int.toNat_natCast,
          if_pos (by rw [ByteArray.size_append, u1]; show out.size + 1 + 1 ≤ _; omega), if_pos (by omega), if_pos (by omega), if_pos (by omega), if_pos (by rw [ByteArray.size_append, ByteArray.size_append, u1, u2]; show out.size + 1 + 1 + 1 ≤ _; omega)]
        rfl
theorem esc_ev (s : ByteArray) (hs : s.size ≤ 1000000) : ∃ r : ByteArray, r.size ≤ 3 * s.size ∧ Ev (fun k => wicketmanref07_Escape.f k s) r :=
  esc_loop s hs _ 0 _ rfl (by omega) (by show 0 ≤ _; omega)
def names : List ByteArray := [(⟨#[95, 95, 72, 111, 115, 116, 45, 105, 100]⟩ : ByteArray), (⟨#[95, 95, 104, 111, 115, 116, 45, 65]⟩ : ByteArray), (⟨#[95, 95, 83, 101, 99, 117, 114, 101, 45, 120]⟩ : ByteArray), (⟨#[95, 95, 83, 69, 67, 85, 82, 69, 45]⟩ : ByteArray), (⟨#[97]⟩ : ByteArray), (⟨#[95, 95, 72, 111, 115, 116]⟩ : ByteArray), (⟨#[]⟩ : ByteArray), (⟨#[98, 32, 99]⟩ : ByteArray)]
theorem names_len (n : Int) (h : 0 ≤ n ∧ n ≤ 255) : (rdOf ByteArray.empty names (n % 8)).size ≤ 10 := by
  have hall : ((List.range 256).all fun k => decide ((rdOf ByteArray.empty names ((k : Int) % 8)).size ≤ 10)) = true := by decide +kernel
  obtain ⟨k, rfl⟩ : ∃ k : Nat, n = k := ⟨n.toNat, by omega⟩
  simpa using List.all_eq_true.1 hall k (List.mem_range.2 (by omega))
theorem setS_size (n v : ByteArray) (t : Int) : (setS n v t).1.size ≤ n.size + v.size + 1100 := by
  unfold setS
  split
  · rename_i h
    have hi := itoa_small t h.2.2.1 h.2.2.2
    unfold setT
    simp only [ByteArray.size_append]
    have hsz : (⟨(Lib.itoa t).toArray⟩ : ByteArray).size = (Lib.itoa t).length := rfl
    have e1 : (⟨#[61]⟩ : ByteArray).size = 1 := rfl
    have e2 : (⟨#[59, 32]⟩ : ByteArray).size = 2 := rfl
    have e3 : (⟨#[77, 97, 120, 45, 65, 103, 101, 61]⟩ : ByteArray).size = 8 := rfl
    have e4 : restB.size = 43 := rfl
    omega
  · show 0 ≤ _; omega
theorem plain (a b : ByteArray) (t : Int) (s : ByteArray) (q : Bool) (p : ByteArray) (d : Bool) (l : List Int) (c : Int) (n : Int) (ha : a.size ≤ 140737488351232) (hb : b.size ≤ 140737488351232) (hs : s.size ≤ 140737488351232) (hp : p.size ≤ 140737488351232) (hl : ∀ x ∈ l, 0 ≤ x ∧ x ≤ 255) (hll : l.length ≤ 9223372036854775806) (hc : 0 ≤ c ∧ c ≤ 255) (hn : 0 ≤ n ∧ n ≤ 4294967295) :
    Ev (fun k => wicketmanlaw11_CookieSets.f k a b t s q p d l c n) true := by
  have hk : Ev (fun k => wicketmanlaw11_CookieSets.j0 k t s q p d l c n true a b) true := by
    refine Ev.step (f := fun _ => some true) (fun k => ?_) (Ev.now _)
    simp only [wicketmanlaw11_CookieSets.j0]
    rw [if_pos trivial, known11_true]; rfl
  unfold wicketmanlaw11_CookieSets.f
  rw [wrap_id (n := (a.size : Int) + (b.size : Int)) (by omega) (by omega), wrap_id (n := (a.size : Int) + (b.size : Int) + (s.size : Int)) (by omega) (by omega), wrap_id (by omega) (by omega)]
  by_cases hbig : (a.size : Int) + (b.size : Int) + (s.size : Int) + (p.size : Int) > 400
  · simp only [if_pos hbig]; exact hk
  simp only [if_neg hbig, known11_true, Option.bind_some]
  have hm : Int.tmod c 8 = c % 8 := tmod_pos _ hc.1 _
  have hnm := names_len c hc
  obtain ⟨e, he1, he2⟩ := esc_ev (lineS l) (by have := lineS_size l hl; omega)
  have hls := lineS_size l hl
  refine Ev.step (f := _) (fun k => by simp only [wicketmanlaw11_CookieSets.j0]; rw [if_neg (by decide)]) ?_
  have c1 : 0 ≤ c % 8 := by omega
  have c2 : c % 8 < (([(⟨#[95, 95, 72, 111, 115, 116, 45, 105, 100]⟩ : ByteArray), (⟨#[95, 95, 104, 111, 115, 116, 45, 65]⟩ : ByteArray), (⟨#[95, 95, 83, 101, 99, 117, 114, 101, 45, 120]⟩ : ByteArray), (⟨#[95, 95, 83, 69, 67, 85, 82, 69, 45]⟩ : ByteArray), (⟨#[97]⟩ : ByteArray), (⟨#[95, 95, 72, 111, 115, 116]⟩ : ByteArray), (⟨#[]⟩ : ByteArray), (⟨#[98, 32, 99]⟩ : ByteArray)] : List ByteArray).length : Int) := by show c % 8 < 8; omega
  have hw : wrap64 n = n := wrap_id (by omega) (by omega)
  simp only [Option.bind_some, hm, hw, if_pos c1, if_pos c2]
  refine Ev.bind (line_ev l hl hll) ?_
  refine Ev.bind he2 ?_
  have hnn : rdOf ByteArray.empty [(⟨#[95, 95, 72, 111, 115, 116, 45, 105, 100]⟩ : ByteArray), (⟨#[95, 95, 104, 111, 115, 116, 45, 65]⟩ : ByteArray), (⟨#[95, 95, 83, 101, 99, 117, 114, 101, 45, 120]⟩ : ByteArray), (⟨#[95, 95, 83, 69, 67, 85, 82, 69, 45]⟩ : ByteArray), (⟨#[97]⟩ : ByteArray), (⟨#[95, 95, 72, 111, 115, 116]⟩ : ByteArray), (⟨#[]⟩ : ByteArray), (⟨#[98, 32, 99]⟩ : ByteArray)] (c % 8) = rdOf ByteArray.empty names (c % 8) := rfl
  simp only [hnn]
  generalize rdOf ByteArray.empty names (c % 8) = nm at *
  have hss := setS_size nm e n
  refine Ev.bind (refSet nm e n (by omega) (by omega)) ?_
  refine Ev.bind (sets_true a b t ha hb) ?_
  simp only [if_true]
  refine Ev.bind (sets_true nm e t (by omega) (by omega)) ?_
  simp only [if_true]
  refine Ev.bind (sets_true nm e n (by omega) (by omega)) ?_
  simp only [if_true]
  refine Ev.bind (reads_true s (by omega)) ?_
  simp only [if_true]
  refine Ev.bind (reads_true _ (by omega)) ?_
  simp only [if_true, if_pos (show 14 + s.size ≤ 9223372036854775807 by omega)]
  refine Ev.bind (reads_true _ (by rw [ByteArray.size_append]; show 14 + _ ≤ _; omega)) ?_
  simp only [if_true]
  refine Ev.bind (prefix_true a q p d ha) ?_
  simp only [if_true]
  refine Ev.bind (prefix_true nm q _ d (by omega)) ?_
  simp only [if_true, if_pos (show nm.size + s.size ≤ 9223372036854775807 by omega)]
  refine Ev.bind (prefix_true _ q _ d (by rw [ByteArray.size_append]; omega)) ?_
  exact Ev.now _
theorem walk (a0 b0 : ByteArray) (w0 : a0.size ≤ 140737488351232) (x0 : b0.size ≤ 140737488351232) (a1 : Int) (w1 : (Lit.int .i64 a1).wf = true) (a2 : ByteArray) (w2 : a2.size ≤ 140737488351232) (a3 : Bool) (a4 : ByteArray) (w4 : a4.size ≤ 140737488351232) (a5 : Bool)
    (A6 : Option Addr) (c6 : Nat) (l6 : List Int) {W : World} (hr6 : Kd.C (Kd.int .u8) W A6 l6.length l6) (hc6 : l6.length ≤ c6) (hw6 : ∀ x ∈ l6, (Lit.int .u8 x).wf = true) (y6 : l6.length ≤ 140737488351232)
    (a7 : Int) (w7 : (Lit.int .u8 a7).wf = true) (a8 : Int) (w8 : (Lit.int .u32 a8).wf = true) (W' : World) (e : W' = W) (hS : Sh W) :
    Calls Tryd.prog 9 #[.agg #[.string a0, .string b0], .int .i64 a1, .string a2, .bool a3, .string a4, .bool a5, .slice A6 l6.length c6, .int .u8 a7, .int .u32 a8] W fun e W' => e = .returned (.bool true) ∧ Below W.heap.size W W' := by
  simp [Lit.wf, IntKind.min, IntKind.max, IntKind.signed, IntKind.bits] at w1 w7 w8
  obtain ⟨k, hk⟩ := (plain a0 b0 a1 a2 a3 a4 a5 l6 a7 a8 w0 x0 w2 w4 (u8s_of_wf hw6) (by omega) (by omega) (by omega)).rounds
  exact wicketmanlaw11_CookieSets.calls k a0 b0 a1 a2 a3 a4 a5 A6 c6 l6 a7 a8 true W hr6 hc6 hS (Aside0.mk rfl) hk
end Go.Proofs.YtipbgnhhmgljnaaDoor.cookieSets
namespace Go.Proofs.YtipbgnhhmgljnaaDoor.cookieSets
open Go.ChangeShapes Go.WideShapes Go.ChangeAt Go.RowKit Go.Proofs.YtipbgnhhmgljnaaDoorW Go.Proofs.YtipbgnhhmgljnaaDoorW.PrintWords Go.Proofs.YtipbgnhhmgljnaaDoor.Pall
open Go.ChangeMaps (open_string shut_string)
set_option linter.unusedVariables false
theorem own : ownKnob Tryd.prog.godebug = none := by kernel_rfl
theorem laidOut : laidOutB Tryd.prog = true := by kernel_rfl
set_option maxRecDepth 100000 in
theorem lifted (os : Os) (started : os.Started) (H : Type) (enc : TypeId × Value → H) :
    ReturnsInHanded {} Tryd.checked os 9 .any (fun w args => (Rows.cookieSetsSpec.pre enc Tryd.prog Tryd.f9 [] false w args ∧ laidMetH Tryd.prog Rows.cookieSetsRow.laid w) ∧ sizedMet enc Tryd.prog Tryd.f9 (OpenSpec.ofChange Rows.cookieSetsSpec) false w args)
      (Rows.cookieSetsSpec.post enc Tryd.prog Tryd.f9 false true false false) := by
  refine law_lifted (C := Tryd.checked) (rt := 4) (L := Rows.cookieSetsRow.laid) own started (by kernel_rfl) Tryd.func9 laidOut (by kernel_rfl) rfl rfl (by rfl) Tryd.underlying4 ?_ (ChangeSpec.witness_shaped (enc := enc) (C := Tryd.checked) (os := os) (X := fun w _ => laidMetH Tryd.prog Rows.cookieSetsRow.laid w) false (World.laidAll Tryd.prog os Rows.cookieSetsRow.laid) #[.agg #[.string ByteArray.empty, .string ByteArray.empty], .int .i64 0, .string ByteArray.empty, .bool false, .string ByteArray.empty, .bool false, .slice none 0 0, .int .u8 0, .int .u32 0] 8 (World.laidAll_os _ _ _)
    (World.shaped_of_ZipB (by kernel_rfl) (by kernel_rfl)) (by kernel_rfl) (by kernel_rfl) (by kernel_rfl) (by rw [MakeChecks.laidMetH_plain _ _ _ (by kernel_rfl)]; exact laidMet_laidAll _ (by kernel_rfl) (by kernel_rfl))) ?_
  · intro ds hds
    have hds : ds.length = 9 := hds
    match ds, hds with
    | [_, _, _, _, _, _, _, _, _], _ => rfl
  intro W base args ds ps hval0 hA0 hsz0 hL hsh
  have hS : Sh W := sh_of hsh hL (by kernel_rfl) 2 rfl
  have hval : ∀ (j : Nat) t v, Tryd.f9.params[j]? = some t → args[j]? = some v → Value.okWide Tryd.prog W .any base t v := hval0
  have hA : DataW.TrodAll enc Tryd.prog W 0 (fun _ => true) true Tryd.f9.params.toList args.toList ds ps := hA0
  have hsz : (DataW.weightsEach Tryd.prog Tryd.f9.params.toList ds).all (· ≤ reachBytes) = true := hsz0
  rw [Tryd.params9] at hA hval hsz
  obtain ⟨v0, vs0, d0, ds0, p0, q0, hargs, rfl, rfl, h0, r0⟩ := trodAll_cons hA
  obtain ⟨v1, vs1, d1, ds1, p1, q1, rfl, rfl, rfl, h1, r1⟩ := trodAll_cons r0
  obtain ⟨v2, vs2, d2, ds2, p2, q2, rfl, rfl, rfl, h2, r2⟩ := trodAll_cons r1
  obtain ⟨v3, vs3, d3, ds3, p3, q3, rfl, rfl, rfl, h3, r3⟩ := trodAll_cons r2
  obtain ⟨v4, vs4, d4, ds4, p4, q4, rfl, rfl, rfl, h4, r4⟩ := trodAll_cons r3
  obtain ⟨v5, vs5, d5, ds5, p5, q5, rfl, rfl, rfl, h5, r5⟩ := trodAll_cons r4
  obtain ⟨v6, vs6, d6, ds6, p6, q6, rfl, rfl, rfl, h6, r6⟩ := trodAll_cons r5
  obtain ⟨v7, vs7, d7, ds7, p7, q7, rfl, rfl, rfl, h7, r7⟩ := trodAll_cons r6
  obtain ⟨v8, vs8, d8, ds8, p8, q8, rfl, rfl, rfl, h8, r8⟩ := trodAll_cons r7
  obtain ⟨rfl, rfl, rfl⟩ := trodAll_nil r8
  obtain rfl : args = #[v0, v1, v2, v3, v4, v5, v6, v7, v8] := by cases args; simp_all
  obtain ⟨a0, b0, rfl, w0, x0⟩ := pair_open hsz (j := 0) (t := 38) rfl rfl Tryd.underlying38 ⟨Tryd.underlying9, Tryd.underlying9⟩ ⟨by kernel_rfl, by kernel_rfl⟩ (hval 0 38 v0 rfl rfl) h0
  obtain ⟨a1, rfl, rfl, rfl, w1⟩ := open_int Tryd.underlying3 (hval 1 3 v1 rfl rfl) h1
  obtain ⟨a2, rfl, rfl, rfl, y2⟩ := open_string Tryd.underlying9 (hval 2 9 v2 rfl rfl) h2
  have w2 : a2.size ≤ 140737488351232 := by
    have z := sized_string hsz (j := 2) (t := 9) rfl rfl
    rw [Array.length_toList] at z
    exact z
  obtain ⟨a3, rfl, rfl, rfl⟩ := open_bool Tryd.underlying4 (hval 3 4 v3 rfl rfl) h3
  obtain ⟨a4, rfl, rfl, rfl, y4⟩ := open_string Tryd.underlying9 (hval 4 9 v4 rfl rfl) h4
  have w4 : a4.size ≤ 140737488351232 := by
    have z := sized_string hsz (j := 4) (t := 9) rfl rfl
    rw [Array.length_toList] at z
    exact z
  obtain ⟨a5, rfl, rfl, rfl⟩ := open_bool Tryd.underlying4 (hval 5 4 v5 rfl rfl) h5
  obtain ⟨A6, len6, cap6, rfl⟩ := okWide_slice Tryd.underlying23 (hval 6 23 v6 rfl rfl)
  obtain ⟨z6, w6⟩ := ints_row Tryd.underlying23 Tryd.underlying5 (by kernel_rfl) h6
  have y6 : len6 * 1 ≤ 140737488351232 := PrintWords.sized_ints hsz (j := 6) (t := 23) rfl rfl Tryd.underlying23 Tryd.underlying5 (by kernel_rfl) (by kernel_rfl) h6
  obtain ⟨l6, rfl, hr6, hm6, hw6, hc6⟩ := ReadsInt.ofRowC w6
  obtain ⟨a7, rfl, rfl, rfl, w7⟩ := open_int Tryd.underlying5 (hval 7 5 v7 rfl rfl) h7
  obtain ⟨a8, rfl, rfl, rfl, w8⟩ := open_int Tryd.underlying47 (hval 8 47 v8 rfl rfl) h8
  exact walk a0 b0 w0 x0 a1 w1 a2 w2 a3 a4 w4 a5 A6 cap6 l6 (Kd.C_of_reads (d := (0 : Int)) (h1 := fun _ => rfl) hr6) hc6 hw6 (by omega) a7 w7 a8 w8 W rfl hS
theorem over : Rows.cookieSetsRow.holds Tryd.pinned (OpenSpec.ofChange Rows.cookieSetsSpec) :=
  OpenClaim.holds_of_wide 9 Tryd.f9 rfl rfl rfl rfl rfl rfl rfl ⟨rfl, rfl, rfl, rfl, rfl⟩ rfl rfl rfl rfl rfl (by kernel_rfl) Tryd.func9 (by kernel_rfl)
    (of_decide_eq_true (by kernel_rfl)) (by unfold Func.isWrapper; rw [if_neg (of_decide_eq_false (by kernel_rfl))]; exact ⟨rfl, rfl⟩)
    (fun os started H enc _ => lifted os started H enc)
theorem said : Rows.CookieSetsSaid := over
theorem card : Rows.CookieSetsCardSaid :=
  Claim7.holds_tied_plain_at .later [] [.data, .data, .data, .data, .pinned] true (true, "82b5f123bb936d0beffd2142160fa2ce6c33d3fa771e2f017819932a8649ff2e") false said (fun _ h => by cases h) (by kernel_rfl) (fun _ h => by cases h) cookieSets_row_tie rfl ⟨rfl, rfl⟩ (by kernel_rfl) rfl
    (fun f fn hf hfn => by
      obtain rfl : f = 9 := Option.some.inj ((show Tryd.prog.funcNamed "wicketman/wicketmanlaw11.CookieSets" = some 9 by kernel_rfl).symm.trans hf) |>.symm
      obtain rfl : fn = Tryd.f9 := (Option.some.inj (Tryd.func9.symm.trans hfn)).symm
      exact ⟨by kernel_rfl, fun j t ht => by
        rw [Tryd.params9] at ht
        have hm : t ∈ [38, 3, 9, 4, 9, 4, 23, 5, 47] := by simpa using Array.mem_of_getElem? ht
        have hall : ([38, 3, 9, 4, 9, 4, 23, 5, 47].all fun u => !Tryd.prog.wantsStandIn u) = true := by kernel_rfl
        exact (show Tryd.prog.wantsStandIn t = false by simpa using List.all_eq_true.1 hall t hm)⟩)
    (by kernel_rfl)
#print axioms card
end Go.Proofs.YtipbgnhhmgljnaaDoor.cookieSets
namespace Go.Proofs.YtipbgnhhmgljnaaDoor
/-- The card, under a short name, for the claim. -/
theorem cookieSets_card : Rows.CookieSetsCardSaid := cookieSets.card
end Go.Proofs.YtipbgnhhmgljnaaDoor

