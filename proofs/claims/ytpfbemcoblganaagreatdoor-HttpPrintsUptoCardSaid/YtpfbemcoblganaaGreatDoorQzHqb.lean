/-
  http.Print, as a walk.
-/
import Derived.Test.YtpfbemcoblganaaGreatDoorQzHqa
namespace Go.Proofs.YtpfbemcoblganaaGreatDoor.Pl
open Go.RowKit Go.Proofs.YtpfbemcoblganaaGreatDoor.Pall Go.Proofs.YtpfbemcoblganaaGreatDoorW.PrintWords Go.Proofs.YtpfbemcoblganaaGreatDoorW.PrintLast
set_option linter.unusedVariables false
set_option linter.unusedSimpArgs false
theorem join3 (m p : ByteArray) : (⟨(Lib.join ([m, p, (⟨#[72, 84, 84, 80, 47, 49, 46, 49]⟩ : ByteArray)].map (·.data.toList)) (⟨#[32]⟩ : ByteArray).data.toList).toArray⟩ : ByteArray) = mkB (m.data.toList ++ [32] ++ p.data.toList ++ [32, 72, 84, 84, 80, 47, 49, 46, 49]) := by
  simp [Lib.join, List.intercalate, mkB]
theorem join_at (m p : ByteArray) (hm : m.size ≤ 1000000) (hp : p.size ≤ 1000000) (W : World) :
    Calls Tryz.prog 35 #[.slice (some ⟨W.heap.size, 0, none⟩) 3 3, .string ⟨#[32]⟩] (W.alloc (.cells #[.string m, .string p, .string ⟨#[72, 84, 84, 80, 47, 49, 46, 49]⟩] 9)) fun e w' => e = .returned (.string (mkB (m.data.toList ++ [32] ++ p.data.toList ++ [32, 72, 84, 84, 80, 47, 49, 46, 49]))) ∧ Below (W.heap.size + 1) (W.alloc (.cells #[.string m, .string p, .string ⟨#[72, 84, 84, 80, 47, 49, 46, 49]⟩] 9)) w' := by
  have hz : (W.alloc (.cells #[.string m, .string p, .string ⟨#[72, 84, 84, 80, 47, 49, 46, 49]⟩] 9)).heap.size = W.heap.size + 1 := by show (W.heap.push _).size = _; simp
  have h := Tryz.strings_Join W.heap.size 0 3 [m, p, ⟨#[72, 84, 84, 80, 47, 49, 46, 49]⟩] ⟨#[32]⟩ (W.alloc (.cells #[.string m, .string p, .string ⟨#[72, 84, 84, 80, 47, 49, 46, 49]⟩] 9)) ?_ (by omega) (by show 3 ≤ _; omega) (Nat.le_refl 3) ?_
  · rw [join3, hz] at h; exact h
  · intro j x hx
    rw [Nat.zero_add, cell_new]
    rcases j with _ | _ | _ | j <;> simp at hx ⊢ <;> first | exact hx | (rw [← hx])
  · have := congrArg ByteArray.size (join3 m p)
    rw [mkB_size] at this
    have h1 : m.data.toList.length = m.size := rfl
    have h2 : p.data.toList.length = p.size := rfl
    simp only [List.length_append, List.length_cons, List.length_nil] at this
    have e : ∀ l : List UInt8, (⟨l.toArray⟩ : ByteArray).size = l.length := fun l => by simp [ByteArray.size]
    rw [e] at this
    exact Nat.le_trans (Nat.le_of_eq this) (by omega)
set_option maxRecDepth 100000 in
set_option maxHeartbeats 4000000 in
theorem hprint_go (k : Nat) (m p : ByteArray) (fs : List S34) (bs : List UInt8) (A1 : Option Addr) (c1 : Nat) (A2 : Option Addr) (c2 : Nat) (w : World) (hC1 : Kd.C k34 w A1 fs.length fs) (hc1 : fs.length ≤ c1) (hC2 : Kd.C (Kd.int .u8) w A2 (numsL bs).length (numsL bs)) (hc2 : (numsL bs).length ≤ c2) (hS : Sh w)
    (hs : ∀ p ∈ fs, p.f0.size ≤ 140737488351232 ∧ p.f1.size ≤ 140737488351232) (hm : m.size ≤ 1000000) (hp : p.size ≤ 1000000) (hf : fs.length ≤ 100000) (hb : bs.length ≤ 1000000)
    (q1 q2 : ByteArray) (q3 : List S34) (q4 : List Int) (q5 : Int) (hq : http_Parse.f (numsL (reqL m p fs ++ bs)) = some (q1, q2, q3, q4, q5)) (r : List Int × Int)
    (hr : (q5 ≠ 0 ∧ r = ([], 10)) ∨ (q5 = 0 ∧ ∃ t, http_Same.f k q1 q2 q3 q4 m p fs (numsL bs) = some t ∧ r = if t = true then (numsL (reqL m p fs ++ bs), 0) else ([], 10))) :
    Calls Tryz.prog 17 #[.agg #[.string m, .string p, .slice A1 fs.length c1, .slice A2 (numsL bs).length c2]] w (HpGot w r) := by
  have hu := Tryz.underlying25
  have hu43 := Tryz.underlying34
  have HX0 := hid (Bq.new w #[.string m, .string p, .slice A1 fs.length c1, .slice A2 (numsL bs).length c2])
  have HJ := join_at m p hm hp ((w.alloc (.cells #[.string m, .string p, .slice A1 fs.length c1, .slice A2 (numsL bs).length c2] 25)).alloc (.cells #[.slice none 0 0, .int .i64 0, .int .i8 0] 71))
  rw [show ((w.alloc (.cells #[.string m, .string p, .slice A1 fs.length c1, .slice A2 (numsL bs).length c2] 25)).alloc (.cells #[.slice none 0 0, .int .i64 0, .int .i8 0] 71)).heap.size = w.heap.size + 1 + 1 by show ((w.heap.push _).push _).size = _; simp] at HJ
  have HJ := hid HJ
  obtain ⟨jt, hjt⟩ : ∃ jt : ByteArray, jt = mkB (m.data.toList ++ [32] ++ p.data.toList ++ [32, 72, 84, 84, 80, 47, 49, 46, 49]) := ⟨_, rfl⟩
  have zj : jt.size ≤ 2000020 := by
    rw [hjt, mkB_size]
    have h1 : m.data.toList.length = m.size := rfl
    have h2 : p.data.toList.length = p.size := rfl
    simp only [List.length_append, List.length_cons, List.length_nil]
    omega
  rw [← hjt] at HJ
  have HHD := hid (show (jt ++ ⟨#[13, 10]⟩ : ByteArray).data.toList = m.data.toList ++ [32] ++ p.data.toList ++ [32, 72, 84, 84, 80, 47, 49, 46, 49, 13, 10] from by rw [hjt]; simp [mkB])
  obtain ⟨hd, hhd⟩ : ∃ hd, hd = m.data.toList ++ [32] ++ p.data.toList ++ [32, 72, 84, 84, 80, 47, 49, 46, 49, 13, 10] := ⟨_, rfl⟩
  have HRQ := hid (show reqL m p fs = hd ++ fsTxt fs ++ [13, 10] by rw [hhd]; rfl)
  rw [← hhd] at HHD
  have hhl : hd.length ≤ 2000022 := by rw [← HHD.out]; show (jt ++ ⟨#[13, 10]⟩ : ByteArray).size ≤ _; rw [ByteArray.size_append]; show _ + 2 ≤ _; omega
  have hrl := reqL_len m p fs
  have HTL := hid (show (numsL (reqL m p fs ++ bs)).length ≤ 210000000 by rw [numsL_len, List.length_append]; omega)
  have hz1 : jt.size + 2 ≤ 9223372036854775807 := by omega
  have HZ1 := hid (show ([] : List UInt8).length + (jt ++ ⟨#[13, 10]⟩ : ByteArray).size ≤ 140737488355328 by rw [ByteArray.size_append]; show 0 + (_ + 2) ≤ _; omega)
  have HPA := hid (fun (W' : World) (h : Below w.heap.size w W') (A : Option Addr) (c : Nat) (h1 : Kd.C (Kd.int .u8) W' A (numsL (reqL m p fs ++ bs)).length (numsL (reqL m p fs ++ bs))) (h2 : (numsL (reqL m p fs ++ bs)).length ≤ c) => http_Parse.calls A c (numsL (reqL m p fs ++ bs)) q1 q2 q3 q4 q5 W' h1 h2 (hS.of_below h) hq)
  have HC1 := hid hC1
  have HC2 := hid hC2
  have HS := hid hs
  have HHL := hid hhl
  have HR := hid hr
  have HBL := hid (show bs.length ≤ 1000000 from hb)
  have HSM := hid (fun (t : Bool) (ht : http_Same.f k q1 q2 q3 q4 m p fs (numsL bs) = some t) (W' : World) (h : Below w.heap.size w W') (A : Option Addr) (c : Nat) (B : Option Addr) (d : Nat) (g1 : Kd.C k34 W' A q3.length q3) (g2 : q3.length ≤ c) (g3 : Kd.C (Kd.int .u8) W' B q4.length q4) (g4 : q4.length ≤ d) =>
    http_Same.calls k q1 q2 A c q3 B d q4 m p A1 c1 fs A2 c2 (numsL bs) t W' g1 g2 g3 g4 (Kd.C_below hC1 h) hc1 (Kd.C_below hC2 h) hc2 ht)
  clear hC1 hC2 hS hs hr hq hjt hhd hhl hrl hm hp hb
  obtain ⟨T, hT⟩ : ∃ T, T = numsL (reqL m p fs ++ bs) := ⟨_, rfl⟩
  rw [← hT] at HPA HTL HR
  rw [HRQ.out] at hT
  have HTT := hid hT.symm
  clear hT
  go_enter Tryz.func17, Tryz.ntmps17
  go_upto_region 3 with (first
    | (go_at_call 35; refine HJ.out.mono ?_; rintro e w1 ⟨rfl, hb⟩; have HF1 := hid (HX0.out.below (((Below.refl _ _).alloc (Nat.le_refl _) _).trans (hb.mono (by simp)))); clear hb)
    | (go_at_call 34; refine (HF1.out.put _ HZ1.out).mono ?_; rintro e w2 ⟨rfl, hf⟩; rw [List.nil_append, HHD.out] at hf; have HF2 := hid hf; clear hf))
  have hx := HF2.out.cells
  obtain ⟨x0, x1, x2, x3⟩ := hx
  clear HX0 HJ HF1
  go_wp2
  go_loopw [22] (fun i W => ∃ j : Nat, j ≤ fs.length ∧ i = .int .i64 (j : Int) ∧ Hid (Bq w W #[.string m, .string p, .slice A1 fs.length c1, .slice A2 (numsL bs).length c2] (w.heap.size + 1) (hd ++ fsTxt (fs.take j)))) (fun i _ => fs.length - (intOf i).toNat)
  case atStart => exact ⟨0, Nat.zero_le _, rfl, hid (by simpa [fsTxt] using HF2.out)⟩
  case round =>
    obtain ⟨j, hj, rfl, HF⟩ := hrel
    clear x0 x1 x2 x3
    have hx := HF.out.cells
    obtain ⟨x0, x1, x2, x3⟩ := hx
    by_cases hlt : j < fs.length
    · obtain ⟨ad, hA, a0, a1⟩ := at_T34 HC1.out (j : Int) (by omega) (by omega)
      subst hA
      rw [rdPr] at a0 a1
      rw [Int.toNat_natCast] at a0 a1
      have a0 := (HF.out.bel.cell (World.block_lt_of_cell? _ _ a0)).trans a0
      have a1 := (HF.out.bel.cell (World.block_lt_of_cell? _ _ a1)).trans a1
      have HPP := hid (HS.out _ (getD_memP fs z34 hlt))
      have HTX := hid (show fsTxt (fs.take (j + 1)) = fsTxt (fs.take j) ++ ((printS (fs.getD j z34).f0 (fs.getD j z34).f1).1.data.toList ++ [13, 10]) by rw [take_next fs j hlt, fsTxt_app])
      have HTN := hid (fsTxt_len (fs.take j))
      have hl3 : (j : Int) < (fs.length : Int) := by omega
      generalize fs.getD j z34 = p2 at *
      have HPL := hid (printS_len p2.f0 p2.f1)
      have HPR := hid (fun W => print_any p2.f0 p2.f1 W HPP.out.1 HPP.out.2)
      generalize printS p2.f0 p2.f1 = ps at *
      obtain ⟨line, er⟩ := ps
      dsimp only at HTX HPL HPR
      have HZ := hid (show (hd ++ fsTxt (fs.take j)).length + (line ++ (⟨#[13, 10]⟩ : ByteArray)).size ≤ 140737488355328 by
        have e1 := HHL.out
        have e2 := HTN.out
        have e3 : line.size ≤ 2000 := HPL.out
        rw [List.length_take] at e2
        rw [List.length_append, ByteArray.size_append]
        show _ + (_ + 2) ≤ _
        omega)
      have hl2 : line.size + 2 ≤ 9223372036854775807 := by have e3 : line.size ≤ 2000 := HPL.out; omega
      go_wp2_with (first
        | (go_at_call 36; refine (HPR.out _).mono ?_; rintro e W2 ⟨rfl, hb⟩; have HF3 := hid (HF.out.below (((Below.refl _ _).alloc (Nat.le_refl _) _).trans (hb.mono (by simp)))); clear hb)
        | (go_at_call 34; refine (HF3.out.put _ HZ.out).mono ?_; rintro e W3 ⟨rfl, hf⟩; have HF4 := hid hf; clear hf))
      go_roundw
      case rel =>
        refine ⟨j + 1, by omega, by go_num, ?_⟩
        have h := HF4.out
        rw [List.append_assoc] at h
        rw [HTX.out]
        exact hid (by simpa using h)
      case measure => first | omega | (simp [intOf]; done) | (simp [intOf]; omega)
    · obtain rfl : j = fs.length := by omega
      rw [List.take_length] at HF
      have HZ2 := hid (show (hd ++ fsTxt fs).length + (⟨#[13, 10]⟩ : ByteArray).size ≤ 140737488355328 by
        have e1 := HHL.out
        have e2 := fsTxt_len fs
        rw [List.length_append]
        show _ + 2 ≤ _
        omega)
      have HZ3 := hid (show (hd ++ fsTxt fs ++ (⟨#[13, 10]⟩ : ByteArray).data.toList).length + bs.length ≤ 140737488355328 by
        have e1 := HHL.out
        have e2 := fsTxt_len fs
        have e3 := HBL.out
        rw [List.length_append, List.length_append]
        show _ + 2 + _ ≤ _
        omega)
      rcases HR.out with ⟨h5, rfl⟩ | ⟨rfl, t, ht, rfl⟩
      · have h5b : (q5 != 0) = true := by simpa using h5
        clear h5 HSM HR
        go_wp2_with (first
        | (go_at_call 34; refine (HF.out.put _ HZ2.out).mono ?_; rintro e W2 ⟨rfl, hf⟩; have HF5 := hid hf; have hx := hf.cells; obtain ⟨y0, y1, y2, y3⟩ := hx; clear hf)
        | (go_at_call 37; refine (HF5.out.write A2 c2 bs HC2.out HZ3.out).mono ?_; rintro e W3 ⟨⟨v, rfl⟩, hf⟩; have HF6 := hid hf; clear hf)
        | (go_at_call 38; refine (HF6.out.bytes).mono ?_; rintro e W4 ⟨v4, rfl, hr4, hf⟩; rw [HTT.out] at hr4; have HF7 := hid hf; have hsl := Kd.R_reads hr4; obtain ⟨A4, c4, rfl, hc4, hC4⟩ := hsl; have HC4 := hid hC4; clear hf hr4 hC4)
        | (go_at_call 11; refine (HPA.out _ HF7.out.bel A4 c4 HC4.out hc4).mono ?_; rintro e W5 ⟨v5, v6, rfl, hr5, hr6, hb⟩; have HF8 := hid (HF7.out.below hb); have hsl := Kd.R_reads hr5; obtain ⟨A5, c5, rfl, hc5, hC5⟩ := hsl; have hsl := Kd.R_reads hr6; obtain ⟨A6, c6, rfl, hc6, hC6⟩ := hsl; have hx := (HF8.out.below ((Below.refl _ _).alloc (Nat.le_refl _) (.cells #[.string q1, .string q2, .slice A5 q3.length c5, .slice A6 q4.length c6] 25))).cells; obtain ⟨z0, z1, z2, z3⟩ := hx; have HC5 := hid hC5; have HC6 := hid hC6; clear hb hr5 hr6 hC5 hC6)
          )
        go_ret2
        exact ⟨_, rfl, Kd.R_nil _ _ _ _ _, bA HF8.out.bel _⟩
      · have HSA := hid (HSM.out t ht)
        clear ht HSM HR
        cases t with
        | true =>
          go_wp2_with (first
            | (go_at_call 38; refine (HF9.out.bytes).mono ?_; rintro e W7 ⟨v7, rfl, hr7, hf⟩; rw [HTT.out] at hr7; have HF10 := hid hf; have HR7 := hid hr7; have hsl := Kd.R_reads hr7; obtain ⟨A7, c7, rfl, _, _⟩ := hsl; clear hf hr7)
            | (go_at_call 34; refine (HF.out.put _ HZ2.out).mono ?_; rintro e W2 ⟨rfl, hf⟩; have HF5 := hid hf; have hx := hf.cells; obtain ⟨y0, y1, y2, y3⟩ := hx; clear hf)
            | (go_at_call 37; refine (HF5.out.write A2 c2 bs HC2.out HZ3.out).mono ?_; rintro e W3 ⟨⟨v, rfl⟩, hf⟩; have HF6 := hid hf; clear hf)
            | (go_at_call 38; refine (HF6.out.bytes).mono ?_; rintro e W4 ⟨v4, rfl, hr4, hf⟩; rw [HTT.out] at hr4; have HF7 := hid hf; have hsl := Kd.R_reads hr4; obtain ⟨A4, c4, rfl, hc4, hC4⟩ := hsl; have HC4 := hid hC4; clear hf hr4 hC4)
            | (go_at_call 11; refine (HPA.out _ HF7.out.bel A4 c4 HC4.out hc4).mono ?_; rintro e W5 ⟨v5, v6, rfl, hr5, hr6, hb⟩; have HF8 := hid (HF7.out.below hb); have hsl := Kd.R_reads hr5; obtain ⟨A5, c5, rfl, hc5, hC5⟩ := hsl; have hsl := Kd.R_reads hr6; obtain ⟨A6, c6, rfl, hc6, hC6⟩ := hsl; have hx := (HF8.out.below ((Below.refl _ _).alloc (Nat.le_refl _) (.cells #[.string q1, .string q2, .slice A5 q3.length c5, .slice A6 q4.length c6] 25))).cells; obtain ⟨z0, z1, z2, z3⟩ := hx; have HC5 := hid hC5; have HC6 := hid hC6; clear hb hr5 hr6 hC5 hC6)
            | (go_at_call 9; refine (HSA.out _ (bA HF8.out.bel _) A5 c5 A6 c6 (Kd.C_alloc HC5.out _) hc5 (Kd.C_alloc HC6.out _) hc6).mono ?_; rintro e W6 ⟨rfl, hb⟩; have HF9 := hid ((HF8.out.below ((Below.refl _ _).alloc (Nat.le_refl _) _)).below hb); clear hb))
          go_ret2
          exact ⟨_, rfl, HR7.out, HF10.out.bel⟩
        | false =>
          go_wp2_with (first
            | (go_at_call 34; refine (HF.out.put _ HZ2.out).mono ?_; rintro e W2 ⟨rfl, hf⟩; have HF5 := hid hf; have hx := hf.cells; obtain ⟨y0, y1, y2, y3⟩ := hx; clear hf)
            | (go_at_call 37; refine (HF5.out.write A2 c2 bs HC2.out HZ3.out).mono ?_; rintro e W3 ⟨⟨v, rfl⟩, hf⟩; have HF6 := hid hf; clear hf)
            | (go_at_call 38; refine (HF6.out.bytes).mono ?_; rintro e W4 ⟨v4, rfl, hr4, hf⟩; rw [HTT.out] at hr4; have HF7 := hid hf; have hsl := Kd.R_reads hr4; obtain ⟨A4, c4, rfl, hc4, hC4⟩ := hsl; have HC4 := hid hC4; clear hf hr4 hC4)
            | (go_at_call 11; refine (HPA.out _ HF7.out.bel A4 c4 HC4.out hc4).mono ?_; rintro e W5 ⟨v5, v6, rfl, hr5, hr6, hb⟩; have HF8 := hid (HF7.out.below hb); have hsl := Kd.R_reads hr5; obtain ⟨A5, c5, rfl, hc5, hC5⟩ := hsl; have hsl := Kd.R_reads hr6; obtain ⟨A6, c6, rfl, hc6, hC6⟩ := hsl; have hx := (HF8.out.below ((Below.refl _ _).alloc (Nat.le_refl _) (.cells #[.string q1, .string q2, .slice A5 q3.length c5, .slice A6 q4.length c6] 25))).cells; obtain ⟨z0, z1, z2, z3⟩ := hx; have HC5 := hid hC5; have HC6 := hid hC6; clear hb hr5 hr6 hC5 hC6)
            | (go_at_call 9; refine (HSA.out _ (bA HF8.out.bel _) A5 c5 A6 c6 (Kd.C_alloc HC5.out _) hc5 (Kd.C_alloc HC6.out _) hc6).mono ?_; rintro e W6 ⟨rfl, hb⟩; have HF9 := hid ((HF8.out.below ((Below.refl _ _).alloc (Nat.le_refl _) _)).below hb); clear hb))
          go_ret2
          exact ⟨_, rfl, Kd.R_nil _ _ _ _ _, HF9.out.bel⟩
end Go.Proofs.YtpfbemcoblganaaGreatDoor.Pl
