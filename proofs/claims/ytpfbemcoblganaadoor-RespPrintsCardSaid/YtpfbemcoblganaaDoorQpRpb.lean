/-
  resp.Print, as a walk.
-/
import Derived.Test.YtpfbemcoblganaaDoorQpRpa
namespace Go.Proofs.YtpfbemcoblganaaDoor.Pl
open Go.RowKit Go.Proofs.YtpfbemcoblganaaDoor.Pall Go.Proofs.YtpfbemcoblganaaDoorW.PrintWords Go.Proofs.YtpfbemcoblganaaDoorW.PrintLast
set_option linter.unusedVariables false
set_option linter.unusedSimpArgs false
theorem rdPr (l : List S43) (i : Nat) : rd_T43 l (i : Int) = l.getD i z43 := by unfold rd_T43; rw [Int.toNat_natCast]
theorem getD_memP {α : Type} (l : List α) (d : α) {i : Nat} (h : i < l.length) : l.getD i d ∈ l := by
  rw [List.getD, List.getElem?_eq_getElem h]; exact List.getElem_mem h
theorem fsErr_at (fs : List S43) (j : Nat) (h0 : fsErr (fs.take j) = 0) (hj : j < fs.length) :
    fsErr (fs.take (j + 1)) = (printS (fs.getD j z43).f0 (fs.getD j z43).f1).2 ∧ ((printS (fs.getD j z43).f0 (fs.getD j z43).f1).2 ≠ 0 → fsErr fs = (printS (fs.getD j z43).f0 (fs.getD j z43).f1).2) := by
  induction fs generalizing j with
  | nil => simp at hj
  | cons p l ih =>
    cases j with
    | zero =>
      refine ⟨?_, fun h => ?_⟩
      · show fsErr [p] = _
        unfold fsErr
        rw [show (p :: l).getD 0 z43 = p from rfl]
        by_cases h : (printS p.f0 p.f1).2 = 0
        · rw [if_pos h, h]; rfl
        · rw [if_neg h]
      · rw [show (p :: l).getD 0 z43 = p from rfl] at h ⊢
        unfold fsErr; rw [if_neg h]
    | succ j =>
      rw [List.take_succ_cons] at h0
      have hp : (printS p.f0 p.f1).2 = 0 := by
        by_cases h : (printS p.f0 p.f1).2 = 0
        · exact h
        · unfold fsErr at h0; rw [if_neg h] at h0; exact absurd h0 h
      have h1 : fsErr (l.take j) = 0 := by unfold fsErr at h0; rw [if_pos hp] at h0; exact h0
      have h2 := ih j h1 (by simpa using hj)
      rw [show (p :: l).getD (j + 1) z43 = l.getD j z43 from rfl, List.take_succ_cons]
      refine ⟨?_, fun h => ?_⟩
      · show (if (printS p.f0 p.f1).2 = 0 then fsErr (l.take (j + 1)) else _) = _
        rw [if_pos hp]; exact h2.1
      · show (if (printS p.f0 p.f1).2 = 0 then fsErr l else _) = _
        rw [if_pos hp]; exact h2.2 h
theorem take_next (fs : List S43) (j : Nat) (hj : j < fs.length) : fs.take (j + 1) = fs.take j ++ [fs.getD j z43] := by
  rw [List.take_succ_eq_append_getElem hj, List.getD, List.getElem?_eq_getElem hj]; rfl
set_option maxRecDepth 100000 in
set_option maxHeartbeats 4000000 in
theorem rprint_go (st : Int) (fs : List S43) (body : List Int) (A1 : Option Addr) (c1 : Nat) (A2 : Option Addr) (c2 : Nat) (w : World) (hC1 : Kd.C k43 w A1 fs.length fs) (hc1 : fs.length ≤ c1) (hC2 : Kd.C (Kd.int .u8) w A2 body.length body) (hc2 : body.length ≤ c2) (hT : Tb w)
    (hs : ∀ p ∈ fs, p.f0.size ≤ 140737488351232 ∧ p.f1.size ≤ 140737488351232) (hr : reasonS st ≠ ⟨#[]⟩) (hb : body.length ≤ 4000) (hf : fs.length ≤ 40) (r : List Int × Int) (hre : r = if fsErr fs ≠ 0 then ([], fsErr fs) else (numsL (hdT st ++ fsTxt fs ++ lenT body.length) ++ body, 0)) :
    Calls Tryd.prog 27 #[.agg #[.int .i64 st, .slice A1 fs.length c1, .slice A2 body.length c2]] w (PrGot w r) := by
  have hu := Tryd.underlying51
  have hu43 := Tryd.underlying43
  have hmf : ∀ (fn : Fn) (first cap : Array Value) (w : World), (Instr.makeFunc fn first cap).run Tryd.prog w = .ok (.func fn first cap) w := fun _ _ _ _ => rfl
  have HX0 := hid (Bx.new w #[.int .i64 st, .slice A1 fs.length c1, .slice A2 body.length c2])
  have HR := hid (fun W => reason_any st W)
  have HI := hid (fun (W : World) (h : Below w.heap.size w W) => itoa_any st W (hT.of_below h) (by have := reason_st hr; omega) (by have := reason_st hr; omega))
  have HJ := hid (fun (W : World) (h : Below w.heap.size w W) => itoa_any (body.length : Int) W (hT.of_below h) (by omega) (by omega))
  have hz2 : (reasonS st).toList.isEmpty = false := by
    rw [ByteArray.toList_eq]
    cases hd : (reasonS st).data.toList with
    | nil => exact absurd (ba_ext hd) hr
    | cons a l => rfl
  have HHL := hid (hdT_len st hr)
  obtain ⟨it, hit⟩ : ∃ it : ByteArray, it = ⟨(Lib.itoa st).toArray⟩ := ⟨_, rfl⟩
  obtain ⟨jt, hjt⟩ : ∃ jt : ByteArray, jt = ⟨(Lib.itoa (body.length : Int)).toArray⟩ := ⟨_, rfl⟩
  have HHD := hid (show hdT st = ((⟨#[72, 84, 84, 80, 47, 49, 46, 49, 32]⟩ : ByteArray) ++ it ++ ⟨#[32]⟩ ++ reasonS st ++ ⟨#[13, 10]⟩).data.toList from by rw [hit]; simp [hdT])
  have HLT := hid (show lenT body.length = ((⟨#[67, 111, 110, 116, 101, 110, 116, 45, 76, 101, 110, 103, 116, 104, 58, 32]⟩ : ByteArray) ++ jt ++ ⟨#[13, 10]⟩ ++ ⟨#[13, 10]⟩).data.toList from by rw [hjt]; simp [lenT])
  have zi : it.size ≤ 21 := by rw [hit]; exact itoa_len st (by have := reason_st hr; omega) (by have := reason_st hr; omega)
  have zj : jt.size ≤ 21 := by rw [hjt]; exact itoa_len (body.length : Int) (by omega) (by omega)
  have zr := reason_len st
  rw [← hit] at HI
  rw [← hjt] at HJ
  have s1 : 9 + it.size ≤ 9223372036854775807 := by omega
  have s2 : ((⟨#[72, 84, 84, 80, 47, 49, 46, 49, 32]⟩ : ByteArray) ++ it).size + 1 ≤ 9223372036854775807 := by rw [ByteArray.size_append]; show 9 + it.size + 1 ≤ _; omega
  have s3 : ((⟨#[72, 84, 84, 80, 47, 49, 46, 49, 32]⟩ : ByteArray) ++ it ++ ⟨#[32]⟩).size + (reasonS st).size ≤ 9223372036854775807 := by rw [ByteArray.size_append, ByteArray.size_append]; show 9 + it.size + 1 + _ ≤ _; omega
  have s4 : ((⟨#[72, 84, 84, 80, 47, 49, 46, 49, 32]⟩ : ByteArray) ++ it ++ ⟨#[32]⟩ ++ reasonS st).size + 2 ≤ 9223372036854775807 := by rw [ByteArray.size_append, ByteArray.size_append, ByteArray.size_append]; show 9 + it.size + 1 + _ + 2 ≤ _; omega
  have HZ := hid (show ([] : List UInt8).length + ((⟨#[72, 84, 84, 80, 47, 49, 46, 49, 32]⟩ : ByteArray) ++ it ++ ⟨#[32]⟩ ++ reasonS st ++ ⟨#[13, 10]⟩).size ≤ 140737488355328 by rw [ByteArray.size_append, ByteArray.size_append, ByteArray.size_append, ByteArray.size_append]; show 0 + (9 + it.size + 1 + _ + 2) ≤ _; omega)
  clear hit hjt
  have HRE := hid hre
  clear hre
  have HC1 := hid hC1
  have HC2 := hid hC2
  have HS := hid hs
  have n4 : ¬ (4000 : Int) < (body.length : Int) := by omega
  have n40 : ¬ (40 : Int) < (fs.length : Int) := by omega
  generalize reasonS st = rs at *
  clear hC1 hC2 hT hs hr
  go_enter Tryd.func27, Tryd.ntmps27
  go_upto_region 8 with (go_at_call 36; refine (HR.out _).mono ?_; rintro e w1 ⟨rfl, hb⟩; have HX := hid (HX0.out.below hb); have hx := HX.out.cells; obtain ⟨x0, x1, x2⟩ := hx; clear hb)
  have HF0 := hid (Bf.new HX.out).drew
  have hx := HF0.out.bx.cells
  obtain ⟨x0, x1, x2⟩ := hx
  clear HX HX0
  rename_i K hK
  have REST : ∀ {u0 u2 u3 u10 u11 u12 u13 u14 u15 u16 u17 u18 u19 u20 u21 u22 u23 u24 u25 u26 u27 u28 u29 u30 u31 u32 u33 u34 u35 u36 : Value} {w4 : World}, Bf w w4 #[.int .i64 st, .slice A1 fs.length c1, .slice A2 body.length c2] w1.heap.size (hdT st) → Exit.then K (bodyPost Tryd.prog Tryd.f27 (PrGot w r)) Exit.normal { tmps := #[u0, .pointer (some ⟨w.heap.size, 0, none⟩), u2, u3, .pointer (some ⟨w1.heap.size, 0, none⟩), .func (Fn.func 53) #[.pointer (some ⟨w1.heap.size, 0, none⟩)] #[], undef, undef, undef, undef, u10, u11, u12, u13, u14, u15, u16, u17, u18, u19, u20, u21, u22, u23, u24, u25, u26, u27, u28, u29, u30, u31, u32, u33, u34, u35, u36, undef, undef, undef, undef, undef, undef, undef, undef, undef, undef, undef, undef, undef, undef, undef, undef, undef, undef, undef, undef, undef, undef, undef, undef, undef, undef, undef, undef, undef, undef, undef, undef, undef], defers := [] } w4 := by
    clear HF0 x0 x1 x2 HI HR
    intro u0 u2 u3 u10 u11 u12 u13 u14 u15 u16 u17 u18 u19 u20 u21 u22 u23 u24 u25 u26 u27 u28 u29 u30 u31 u32 u33 u34 u35 u36 w4 hf
    have HF := hid hf
    have hx := HF.out.bx.cells
    obtain ⟨x0, x1, x2⟩ := hx
    clear hf
    go_wp2
    go_loopw [40] (fun i W => ∃ j : Nat, j ≤ fs.length ∧ i = .int .i64 (j : Int) ∧ Hid (Bf w W #[.int .i64 st, .slice A1 fs.length c1, .slice A2 body.length c2] w1.heap.size (hdT st ++ fsTxt (fs.take j))) ∧ Hid (fsErr (fs.take j) = 0)) (fun i _ => fs.length - (intOf i).toNat)
    case atStart => exact ⟨0, Nat.zero_le _, rfl, hid (by simpa [fsTxt] using HF.out), hid rfl⟩
    case round =>
      obtain ⟨j, hj, rfl, HF, HE⟩ := hrel
      have hx := HF.out.bx.cells
      obtain ⟨x0, x1, x2⟩ := hx
      by_cases hlt : j < fs.length
      · obtain ⟨ad, hA, a0, a1⟩ := at_T43 HC1.out (j : Int) (by omega) (by omega)
        subst hA
        rw [rdPr] at a0 a1
        rw [Int.toNat_natCast] at a0 a1
        have a0 := (HF.out.bx.bel.cell (World.block_lt_of_cell? _ _ a0)).trans a0
        have a1 := (HF.out.bx.bel.cell (World.block_lt_of_cell? _ _ a1)).trans a1
        have HPP := hid (HS.out _ (getD_memP fs z43 hlt))
        have HEA := hid (fsErr_at fs j HE.out hlt)
        have HTX := hid (show fsTxt (fs.take (j + 1)) = fsTxt (fs.take j) ++ ((printS (fs.getD j z43).f0 (fs.getD j z43).f1).1.data.toList ++ [13, 10]) by rw [take_next fs j hlt, fsTxt_app])
        have HTL := hid (fsTxt_len (fs.take j))
        have hl3 : (j : Int) < (fs.length : Int) := by omega
        generalize fs.getD j z43 = p at *
        have HPL := hid (printS_len p.f0 p.f1)
        have HPR := hid (fun W => print_any p.f0 p.f1 W HPP.out.1 HPP.out.2)
        generalize printS p.f0 p.f1 = ps at *
        obtain ⟨line, er⟩ := ps
        dsimp only at HEA HTX HPL HPR
        have HZ := hid (show (hdT st ++ fsTxt (fs.take j)).length + (line ++ (⟨#[13, 10]⟩ : ByteArray)).size ≤ 140737488355328 by
          have e1 := HHL.out
          have e2 := HTL.out
          have e3 : line.size ≤ 2000 := HPL.out
          rw [List.length_take] at e2
          rw [List.length_append, ByteArray.size_append]
          show _ + (_ + 2) ≤ _
          omega)
        have hl2 : line.size + 2 ≤ 9223372036854775807 := by have e3 : line.size ≤ 2000 := HPL.out; omega
        by_cases he : er = 0
        · subst he
          go_wp2_with (first
            | (go_at_call 55; refine (HPR.out _).mono ?_; rintro e W2 ⟨rfl, hb⟩; have HF2 := hid (HF.out.below (((Below.refl _ _).alloc (Nat.le_refl _) _).trans (hb.mono (by simp)))); clear hb)
            | (go_at_call 53; refine (Bf.put HF2.out _ HZ.out).mono ?_; rintro e W3 ⟨rfl, hf⟩; have HF3 := hid hf; clear hf))
          go_roundw
          case rel =>
            refine ⟨j + 1, by omega, by go_num, ?_, hid HEA.out.1⟩
            have h := HF3.out
            rw [List.append_assoc] at h
            rw [HTX.out]
            exact hid (by simpa using h)
          case measure => first | omega | (simp [intOf]; done) | (simp [intOf]; omega)
        · have he2 : (er == 0) = false := by simpa using he
          have hr := HRE.out
          rw [HEA.out.2 he, if_pos he] at hr
          subst hr
          go_wp2_with (go_at_call 55; refine (HPR.out _).mono ?_; rintro e W2 ⟨rfl, hb⟩; have HF2 := hid (HF.out.below (((Below.refl _ _).alloc (Nat.le_refl _) _).trans (hb.mono (by simp)))); clear hb)
          go_ret2
          exact ⟨_, rfl, Kd.R_nil _ _ _ _ _, HF2.out.bx.bel⟩
      · obtain rfl : j = fs.length := by omega
        rw [List.take_length] at HF HE
        have hr := HRE.out
        rw [if_neg (by rw [HE.out]; simp)] at hr
        subst hr
        have HZ := hid (show (hdT st ++ fsTxt fs).length + ((⟨#[67, 111, 110, 116, 101, 110, 116, 45, 76, 101, 110, 103, 116, 104, 58, 32]⟩ : ByteArray) ++ jt ++ ⟨#[13, 10]⟩ ++ ⟨#[13, 10]⟩).size ≤ 200000 by
          have e1 := HHL.out
          have e2 := fsTxt_len fs
          rw [List.length_append, ByteArray.size_append, ByteArray.size_append, ByteArray.size_append]
          show _ + (16 + jt.size + 2 + 2) ≤ _
          omega)
        have HZ2 := hid (show (hdT st ++ fsTxt fs ++ lenT body.length).length + body.length ≤ 140737488355328 by
          have e1 := HHL.out
          have e2 := fsTxt_len fs
          have e3 : (lenT body.length).length = 16 + jt.size + 2 + 2 := by
            rw [HLT.out, Array.length_toList]; show ByteArray.size _ = _
            rw [ByteArray.size_append, ByteArray.size_append, ByteArray.size_append]; rfl
          rw [List.length_append, List.length_append, e3]
          omega)
        go_wp2_with (first
          | (go_at_call 54; refine (HJ.out _ HF.out.bx.bel).mono ?_; rintro e W2 ⟨rfl, hb⟩; have HF2 := hid (HF.out.below hb); have hx := HF2.out.bx.cells; obtain ⟨y0, y1, y2⟩ := hx; clear hb)
          | (go_at_call 53; refine (Bf.put HF2.out _ (Nat.le_trans HZ.out (by decide))).mono ?_; rintro e W3 ⟨rfl, hf⟩; rw [← HLT.out] at hf; have HF3 := hid hf; have hx := HF3.out.bx.cells; obtain ⟨z0, z1, z2⟩ := hx; clear hf)
          | (go_at_call 56; refine (HF3.out.write A2 c2 body HC2.out HZ2.out).mono ?_; rintro e W4 ⟨⟨v, rfl⟩, hw⟩; have HW := hid hw; clear hw)
          | (go_at_call 57; refine (Tryd.Buffer_Bytes _ _ _ _ HW.out.2.1).mono ?_; rintro e W5 ⟨v5, rfl, hown, n5, rfl⟩; have HO := hid hown; clear hown))
        go_ret2
        have ho := HO.out
        refine ⟨_, rfl, Kd.R_lower (Kd.R_of_own (h1 := fun _ => rfl) ?_ (fun _ _ => trivial)) HW.out.2.2, bN HW.out.1 _⟩
        simpa [encs] using ho
  go_region_with (first
    | (go_at_call 54; refine (HI.out _ HF0.out.bx.bel).mono ?_; rintro e w2 ⟨rfl, hb⟩; have HF1 := hid (HF0.out.below hb); have hx := HF1.out.bx.cells; obtain ⟨y0, y1, y2⟩ := hx; clear hb)
    | (go_at_call 36; refine (HR.out _).mono ?_; rintro e w3 ⟨rfl, hb⟩; have HF2 := hid (HF1.out.below hb); have hx := HF2.out.bx.cells; obtain ⟨z0, z1, z2⟩ := hx; clear hb)
    | (go_at_call 53; refine (Bf.put HF2.out _ HZ.out).mono ?_; rintro e w4 ⟨rfl, hf⟩; rw [List.nil_append, ← HHD.out] at hf; have HF3 := hid hf; have hx := HF3.out.bx.cells; obtain ⟨v0, v1, v2⟩ := hx; clear hf))
  all_goals exact REST HF3.out
end Go.Proofs.YtpfbemcoblganaaDoor.Pl
