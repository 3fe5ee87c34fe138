/-
Requests that are laid line by line: what is parsed of them; escaped texts.
What was printed is parsed as it was; cut off, or with more behind, it is none.
-/
import Derived.Test.YtpfbemcoblganaaDoorQpPall9
import Derived.Test.YtpfbemcoblganaaDoorQpPall5
import Derived.Test.YtpfbemcoblganaaDoorQpPall6
import Derived.Test.YtpfbemcoblganaaDoorQpPall7
import Derived.Test.YtpfbemcoblganaaDoorQpPall8
import Derived.Test.YtpfbemcoblganaaDoorQpPall4
import Derived.Test.YtpfbemcoblganaaDoorQpPall10
import Derived.Test.YtpfbemcoblganaaDoorQpPall0
import Derived.Test.YtpfbemcoblganaaDoorQpPall2
import Derived.Test.YtpfbemcoblganaaDoorQpLines
import Derived.Test.YtpfbemcoblganaaDoorQpPall13
import Derived.Test.YtpfbemcoblganaaDoorQpHttpC
section
namespace Go.Proofs.YtpfbemcoblganaaDoor.Pl
open Go.RowKit Go.Proofs.YtpfbemcoblganaaDoor.Pall Go.Proofs.YtpfbemcoblganaaDoorW.PrintWords Go.Proofs.YtpfbemcoblganaaDoorW.PrintLast
set_option linter.unusedVariables false
set_option linter.unusedSimpArgs false
def chB (c : Int) : Bool := if c ≥ 97 then (if c ≤ 122 then true else (if c ≥ 65 then (if c ≤ 90 then true else (if c ≥ 48 then (if c ≤ 57 then true else (if c = 45 then true else (if c = 46 then true else (if c = 95 then true else (c == 126))))) else (if c = 45 then true else (if c = 46 then true else (if c = 95 then true else (c == 126)))))) else (if c ≥ 48 then (if c ≤ 57 then true else (if c = 45 then true else (if c = 46 then true else (if c = 95 then true else (c == 126))))) else (if c = 45 then true else (if c = 46 then true else (if c = 95 then true else (c == 126))))))) else (if c ≥ 65 then (if c ≤ 90 then true else (if c ≥ 48 then (if c ≤ 57 then true else (if c = 45 then true else (if c = 46 then true else (if c = 95 then true else (c == 126))))) else (if c = 45 then true else (if c = 46 then true else (if c = 95 then true else (c == 126)))))) else (if c ≥ 48 then (if c ≤ 57 then true else (if c = 45 then true else (if c = 46 then true else (if c = 95 then true else (c == 126))))) else (if c = 45 then true else (if c = 46 then true else (if c = 95 then true else (c == 126))))))
theorem esc_l0 (k : Nat) (s out : ByteArray) (i : Nat) (h : i < s.size) : wicketmanref07_Escape.l0 (k + 1) s out (i : Nat) = wicketmanref07_Escape.j1 k s out (i : Nat) (bt s (i : Nat)) (chB (bt s (i : Nat))) := by
  simp only [wicketmanref07_Escape.l0]
  rw [if_pos (by omega), if_pos (by omega)]
  unfold chB
  simp only [apply_ite (wicketmanref07_Escape.j1 k s out (i : Nat) (bt s (i : Nat)))]
theorem up_one (n : Nat) (h : n < 16) : ((⟨#[48, 49, 50, 51, 52, 53, 54, 55, 56, 57, 65, 66, 67, 68, 69, 70]⟩ : ByteArray).extract n (n + 1)).size = 1 := by
  rw [ByteArray.size_extract]; show min (n + 1) 16 - n = 1; omega
theorem up_vis (n : Nat) (h : n < 16) : ((⟨#[48, 49, 50, 51, 52, 53, 54, 55, 56, 57, 65, 66, 67, 68, 69, 70]⟩ : ByteArray).extract n (n + 1)).data.toList.all pthB = true := by
  have hall : ((List.range 16).all fun n => ((⟨#[48, 49, 50, 51, 52, 53, 54, 55, 56, 57, 65, 66, 67, 68, 69, 70]⟩ : ByteArray).extract n (n + 1)).data.toList.all pthB) = true := by decide +kernel
  exact List.all_eq_true.1 hall n (List.mem_range.2 h)
theorem ch_vis (c : UInt8) (h : chB (c.toNat : Int) = true) : pthB c = true := by
  have := u8_all (fun c => !chB (c.toNat : Int) || pthB c) (by decide +kernel) c
  rw [h] at this; simpa using this
theorem app_vis {a b : ByteArray} (ha : a.data.toList.all pthB = true) (hb : b.data.toList.all pthB = true) : (a ++ b).data.toList.all pthB = true := by
  rw [show (a ++ b).data.toList = a.data.toList ++ b.data.toList by simp, List.all_append, ha, hb]; rfl
theorem esc_loop (s : ByteArray) (hs : s.size ≤ 1000000) : ∀ d i (out : ByteArray), s.size - i = d → i ≤ s.size → out.size ≤ 3 * i → out.data.toList.all pthB = true → ∃ r : ByteArray, r.size ≤ 3 * s.size ∧ r.data.toList.all pthB = true ∧ Ev (fun k => wicketmanref07_Escape.l0 k s out (i : Nat)) r := by
  intro d
  induction d with
  | zero =>
    intro i out hd hi ho hv
    refine ⟨out, by omega, hv, Ev.step (f := fun _ => some out) (fun k => ?_) (Ev.now _)⟩
    simp only [wicketmanref07_Escape.l0]; rw [if_neg (by omega)]
  | succ d ih =>
    intro i out hd hi ho hv
    have hlt : i < s.size := by omega
    have hb := bt_nat s i hlt
    have hc := (s.data.toList.getD i 0).toNat_lt
    cases hch : chB (bt s (i : Nat)) with
    | true =>
      have hz : (s.extract i (i + 1)).size = 1 := by rw [ByteArray.size_extract]; omega
      have hx : s.extract i (i + 1) = mkB [s.data.toList.getD i 0] := Pall.ba_ext (by
        rw [Lib.extract_data, mkB_list, List.drop_eq_getElem_cons (by rw [len_data]; exact hlt), List.getD, List.getElem?_eq_getElem (by rw [len_data]; exact hlt), show i + 1 - i = 1 by omega]; rfl)
      have hxv : (s.extract i (i + 1)).data.toList.all pthB = true := by
        rw [hx, mkB_list, List.all_cons, ch_vis _ (by rw [← hb]; exact hch)]; rfl
      obtain ⟨r, h1, h3, h2⟩ := ih (i + 1) (out ++ s.extract i (i + 1)) (by omega) (by omega) (by rw [ByteArray.size_append, hz]; omega) (app_vis hv hxv)
      refine ⟨r, h1, h3, Ev.step (fun k => by rw [esc_l0 k s out i hlt, hch]) (Ev.step (fun k => ?_) h2)⟩
      simp only [wicketmanref07_Escape.j1]
      rw [if_pos trivial, wrap_id (by omega) (by omega), if_pos (by omega), if_pos (by omega), if_pos (by omega), Int.toNat_natCast, show ((i : Int) + 1).toNat = i + 1 by omega, if_pos (by rw [hz]; omega)]
      rfl
    | false =>
      by_cases h32 : bt s (i : Nat) = 32
      · obtain ⟨r, h1, h3, h2⟩ := ih (i + 1) (out ++ (⟨#[43]⟩ : ByteArray)) (by omega) (by omega) (by rw [ByteArray.size_append]; show out.size + 1 ≤ _; omega) (app_vis hv (by decide))
        refine ⟨r, h1, h3, Ev.step (fun k => by rw [esc_l0 k s out i hlt, hch]) (Ev.step (fun k => ?_) h2)⟩
        simp only [wicketmanref07_Escape.j1]
        rw [if_neg (by decide), if_pos h32, wrap_id (by omega) (by omega), if_pos (by omega)]
        rfl
      · have e1 : (Int.tdiv (bt s (i : Nat)) 16) % 256 = (((s.data.toList.getD i 0).toNat / 16 : Nat) : Int) := by
          rw [hb, Int.tdiv_eq_ediv_of_nonneg (by omega)]; omega
        have e2 : Int.tmod (bt s (i : Nat)) 16 = (((s.data.toList.getD i 0).toNat % 16 : Nat) : Int) := by
          rw [hb, tmod_pos _ (by omega)]; omega
        have g1 : (s.data.toList.getD i 0).toNat / 16 < 16 := by omega
        have g2 : (s.data.toList.getD i 0).toNat % 16 < 16 := by omega
        generalize (s.data.toList.getD i 0).toNat / 16 = a at *
        generalize (s.data.toList.getD i 0).toNat % 16 = b at *
        have u1 := up_one a g1
        have u2 := up_one b g2
        have w1 : (((a : Int) + 1) % 256).toNat = a + 1 := by omega
        have w2 : (((b : Int) + 1) % 256).toNat = b + 1 := by omega
        obtain ⟨r, h1, h3, h2⟩ := ih (i + 1) (((out ++ (⟨#[37]⟩ : ByteArray)) ++ (⟨#[48, 49, 50, 51, 52, 53, 54, 55, 56, 57, 65, 66, 67, 68, 69, 70]⟩ : ByteArray).extract a (a + 1)) ++ (⟨#[48, 49, 50, 51, 52, 53, 54, 55, 56, 57, 65, 66, 67, 68, 69, 70]⟩ : ByteArray).extract b (b + 1)) (by omega) (by omega) (by
          rw [ByteArray.size_append, ByteArray.size_append, ByteArray.size_append, u1, u2]; show out.size + 1 + 1 + 1 ≤ _; omega) (app_vis (app_vis (app_vis hv (by decide)) (up_vis a g1)) (up_vis b g2))
        refine ⟨r, h1, h3, Ev.step (fun k => by rw [esc_l0 k s out i hlt, hch]) (Ev.step (fun k => ?_) h2)⟩
        simp only [wicketmanref07_Escape.j1]
        rw [if_neg (by decide), if_neg h32, e1, e2, wrap_id (by omega) (by omega), if_pos (by omega), if_pos (by omega), if_pos (by omega), if_pos (by omega), w1, w2, Int.toNat_natCast, Int.toNat_natCast,
          if_pos (by rw [ByteArray.size_append, u1]; show out.size + 1 + 1 ≤ _; omega), if_pos (by omega), if_pos (by omega), if_pos (by omega), if_pos (by rw [ByteArray.size_append, ByteArray.size_append, u1, u2]; show out.size + 1 + 1 + 1 ≤ _; omega)]
        rfl
theorem esc_ev (s : ByteArray) (hs : s.size ≤ 1000000) : ∃ r : ByteArray, r.size ≤ 3 * s.size ∧ r.data.toList.all pthB = true ∧ Ev (fun k => wicketmanref07_Escape.f k s) r :=
  esc_loop s hs _ 0 _ rfl (by omega) (by show 0 ≤ _; omega) rfl
end Go.Proofs.YtpfbemcoblganaaDoor.Pl
end
section
namespace Go.Proofs.YtpfbemcoblganaaDoor.Pl
open Go.RowKit Go.Proofs.YtpfbemcoblganaaDoor.Pall Go.Proofs.YtpfbemcoblganaaDoorW.PrintWords Go.Proofs.YtpfbemcoblganaaDoorW.PrintLast
set_option linter.unusedVariables false
set_option linter.unusedSimpArgs false
/-- a field that may be printed, and read -/
def goodP (p : S43) : Prop := tokL p.f0.data.toList = true ∧ p.f1.data.toList.all pthB = true ∧ p.f0.data.toList.length + 2 + p.f1.data.toList.length ≤ 2000
def stsL : List Int := [200, 303, 400, 401, 403, 404, 405, 409, 413, 429, 431, 503]
end Go.Proofs.YtpfbemcoblganaaDoor.Pl
end
