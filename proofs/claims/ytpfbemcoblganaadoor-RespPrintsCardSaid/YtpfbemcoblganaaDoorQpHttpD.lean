/-
All values of a name: what head.All comes to.
Package http: a reader's body.
-/
import Derived.Test.YtpfbemcoblganaaDoorQpPl08v
import Derived.Test.YtpfbemcoblganaaDoorQpPall36
import Derived.Test.YtpfbemcoblganaaDoorQpHttpC
import Derived.Deep.RegionWith
section
namespace Go.Proofs.YtpfbemcoblganaaDoor.Pall
open Go.RowKit Go.Proofs.YtpfbemcoblganaaDoorW.PrintWords Go.Proofs.YtpfbemcoblganaaDoorW.PrintLast Go.Proofs.YtpfbemcoblganaaDoor.Pl
set_option linter.unusedVariables false
set_option linter.unusedSimpArgs false
abbrev Pr := S43
def allS (l : List Pr) (n : ByteArray) : List ByteArray := (l.filter fun p => sameS p.f0 n).map (·.f1)
theorem allS_yes {p : Pr} {l : List Pr} {n : ByteArray} (h : sameS p.f0 n = true) : allS (p :: l) n = p.f1 :: allS l n := by
  simp [allS, List.filter_cons, h]
theorem allS_no {p : Pr} {l : List Pr} {n : ByteArray} (h : ¬ sameS p.f0 n = true) : allS (p :: l) n = allS l n := by
  simp [allS, List.filter_cons, h]
theorem rdP (l : List Pr) (i : Nat) : rd_T43 l (i : Int) = l.getD i z43 := by unfold rd_T43; rw [Int.toNat_natCast]
theorem drop_get {α : Type} (l : List α) (d : α) {i : Nat} (h : i < l.length) : l.drop i = l.getD i d :: l.drop (i + 1) := by
  rw [List.drop_eq_getElem_cons h, List.getD, List.getElem?_eq_getElem h]; rfl
theorem getD_mem {α : Type} (l : List α) (d : α) {i : Nat} (h : i < l.length) : l.getD i d ∈ l := by
  rw [List.getD, List.getElem?_eq_getElem h]; exact List.getElem_mem h
theorem headAll_loop (l : List Pr) (n : ByteArray) (hl : l.length < 8796093022208) (hs : ∀ p ∈ l, p.f0.size ≤ 140737488351232) (hn : n.size ≤ 140737488351232) : ∀ d i (out : List ByteArray), l.length - i = d → i ≤ l.length → out.length ≤ i →
    Ev (fun k => head_All.l0 k n out l (l.length : Int) (i : Nat)) (out ++ allS (l.drop i) n) := by
  intro d
  induction d with
  | zero =>
    intro i out hd hi ho
    obtain rfl : i = l.length := by omega
    refine Ev.step (f := fun _ => some out) (fun k => ?_) ?_
    · simp only [head_All.l0]; rw [if_neg (by omega)]
    · rw [List.drop_length]; simp only [allS, List.filter_nil, List.map_nil, List.append_nil]; exact Ev.now _
  | succ d ih =>
    intro i out hd hi ho
    have hlt : i < l.length := by omega
    have hm := hs _ (getD_mem l z43 hlt)
    rw [drop_get l z43 hlt]
    refine Ev.step (f := fun k => if sameS (l.getD i z43).f0 n = true then head_All.l0 k n (out ++ [(l.getD i z43).f1]) l (l.length : Int) ((i + 1 : Nat) : Int) else head_All.l0 k n out l (l.length : Int) ((i + 1 : Nat) : Int)) (fun k => ?_) ?_
    · simp only [head_All.l0]
      rw [if_pos (by omega), if_pos (by omega), if_pos (by omega), rdP, headSame _ _ hm hn, Option.bind_some, wrap_id (by omega) (by omega)]
      simp only [if_pos (show out.length < 8796093022208 by omega)]
      rfl
    · by_cases h : sameS (l.getD i z43).f0 n = true
      · simp only [if_pos h]
        have := ih (i + 1) (out ++ [(l.getD i z43).f1]) (by omega) (by omega) (by rw [List.length_append]; simp; omega)
        have e : out ++ allS (l.getD i z43 :: l.drop (i + 1)) n = out ++ [(l.getD i z43).f1] ++ allS (l.drop (i + 1)) n := by
          rw [allS_yes h]; simp
        rw [e]; exact this
      · simp only [if_neg h]
        have := ih (i + 1) out (by omega) (by omega) (by omega)
        have e : allS (l.getD i z43 :: l.drop (i + 1)) n = allS (l.drop (i + 1)) n := allS_no h
        rw [e]; exact this
theorem headAll_ev (l : List Pr) (n : ByteArray) (hl : l.length < 8796093022208) (hs : ∀ p ∈ l, p.f0.size ≤ 140737488351232) (hn : n.size ≤ 140737488351232) : Ev (fun k => head_All.f k l n) (allS l n) := by
  have h := headAll_loop l n hl hs hn _ 0 [] rfl (by omega) (by simp)
  rw [List.nil_append, List.drop_zero] at h; exact h
theorem all_any (l : List Pr) (n : ByteArray) (A : Option Addr) (c : Nat) (w : World) (hC : Kd.C k43 w A l.length l) (hc : l.length ≤ c) (hl : l.length < 8796093022208) (hs : ∀ p ∈ l, p.f0.size ≤ 140737488351232) (hn : n.size ≤ 140737488351232) :
    Calls Tryd.prog 75 #[.slice A l.length c, .string n] w fun e w' => ∃ A' c', e = .returned (.slice A' (allS l n).length c') ∧ (allS l n).length ≤ c' ∧ Kd.C Kd.string w' A' (allS l n).length (allS l n) ∧ Below w.heap.size w w' := by
  obtain ⟨k, hk⟩ := headAll_ev l n hl hs hn
  refine (head_All.calls k A c l n _ w hC hc (hk k (Nat.le_refl k))).mono ?_
  rintro e w' ⟨v, rfl, hR, hb⟩
  obtain ⟨A', c', rfl, h1, h2⟩ := Kd.R_reads hR
  exact ⟨A', c', rfl, h1, h2, hb⟩
end Go.Proofs.YtpfbemcoblganaaDoor.Pall
end
section
namespace Go.Proofs.YtpfbemcoblganaaDoor.Pl
open Go.RowKit Go.Proofs.YtpfbemcoblganaaDoor.Pall Go.Proofs.YtpfbemcoblganaaDoorW.PrintWords Go.Proofs.YtpfbemcoblganaaDoorW.PrintLast
set_option linter.unusedVariables false
set_option linter.unusedSimpArgs false
set_option maxRecDepth 100000 in
set_option maxHeartbeats 1000000 in
theorem body1_any (nm : ByteArray) (m p : ByteArray) (fv bv lv : Value) (fs : List S43) (bx b B : Nat) (w : World) (hbx : w.cell? ⟨bx, 0, none⟩ = some (.pointer (some ⟨b, 0, none⟩))) (hr : Rd w b m p fv bv lv) (hf : Kd.R k43 43 w B (fun _ => True) fv fs)
    (hl : fs.length < 8796093022208) (hs : ∀ p ∈ fs, p.f0.size ≤ 140737488351232) (hn : nm.size ≤ 140737488351232) :
    Calls Tryd.prog 74 #[.string nm, .pointer (some ⟨bx, 0, none⟩)] w fun e w' => ∃ A' c', e = .returned (.slice A' (allS fs nm).length c') ∧ (allS fs nm).length ≤ c' ∧ Kd.C Kd.string w' A' (allS fs nm).length (allS fs nm) ∧ Below w.heap.size w w' := by
  obtain ⟨k0, k1, k2, k3, k4⟩ := hr.cell
  obtain ⟨A, c, rfl, hc, hC⟩ := Kd.R_reads hf
  have HA := hid (all_any fs nm A c w hC hc hl hs hn)
  clear hf hC hr hs
  go_enter Tryd.func74, Tryd.ntmps74
  go_wp2_with (go_at_call 75; refine HA.out.mono ?_; rintro e w1 ⟨A1, c1, rfl, h1, h2, h3⟩; have H1 := hid h1; have H2 := hid h2; have H3 := hid h3; clear h1 h2 h3)
  go_ret
  exact ⟨A1, c1, rfl, H1.out, H2.out, H3.out⟩
def hostB : ByteArray := ⟨#[72, 111, 115, 116]⟩
def teB : ByteArray := ⟨#[84, 114, 97, 110, 115, 102, 101, 114, 45, 69, 110, 99, 111, 100, 105, 110, 103]⟩
def clB : ByteArray := ⟨#[67, 111, 110, 116, 101, 110, 116, 45, 76, 101, 110, 103, 116, 104]⟩
def bodyE (fs : List S43) (n : Nat) : Int :=
  if (allS fs hostB).length = 1 ∧ (allS fs teB).length = 0 ∧ (allS fs clB).length ≤ 1 then
    (match allS fs clB with
    | [] => if n = 0 then 0 else 13
    | s :: _ => if (decS s 4000).2 = true ∧ (decS s 4000).1 = (n : Int) then 0 else 13)
  else 14
/-- what stands while the body is read -/
structure Bs (w W : World) (bx b : Nat) (m p : ByteArray) (fv bv lv : Value) (fs : List S43) : Prop where
  bel : Below w.heap.size w W
  box : W.cell? ⟨bx, 0, none⟩ = some (.pointer (some ⟨b, 0, none⟩))
  rd : Rd W b m p fv bv lv
  row : Kd.R k43 43 W (b + 1) (fun _ => True) fv fs
  lt : bx < W.heap.size
  ge : w.heap.size ≤ bx
theorem Bs.below {w W W' : World} {bx b : Nat} {m p : ByteArray} {fv bv lv : Value} {fs : List S43} (h : Bs w W bx b m p fv bv lv fs) (hb : Below W.heap.size W W') : Bs w W' bx b m p fv bv lv fs :=
  ⟨h.bel.trans (hb.mono h.bel.size), (hb.cell h.lt).trans h.box, h.rd.below hb, Kd.R_below h.row hb, Nat.lt_of_lt_of_le h.lt hb.size, h.ge⟩
theorem Bs.call {w W : World} {bx b : Nat} {m p : ByteArray} {fv bv lv : Value} {fs : List S43} (h : Bs w W bx b m p fv bv lv fs) (hl : fs.length < 8796093022208) (hs : ∀ p ∈ fs, p.f0.size ≤ 140737488351232) (nm : ByteArray) (hn : nm.size ≤ 140737488351232) :
    Calls Tryd.prog 74 #[.string nm, .pointer (some ⟨bx, 0, none⟩)] W fun e w' => ∃ A' c', e = .returned (.slice A' (allS fs nm).length c') ∧ (allS fs nm).length ≤ c' ∧ Kd.C Kd.string w' A' (allS fs nm).length (allS fs nm) ∧ Below W.heap.size W w' :=
  body1_any nm m p fv bv lv fs bx b (b + 1) W h.box h.rd h.row hl hs hn
end Go.Proofs.YtpfbemcoblganaaDoor.Pl
end
