/-
  Package http: a reader's body.
-/
import Derived.Test.YtpfbemcoblganaaDoorQbHttpC
import Derived.Test.YtpfbemcoblganaaDoorQbAllS
import Derived.Deep.RegionWith
namespace Go.Proofs.YtpfbemcoblganaaDoor.Pl
open Go.RowKit Go.Proofs.YtpfbemcoblganaaDoor.Pall Go.Proofs.YtpfbemcoblganaaDoorW.PrintWords Go.Proofs.YtpfbemcoblganaaDoorW.PrintLast
set_option linter.unusedVariables false
set_option linter.unusedSimpArgs false
set_option maxRecDepth 100000 in
set_option maxHeartbeats 1000000 in
theorem body1_any (nm : ByteArray) (m p : ByteArray) (fv bv lv : Value) (fs : List S43) (bx b B : Nat) (w : World) (hbx : w.cell? ⟨bx, 0, none⟩ = some (.pointer (some ⟨b, 0, none⟩))) (hr : Rd w b m p fv bv lv) (hf : Kd.R k43 43 w B (fun _ => True) fv fs)
    (hl : fs.length < 8796093022208) (hs : ∀ p ∈ fs, p.f0.size ≤ 140737488351232) (hn : nm.size ≤ 140737488351232) :
    Calls Tryd.prog 74 #[.string nm, .pointer (some ⟨bx, 0, none⟩)] w fun e w' => ∃ A' c', e = .returned (.slice A' (allS fs nm).length c') ∧ (allS fs nm).length ≤ c' ∧ Kd.C Kd.string w' A' (allS fs nm).length (allS fs nm) ∧ Below w.heap.size w w' := by
  obtain ⟨k0, k1, k2, k3, k4⟩ := hr.cell
  obtain ⟨A, c, rfl, hc, hC⟩ := Kd.R_reads hf
  have HA := hid (all_any fs nm A c w hC hc hl hs hn)
  clear hf hC hr hs
  go_enter Tryd.func74, Tryd.ntmps74
  go_wp2_with (go_at_call 75; refine HA.out.mono ?_; rintro e w1 ⟨A1, c1, rfl, h1, h2, h3⟩; have H1 := hid h1; have H2 := hid h2; have H3 := hid h3; clear h1 h2 h3)
  go_ret
  exact ⟨A1, c1, rfl, H1.out, H2.out, H3.out⟩
def hostB : ByteArray := ⟨#[72, 111, 115, 116]⟩
def teB : ByteArray := ⟨#[84, 114, 97, 110, 115, 102, 101, 114, 45, 69, 110, 99, 111, 100, 105, 110, 103]⟩
def clB : ByteArray := ⟨#[67, 111, 110, 116, 101, 110, 116, 45, 76, 101, 110, 103, 116, 104]⟩
def bodyE (fs : List S43) (n : Nat) : Int :=
  if (allS fs hostB).length = 1 ∧ (allS fs teB).length = 0 ∧ (allS fs clB).length ≤ 1 then
    (match allS fs clB with
    | [] => if n = 0 then 0 else 13
    | s :: _ => if (decS s 4000).2 = true ∧ (decS s 4000).1 = (n : Int) then 0 else 13)
  else 14
/-- what stands while the body is read -/
structure Bs (w W : World) (bx b : Nat) (m p : ByteArray) (fv bv lv : Value) (fs : List S43) : Prop where
  bel : Below w.heap.size w W
  box : W.cell? ⟨bx, 0, none⟩ = some (.pointer (some ⟨b, 0, none⟩))
  rd : Rd W b m p fv bv lv
  row : Kd.R k43 43 W (b + 1) (fun _ => True) fv fs
  lt : bx < W.heap.size
  ge : w.heap.size ≤ bx
theorem Bs.below {w W W' : World} {bx b : Nat} {m p : ByteArray} {fv bv lv : Value} {fs : List S43} (h : Bs w W bx b m p fv bv lv fs) (hb : Below W.heap.size W W') : Bs w W' bx b m p fv bv lv fs :=
  ⟨h.bel.trans (hb.mono h.bel.size), (hb.cell h.lt).trans h.box, h.rd.below hb, Kd.R_below h.row hb, Nat.lt_of_lt_of_le h.lt hb.size, h.ge⟩
theorem Bs.call {w W : World} {bx b : Nat} {m p : ByteArray} {fv bv lv : Value} {fs : List S43} (h : Bs w W bx b m p fv bv lv fs) (hl : fs.length < 8796093022208) (hs : ∀ p ∈ fs, p.f0.size ≤ 140737488351232) (nm : ByteArray) (hn : nm.size ≤ 140737488351232) :
    Calls Tryd.prog 74 #[.string nm, .pointer (some ⟨bx, 0, none⟩)] W fun e w' => ∃ A' c', e = .returned (.slice A' (allS fs nm).length c') ∧ (allS fs nm).length ≤ c' ∧ Kd.C Kd.string w' A' (allS fs nm).length (allS fs nm) ∧ Below W.heap.size W w' :=
  body1_any nm m p fv bv lv fs bx b (b + 1) W h.box h.rd h.row hl hs hn
end Go.Proofs.YtpfbemcoblganaaDoor.Pl
