/-
http.Parse as the printed functions call it.
The chapter's example, by reckoning.
slices.Clone of bytes that are there, and mac.Real: a maker by a key.
-/
import Derived.Test.YthdiiiopjkaifaaGreatDoorZdHttpF
import Derived.Test.YthdiiiopjkaifaaGreatDoorZdRpa
import Derived.Test.YthdiiiopjkaifaaGreatDoorZdPall5
import Derived.Test.YthdiiiopjkaifaaGreatDoorZdPall11
import Derived.Test.YthdiiiopjkaifaaGreatDoorZdSt
import Derived.Test.YthdiiiopjkaifaaGreatDoorProg
import Derived.Test.YthdiiiopjkaifaaGreatDoorZdShelf
import Derived.WalkSpells
import Derived.WalkKit
import Derived.ProofKit
import Derived.Tactics2
section
namespace Go.Proofs.YthdiiiopjkaifaaGreatDoor.Pl
open Go.RowKit Go.Proofs.YthdiiiopjkaifaaGreatDoor.Pall Go.Proofs.YthdiiiopjkaifaaGreatDoorW.PrintWords Go.Proofs.YthdiiiopjkaifaaGreatDoorW.PrintLast
set_option linter.unusedVariables false
set_option linter.unusedSimpArgs false
abbrev Req := ByteArray × ByteArray × List S76 × List Int × Int
def noReq (e : Int) : Req := (⟨#[]⟩, ⟨#[]⟩, [], [], e)
/-- a request of lines, and so many bytes behind them -/
def parseL (ls : List ByteArray) (bs : List Int) : Req :=
 match ls with
 | [] => noReq 10
 | x :: rest => if fstE x ≠ 0 then noReq (fstE x) else if 40 < rest.length then noReq 3 else if fldsE rest ≠ 0 then noReq (fldsE rest) else if bodyE (rest.map fldS) bs.length ≠ 0 then noReq (bodyE (rest.map fldS) bs.length) else (fstW x, sndW x, rest.map fldS, bs, 0)
def parseQ (l0 : List Int) : Req :=
 if (linesS (strOfNums l0).data.toList).2.2 = true then parseL (linesS (strOfNums l0).data.toList).1 (l0.drop (l0.length - (linesS (strOfNums l0).data.toList).2.1)) else noReq 10
theorem parse_noreq (A0 : Option Addr) (c0 : Nat) (l0 : List Int) (e : Int) (w : World) (h : Calls Tryz.prog 53 #[.slice A0 l0.length c0] w (ParseGot w ⟨#[]⟩ ⟨#[]⟩ [] [] e)) :
  Calls Tryz.prog 53 #[.slice A0 l0.length c0] w (ParseGot w (noReq e).1 (noReq e).2.1 (noReq e).2.2.1 (noReq e).2.2.2.1 (noReq e).2.2.2.2) := h
theorem parse_all (A0 : Option Addr) (c0 : Nat) (l0 : List Int) (w : World) (hS : Sh w) (hC : Kd.C (Kd.int .u8) w A0 l0.length l0) (hc0 : l0.length ≤ c0) (hl0 : l0.length < 4294967281) :
  Calls Tryz.prog 53 #[.slice A0 l0.length c0] w (ParseGot w (parseQ l0).1 (parseQ l0).2.1 (parseQ l0).2.2.1 (parseQ l0).2.2.2.1 (parseQ l0).2.2.2.2) := by
 obtain ⟨k, hk⟩ := (httpLines_ev l0 hl0).rounds
 have hlen : (strOfNums l0).data.toList.length = l0.length := by rw [strOfNums_data, List.length_map]
 have hn := linesS_len (strOfNums l0).data.toList
 have hcnt := linesK_count ((strOfNums l0).data.toList.length + 1) (strOfNums l0).data.toList []
 have hL : ∀ W, Below w.heap.size w W → Calls Tryz.prog 100 #[.slice A0 l0.length c0] W fun e w' => ∃ v0_ : Value, e = .returned (.tuple #[v0_, .int .i64 (lnR l0.length (linesS (strOfNums l0).data.toList)).2.1, .bool (lnR l0.length (linesS (strOfNums l0).data.toList)).2.2]) ∧ Kd.R Kd.string 9 w' W.heap.size (fun _ => True) v0_ (lnR l0.length (linesS (strOfNums l0).data.toList)).1 ∧ Below W.heap.size W w' :=
  fun W hW => http_Lines.calls k A0 c0 l0 _ _ _ W (Kd.C_below hC hW) hc0 (hS.of_below hW) hk
 change (linesS (strOfNums l0).data.toList).1.length ≤ _ at hcnt
 unfold parseQ
 generalize linesS (strOfNums l0).data.toList = r at *
 obtain ⟨ls, n, ok⟩ := r
 cases ok with
 | false =>
  simp only [Bool.false_eq_true, if_false]
  exact parse_noreq A0 c0 l0 10 w (parse_form A0 c0 l0 [] 0 false w hL (.inl rfl))
 | true =>
  simp only [if_true]
  unfold parseL
  simp only [hlen, List.length_nil, Nat.zero_add] at hn hcnt
  have hm : ((l0.length : Int) - (n : Int)) = ((l0.length - n : Nat) : Int) := by omega
  have hL2 : ∀ W, Below w.heap.size w W → Calls Tryz.prog 100 #[.slice A0 l0.length c0] W fun e w' => ∃ v0_ : Value, e = .returned (.tuple #[v0_, .int .i64 ((l0.length - n : Nat) : Int), .bool true]) ∧ Kd.R Kd.string 9 w' W.heap.size (fun _ => True) v0_ ls ∧ Below W.heap.size W w' := by
   intro W hW
   have h := hL W hW
   unfold lnR at h
   simp only [if_true, hm] at h
   exact h
  cases ls with
  | nil => exact parse_noreq A0 c0 l0 10 w (parse_form A0 c0 l0 [] _ true w hL2 (.inr rfl))
  | cons x rest =>
   simp only [List.length_cons] at hcnt
   show Calls Tryz.prog 53 #[.slice A0 l0.length c0] w (ParseGot w (if fstE x ≠ 0 then noReq (fstE x) else _ : Req).1 (if fstE x ≠ 0 then noReq (fstE x) else _ : Req).2.1 (if fstE x ≠ 0 then noReq (fstE x) else _ : Req).2.2.1 (if fstE x ≠ 0 then noReq (fstE x) else _ : Req).2.2.2.1 (if fstE x ≠ 0 then noReq (fstE x) else _ : Req).2.2.2.2)
   by_cases h1 : fstE x ≠ 0
   ·simp only [if_pos h1]
    exact parse_noreq A0 c0 l0 _ w (parse_first A0 c0 l0 x rest _ w hS hL2 h1)
   ·have h1' : fstE x = 0 := Decidable.not_not.1 h1
    simp only [if_neg h1]
    by_cases h2 : 40 < rest.length
    ·simp only [if_pos h2]
     exact parse_noreq A0 c0 l0 3 w (parse_long A0 c0 l0 x rest _ w hS hL2 h1' h2 (by omega))
    ·simp only [if_neg h2]
     by_cases h3 : fldsE rest ≠ 0
     ·simp only [if_pos h3]
      exact parse_noreq A0 c0 l0 _ w (parse_fields A0 c0 l0 x rest _ w hS hL2 h1' (by omega) h3)
     ·have h3' : fldsE rest = 0 := Decidable.not_not.1 h3
      simp only [if_neg h3]
      by_cases h4 : bodyE (rest.map fldS) (l0.drop (l0.length - n)).length ≠ 0
      ·simp only [if_pos h4]
       exact parse_noreq A0 c0 l0 _ w (parse_body A0 c0 l0 x rest _ w hS hL2 hC hc0 (by omega) (by omega) h1' (by omega) h3' h4)
      ·have h4' := Decidable.not_not.1 h4
       simp only [if_neg h4]
       exact parse_good A0 c0 l0 x rest _ w hS hL2 hC hc0 (by omega) (by omega) h1' (by omega) h3' h4'
end Go.Proofs.YthdiiiopjkaifaaGreatDoor.Pl
namespace Go.Proofs.YthdiiiopjkaifaaGreatDoor.Pall
open Go.RowKit Go.Proofs.YthdiiiopjkaifaaGreatDoor.Pl Go.Proofs.YthdiiiopjkaifaaGreatDoorW.PrintWords
def http_Parse.f (l0 : List Int) : Option (ByteArray × ByteArray × List S76 × List Int × Int) := if l0.length < 4294967281 then some (parseQ l0) else none
theorem http_Parse.calls (A0 : Option Addr) (c0 : Nat) (l0 : List Int) (r1 r2 : ByteArray) (r3 : List S76) (r4 : List Int) (r5 : Int) (w : World) (hr0 : Kd.C (Kd.int .u8) w A0 l0.length l0) (hc0 : l0.length ≤ c0) (hS : Sh w) (h : http_Parse.f l0 = some (r1, r2, r3, r4, r5)) :
  Calls Tryz.prog 53 #[.slice A0 l0.length c0] w fun e w' => ∃ v2_ v3_ : Value, e = .returned (.tuple #[.agg #[.string r1, .string r2, v2_, v3_], .int .u16 r5]) ∧ Kd.R k76 76 w' w.heap.size (fun _ => True) v2_ r3 ∧ Kd.R (Kd.int .u8) 5 w' w.heap.size (fun _ => True) v3_ r4 ∧ Below w.heap.size w w' := by
 unfold http_Parse.f at h
 split at h
 ·have h := Option.some.inj h
  have hA := parse_all A0 c0 l0 w hS hr0 hc0 (by assumption)
  rw [h] at hA
  exact hA
 ·cases h
end Go.Proofs.YthdiiiopjkaifaaGreatDoor.Pall
end
section
namespace Go.Proofs.YthdiiiopjkaifaaGreatDoor.Pl
open Go Go.RowKit Go.Proofs.YthdiiiopjkaifaaGreatDoor.Pall Go.Proofs.YthdiiiopjkaifaaGreatDoorW.PrintWords
def knRaw : List Int := [71, 69, 84, 32, 47, 120, 32, 72, 84, 84, 80, 47, 49, 46, 49, 13, 10, 72, 111, 115, 116, 58, 32, 97, 13, 10, 13, 10]
def knKey : List Int := List.replicate 16 0
theorem kn_parse : (http_Parse.f knRaw).map (fun x => (x.1, x.2.1, x.2.2.1.length, x.2.2.2.1, x.2.2.2.2)) = some (⟨#[71, 69, 84]⟩, ⟨#[47, 120]⟩, 1, [], 0) := by decide +kernel
theorem kn_page : (gate_bytes.f 5 9 0 1 knKey 404 ⟨#[]⟩ false ⟨#[]⟩ ⟨#[]⟩ ⟨#[]⟩).bind (fun o => (wicketmanref10_Parse.f 1000 o).map (fun x => (x.1, x.2.2.2))) = some (404, 0) := by decide +kernel
end Go.Proofs.YthdiiiopjkaifaaGreatDoor.Pl
end
section
namespace Go.Proofs.YthdiiiopjkaifaaGreatDoor.Pl
open Go Go.RowKit Go.Proofs.YthdiiiopjkaifaaGreatDoor.St Go.Proofs.YthdiiiopjkaifaaGreatDoorW.PrintWords Go.Proofs.YthdiiiopjkaifaaGreatDoorW.PrintLast
set_option linter.unusedVariables false
set_option linter.unusedSimpArgs false
theorem info_u8' : (Tryz.prog.info? 5).map (fun i => (i.zero, i.size, i.bytes)) = some (some (.int .u8 0), 1, 1) := by kernel_rfl
theorem own_empty (w : World) (B : Nat) (hB : B ≤ w.heap.size) (e : TypeId) : (w.alloc (.cells #[] e)).ownsRow B e 1 (.slice (some ⟨w.heap.size, 0, none⟩) 0 0) 0 [] :=
 ⟨rfl, .inr ⟨w.heap.size, 0, #[], rfl, hB, blk_new w _, Nat.le_refl _, Nat.zero_le _, rfl, rfl⟩⟩
theorem R_empty (w : World) (B : Nat) (hB : B ≤ w.heap.size) : Kd.R (Kd.int .u8) 5 (w.alloc (.cells #[] 5)) B (fun _ => True) (.slice (some ⟨w.heap.size, 0, none⟩) 0 0) [] :=
 ⟨fun _ _ => trivial, [], own_empty w B hB _, Reps.none _ _⟩
set_option maxRecDepth 100000 in
set_option maxHeartbeats 1000000 in
theorem clone_any (a : Addr) (c : Nat) (l : List Int) (W : World) (hr : Kd.C (Kd.int .u8) W (some a) l.length l) (hc : l.length ≤ c) (hl : l.length ≤ 140737488351232) :
  Calls Tryz.prog 57 #[.slice (some a) l.length c] W fun e w' => ∃ v, e = .returned v ∧ Kd.R (Kd.int .u8) 5 w' W.heap.size (fun _ => True) v l ∧ Below W.heap.size W w' := by
 have HTK := hid (show ReadsRow ((Kd.int .u8).K (W.alloc (.cells #[] 5))) (Kd.int .u8).sz (W.alloc (.cells #[] 5)) (some a) l.length l from Kd.C_alloc hr _)
 have HLN := hid (show (([] : List Int).length + l.length) * 1 ≤ 140737488355328 from by simp only [List.length_nil]; omega)
 have HSZ := hid (show W.heap.size ≤ (W.alloc (.cells #[] 5)).heap.size from by simp [World.alloc, -World.alloc_eq])
 have hn := fun (w : World) => (show (binOp .eql 23 (.slice (some a) l.length c) (.slice none 0 0)).run Tryz.prog w = .ok (.bool false) w from Lib.run_eql_slice_nil (P := Tryz.prog) w 23 5 (some a) l.length c 0 0 Tryz.underlying23)
 clear hr
 go_enter Tryz.func57, Tryz.ntmps57
 go_wp2_with ((with_reducible refine gate_builtin (b := .append) (xs := #[.tmp 5, .tmp 6]) rfl ?_); at_builtin; refine Kd.R_append_rows (Kd.int .u8) (w0 := W.alloc (.cells #[] 5)) W.heap.size rfl (.tmp 5) (.tmp 6) 23 5 (.int .u8 0) 1 rfl Tryz.underlying23 info_u8' rfl (by decide) (by omega) (.slice (some ⟨W.heap.size, 0, none⟩) 0 0) ([] : List Int) l _ _ _ (fun _ => True) (fun _ => False) rfl rfl (R_empty W W.heap.size (Nat.le_refl _)) HTK.out (fun _ _ h => h) (fun _ h => h.elim) (fun _ _ => trivial) (Below.refl _ _) HSZ.out HLN.out ?_; intro v1 w1 ho hb _ _; rw [List.nil_append] at ho; have HO := hid ho; have HB := hid hb; clear ho hb)
 go_ret
 exact ⟨_, rfl, HO.out, ((Below.refl _ W).alloc (Nat.le_refl _) _).trans HB.out⟩
def makerV (v : Value) : Value := .iface 115 (.agg #[v])
set_option maxRecDepth 100000 in
set_option maxHeartbeats 1000000 in
theorem real_any (a : Addr) (c : Nat) (l : List Int) (W : World) (hr : Kd.C (Kd.int .u8) W (some a) l.length l) (hc : l.length ≤ c) (hl : l.length ≤ 140737488351232) :
  Calls Tryz.prog 29 #[.slice (some a) l.length c] W fun e w' => ∃ v, e = .returned (makerV v) ∧ Kd.R (Kd.int .u8) 5 w' W.heap.size (fun _ => True) v l ∧ Below W.heap.size W w' := by
 have HC := hid (clone_any a c l W hr hc hl)
 clear hr
 go_enter Tryz.func29, Tryz.ntmps29
 go_wp2_with (go_at_call 57; refine HC.out.mono ?_; rintro e w1 ⟨v, rfl, h1, hb⟩; have hs1 := Kd.R_reads h1; obtain ⟨A1, k1, rfl, _, _⟩ := hs1; have H1 := hid h1; have HB := hid hb; clear h1 hb)
 go_ret
 exact ⟨_, rfl, H1.out, HB.out⟩
end Go.Proofs.YthdiiiopjkaifaaGreatDoor.Pl
end
