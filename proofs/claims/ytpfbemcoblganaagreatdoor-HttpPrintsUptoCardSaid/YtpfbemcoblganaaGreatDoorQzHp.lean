/-
  http.Parse as the printed functions call it.
-/
import Derived.Test.YtpfbemcoblganaaGreatDoorQzHttpF
import Derived.Test.YtpfbemcoblganaaGreatDoorQzLines
namespace Go.Proofs.YtpfbemcoblganaaGreatDoor.Pl
open Go.RowKit Go.Proofs.YtpfbemcoblganaaGreatDoor.Pall Go.Proofs.YtpfbemcoblganaaGreatDoorW.PrintWords Go.Proofs.YtpfbemcoblganaaGreatDoorW.PrintLast
set_option linter.unusedVariables false
set_option linter.unusedSimpArgs false
abbrev Req := ByteArray × ByteArray × List S34 × List Int × Int
def noReq (e : Int) : Req := (⟨#[]⟩, ⟨#[]⟩, [], [], e)
/-- a request of lines, and so many bytes behind them -/
def parseL (ls : List ByteArray) (bs : List Int) : Req :=
  match ls with
  | [] => noReq 10
  | x :: rest => if fstE x ≠ 0 then noReq (fstE x) else if 40 < rest.length then noReq 3 else if fldsE rest ≠ 0 then noReq (fldsE rest) else if bodyE (rest.map fldS) bs.length ≠ 0 then noReq (bodyE (rest.map fldS) bs.length) else (fstW x, sndW x, rest.map fldS, bs, 0)
def parseQ (l0 : List Int) : Req :=
  if (linesS (strOfNums l0).data.toList).2.2 = true then parseL (linesS (strOfNums l0).data.toList).1 (l0.drop (l0.length - (linesS (strOfNums l0).data.toList).2.1)) else noReq 10
theorem parse_noreq (A0 : Option Addr) (c0 : Nat) (l0 : List Int) (e : Int) (w : World) (h : Calls Tryz.prog 11 #[.slice A0 l0.length c0] w (ParseGot w ⟨#[]⟩ ⟨#[]⟩ [] [] e)) :
    Calls Tryz.prog 11 #[.slice A0 l0.length c0] w (ParseGot w (noReq e).1 (noReq e).2.1 (noReq e).2.2.1 (noReq e).2.2.2.1 (noReq e).2.2.2.2) := h
theorem parse_all (A0 : Option Addr) (c0 : Nat) (l0 : List Int) (w : World) (hS : Sh w) (hC : Kd.C (Kd.int .u8) w A0 l0.length l0) (hc0 : l0.length ≤ c0) (hl0 : l0.length < 4294967281) :
    Calls Tryz.prog 11 #[.slice A0 l0.length c0] w (ParseGot w (parseQ l0).1 (parseQ l0).2.1 (parseQ l0).2.2.1 (parseQ l0).2.2.2.1 (parseQ l0).2.2.2.2) := by
  obtain ⟨k, hk⟩ := (httpLines_ev l0 hl0).rounds
  have hlen : (strOfNums l0).data.toList.length = l0.length := by rw [strOfNums_data, List.length_map]
  have hn := linesS_len (strOfNums l0).data.toList
  have hcnt := linesK_count ((strOfNums l0).data.toList.length + 1) (strOfNums l0).data.toList []
  have hL : ∀ W, Below w.heap.size w W → Calls Tryz.prog 23 #[.slice A0 l0.length c0] W fun e w' => ∃ v0_ : Value, e = .returned (.tuple #[v0_, .int .i64 (lnR l0.length (linesS (strOfNums l0).data.toList)).2.1, .bool (lnR l0.length (linesS (strOfNums l0).data.toList)).2.2]) ∧ Kd.R Kd.string 9 w' W.heap.size (fun _ => True) v0_ (lnR l0.length (linesS (strOfNums l0).data.toList)).1 ∧ Below W.heap.size W w' :=
    fun W hW => http_Lines.calls k A0 c0 l0 _ _ _ W (Kd.C_below hC hW) hc0 (hS.of_below hW) hk
  change (linesS (strOfNums l0).data.toList).1.length ≤ _ at hcnt
  unfold parseQ
  generalize linesS (strOfNums l0).data.toList = r at *
  obtain ⟨ls, n, ok⟩ := r
  cases ok with
  | false =>
    simp only [Bool.false_eq_true, if_false]
    exact parse_noreq A0 c0 l0 10 w (parse_form A0 c0 l0 [] 0 false w hL (.inl rfl))
  | true =>
    simp only [if_true]
    unfold parseL
    simp only [hlen, List.length_nil, Nat.zero_add] at hn hcnt
    have hm : ((l0.length : Int) - (n : Int)) = ((l0.length - n : Nat) : Int) := by omega
    have hL2 : ∀ W, Below w.heap.size w W → Calls Tryz.prog 23 #[.slice A0 l0.length c0] W fun e w' => ∃ v0_ : Value, e = .returned (.tuple #[v0_, .int .i64 ((l0.length - n : Nat) : Int), .bool true]) ∧ Kd.R Kd.string 9 w' W.heap.size (fun _ => True) v0_ ls ∧ Below W.heap.size W w' := by
      intro W hW
      have h := hL W hW
      unfold lnR at h
      simp only [if_true, hm] at h
      exact h
    cases ls with
    | nil => exact parse_noreq A0 c0 l0 10 w (parse_form A0 c0 l0 [] _ true w hL2 (.inr rfl))
    | cons x rest =>
      simp only [List.length_cons] at hcnt
      show Calls Tryz.prog 11 #[.slice A0 l0.length c0] w (ParseGot w (if fstE x ≠ 0 then noReq (fstE x) else _ : Req).1 (if fstE x ≠ 0 then noReq (fstE x) else _ : Req).2.1 (if fstE x ≠ 0 then noReq (fstE x) else _ : Req).2.2.1 (if fstE x ≠ 0 then noReq (fstE x) else _ : Req).2.2.2.1 (if fstE x ≠ 0 then noReq (fstE x) else _ : Req).2.2.2.2)
      by_cases h1 : fstE x ≠ 0
      · simp only [if_pos h1]
        exact parse_noreq A0 c0 l0 _ w (parse_first A0 c0 l0 x rest _ w hS hL2 h1)
      · have h1' : fstE x = 0 := Decidable.not_not.1 h1
        simp only [if_neg h1]
        by_cases h2 : 40 < rest.length
        · simp only [if_pos h2]
          exact parse_noreq A0 c0 l0 3 w (parse_long A0 c0 l0 x rest _ w hS hL2 h1' h2 (by omega))
        · simp only [if_neg h2]
          by_cases h3 : fldsE rest ≠ 0
          · simp only [if_pos h3]
            exact parse_noreq A0 c0 l0 _ w (parse_fields A0 c0 l0 x rest _ w hS hL2 h1' (by omega) h3)
          · have h3' : fldsE rest = 0 := Decidable.not_not.1 h3
            simp only [if_neg h3]
            by_cases h4 : bodyE (rest.map fldS) (l0.drop (l0.length - n)).length ≠ 0
            · simp only [if_pos h4]
              exact parse_noreq A0 c0 l0 _ w (parse_body A0 c0 l0 x rest _ w hS hL2 hC hc0 (by omega) (by omega) h1' (by omega) h3' h4)
            · have h4' := Decidable.not_not.1 h4
              simp only [if_neg h4]
              exact parse_good A0 c0 l0 x rest _ w hS hL2 hC hc0 (by omega) (by omega) h1' (by omega) h3' h4'
end Go.Proofs.YtpfbemcoblganaaGreatDoor.Pl
namespace Go.Proofs.YtpfbemcoblganaaGreatDoor.Pall
open Go.RowKit Go.Proofs.YtpfbemcoblganaaGreatDoor.Pl Go.Proofs.YtpfbemcoblganaaGreatDoorW.PrintWords
def http_Parse.f (l0 : List Int) : Option (ByteArray × ByteArray × List S34 × List Int × Int) := if l0.length < 4294967281 then some (parseQ l0) else none
theorem http_Parse.calls (A0 : Option Addr) (c0 : Nat) (l0 : List Int) (r1 r2 : ByteArray) (r3 : List S34) (r4 : List Int) (r5 : Int) (w : World) (hr0 : Kd.C (Kd.int .u8) w A0 l0.length l0) (hc0 : l0.length ≤ c0) (hS : Sh w) (h : http_Parse.f l0 = some (r1, r2, r3, r4, r5)) :
    Calls Tryz.prog 11 #[.slice A0 l0.length c0] w fun e w' => ∃ v2_ v3_ : Value, e = .returned (.tuple #[.agg #[.string r1, .string r2, v2_, v3_], .int .u16 r5]) ∧ Kd.R k34 34 w' w.heap.size (fun _ => True) v2_ r3 ∧ Kd.R (Kd.int .u8) 5 w' w.heap.size (fun _ => True) v3_ r4 ∧ Below w.heap.size w w' := by
  unfold http_Parse.f at h
  split at h
  · have h := Option.some.inj h
    have hA := parse_all A0 c0 l0 w hS hr0 hc0 (by assumption)
    rw [h] at hA
    exact hA
  · cases h
end Go.Proofs.YtpfbemcoblganaaGreatDoor.Pall
