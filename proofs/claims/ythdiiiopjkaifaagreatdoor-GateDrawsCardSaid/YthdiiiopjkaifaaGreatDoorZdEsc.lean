/-
 text.Escape: what it writes, rune by rune.
-/
import Derived.Test.YthdiiiopjkaifaaGreatDoorZdGset
import Derived.Lib.OthersKept
import Derived.Lib.MapLaws
import Derived.Lib.TrimUEq
import Derived.LoopTactic
namespace Go.Proofs.YthdiiiopjkaifaaGreatDoor.Pl
open Go Go.RowKit Go.Proofs.YthdiiiopjkaifaaGreatDoor.St Go.Proofs.YthdiiiopjkaifaaGreatDoorW.PrintWords Go.Proofs.YthdiiiopjkaifaaGreatDoorW.PrintLast
open Go.Lib (decodeL encodeRune byteCells)
set_option linter.unusedVariables false
set_option linter.unusedSimpArgs false
/-- what stands for the first rune of a text -/
def escOne (l : List UInt8) : List UInt8 :=
 if (decodeL l).1 = 38 then [38, 97, 109, 112, 59] else if (decodeL l).1 = 60 then [38, 108, 116, 59] else if (decodeL l).1 = 62 then [38, 103, 116, 59] else if (decodeL l).1 = 34 then [38, 35, 51, 52, 59] else if (decodeL l).1 = 39 then [38, 35, 51, 57, 59]
 else if (decodeL l).1 = 65533 then (if Lib.hasPrefix l [239, 191, 189] = true then encodeRune 65533 else [63]) else encodeRune ((decodeL l).1 : Int)
def escL : Nat → List UInt8 → List UInt8
 | 0, _ => []
 | n + 1, l => if l = [] then [] else escOne l ++ escL n (l.drop (decodeL l).2)
def escS (s : ByteArray) : ByteArray := ⟨(escL s.size s.data.toList).toArray⟩
theorem escL_nil (n : Nat) : escL n [] = [] := by cases n <;> rfl
theorem decode_drop (s : ByteArray) (pos : Nat) : Utf8.decode s pos = decodeL (s.data.toList.drop pos) := by
 rw [Lib.decode_N, Lib.decodeL_N]
 simp [List.getD, List.getElem?_drop]
theorem encodeRune_len (r : Int) : (encodeRune r).length ≤ 4 := by
 unfold encodeRune
 rw [List.length_map]
 exact (Lib.encodeRuneZ_length r).2
theorem escOne_len (l : List UInt8) : (escOne l).length ≤ 5 := by
 have := encodeRune_len
 unfold escOne
 repeat' split
 all_goals first | decide | exact Nat.le_trans (this _) (by decide)
theorem escL_len : ∀ (n : Nat) (l : List UInt8), (escL n l).length ≤ 5 * n
 | 0, _ => Nat.le_refl _
 | n + 1, l => by
  have h1 := escOne_len l
  have h2 := escL_len n (l.drop (decodeL l).2)
  unfold escL
  split
  ·simp
  ·rw [List.length_append]; omega
theorem iter_pos {w : World} {k : Nat} {s : ByteArray} {p : Nat} (h : w.heap[k]? = some (.stringIter s p)) : w.iterPos k = p := by simp [World.iterPos, h]
/-- what stands while the text is gone through -/
structure Es (W : World) (s : ByteArray) (pos : Nat) (pre : List UInt8) (w : World) : Prop where
 bel : Below W.heap.size W w
 bl : ∃ p v, Bl W.heap.size W.heap.size p v (byteCells pre) w
 it : w.heap[W.heap.size + 1]? = some (.stringIter s pos)
 le : pos ≤ s.size
 len : pre.length ≤ 5 * pos
theorem Es.moved {W : World} {s : ByteArray} {pos : Nat} {pre : List UInt8} {w : World} (h : Es W s pos pre w) (pos' : Nat) (h1 : pos' ≤ s.size) (h2 : pos ≤ pos') : Es W s pos' pre (w.iterAt (W.heap.size + 1) s pos') where
 bel := Lib.below_iterAt h.bel (by omega) s pos'
 bl := by
  obtain ⟨p, v, hb⟩ := h.bl
  refine ⟨p, v, hb.dep (Lib.iterAt_other _ _ _ _ _ (by omega)) (fun k hk => Lib.iterAt_other _ _ _ _ _ (fun e => ?_))⟩
  subst e
  obtain ⟨cells, hc⟩ := own_typed hb.row _ hk
  rw [h.it] at hc
  cases hc
 it := Lib.iterAt_heap _ _ _ _ _ h.it
 le := h1
 len := Nat.le_trans h.len (by omega)
/-- behind a piece that was written -/
theorem Es.wrote {W : World} {s : ByteArray} {pos : Nat} {pre : List UInt8} {w w' : World} (h : Es W s pos pre w) {p v p' v' : Value} (hb : Bl W.heap.size W.heap.size p v (byteCells pre) w) (x : List UInt8) (hb' : Bl W.heap.size W.heap.size p' v' (byteCells (pre ++ x)) w') (hm : Mut (W.heap.size :: v.ownBlock.toList) w w') (hl : (pre ++ x).length ≤ 5 * pos) : Es W s pos (pre ++ x) w' where
 bel := h.bel.trans (hm.below h.bel.size (fun b hb1 => by
  rcases List.mem_cons.1 hb1 with rfl | h1
  ·exact Nat.le_refl _
  ·exact own_base hb.row b (by simpa using h1)))
 bl := ⟨p', v', hb'⟩
 it := (hm.keep _ (blk_lt h.it) (fun hb1 => by
  rcases List.mem_cons.1 hb1 with h1 | h1
  ·omega
  ·obtain ⟨cells, hc⟩ := own_typed hb.row (W.heap.size + 1) (by simpa using h1)
   rw [h.it] at hc
   cases hc)).trans h.it
 le := h.le
 len := hl
theorem Es.start (W : World) (s : ByteArray) : Es W s 0 [] ((W.alloc (.cells #[.pointer none, .slice none 0 0] 131)).iter s 0) where
 bel := ((Below.refl _ W).alloc (Nat.le_refl _) _).alloc (by simp [World.alloc, -World.alloc_eq]) _
 bl := ⟨_, _, (Bl.start W W.heap.size (Nat.le_refl _)).below ((Below.refl _ _).alloc (Nat.le_refl _) _)⟩
 it := by
  have h := World.iter_heap (W.alloc (.cells #[.pointer none, .slice none 0 0] 131)) s 0
  have e : (W.alloc (.cells #[.pointer none, .slice none 0 0] 131)).heap.size = W.heap.size + 1 := by simp [World.alloc, -World.alloc_eq]
  rw [e] at h
  exact h
 le := Nat.zero_le _
 len := Nat.zero_le _
theorem esc_cases (l : List UInt8) : ((decodeL l).1 = 38 ∧ escOne l = [38, 97, 109, 112, 59]) ∨ ((decodeL l).1 = 60 ∧ escOne l = [38, 108, 116, 59]) ∨ ((decodeL l).1 = 62 ∧ escOne l = [38, 103, 116, 59]) ∨ ((decodeL l).1 = 34 ∧ escOne l = [38, 35, 51, 52, 59]) ∨ ((decodeL l).1 = 39 ∧ escOne l = [38, 35, 51, 57, 59]) ∨
  ((decodeL l).1 = 65533 ∧ Lib.hasPrefix l [239, 191, 189] = true ∧ escOne l = encodeRune 65533) ∨ ((decodeL l).1 = 65533 ∧ Lib.hasPrefix l [239, 191, 189] = false ∧ escOne l = [63]) ∨
  ((decodeL l).1 ≠ 38 ∧ (decodeL l).1 ≠ 60 ∧ (decodeL l).1 ≠ 62 ∧ (decodeL l).1 ≠ 34 ∧ (decodeL l).1 ≠ 39 ∧ (decodeL l).1 ≠ 65533 ∧ escOne l = encodeRune ((decodeL l).1 : Int)) := by
 unfold escOne
 generalize (decodeL l).1 = c
 by_cases h1 : c = 38
 ·subst h1; simp
 by_cases h2 : c = 60
 ·subst h2; simp
 by_cases h3 : c = 62
 ·subst h3; simp
 by_cases h4 : c = 34
 ·subst h4; simp
 by_cases h5 : c = 39
 ·subst h5; simp
 by_cases h6 : c = 65533
 ·subst h6
  by_cases h7 : Lib.hasPrefix l [239, 191, 189] = true
  ·simp [h7]
  ·simp [h7]
 ·simp [h1, h2, h3, h4, h5, h6]
def EscDone (W : World) (s : ByteArray) (e : Ending) (w' : World) : Prop := e = .returned (.string (escS s)) ∧ Below W.heap.size W w'
theorem escL_step (n : Nat) (l : List UInt8) (hl : l ≠ []) : escL (n + 1) l = escOne l ++ escL n (l.drop (decodeL l).2) := by
 rw [escL, if_neg hl]
/-- where the text stands behind a piece -/
theorem Es.stepL {s : ByteArray} {pos n : Nat} {pre : List UInt8} (hp : pos < s.size) (HL : pre ++ escL (n + 1) (s.data.toList.drop pos) = escL s.size s.data.toList) :
  (pre ++ escOne (s.data.toList.drop pos)) ++ escL n (s.data.toList.drop (pos + (Utf8.decode s pos).2)) = escL s.size s.data.toList := by
 rw [← HL, escL_step n _ (by intro h; have := congrArg List.length h; rw [List.length_drop] at this; have e : s.data.toList.length = s.size := rfl; rw [e] at this; simp at this; omega), List.append_assoc, List.drop_drop, decode_drop]
theorem esc_width (s : ByteArray) (pos : Nat) (hp : pos < s.size) : 1 ≤ (Utf8.decode s pos).2 ∧ pos + (Utf8.decode s pos).2 ≤ s.size := by
 rw [decode_drop]
 have e : s.data.toList.length = s.size := rfl
 have hne : s.data.toList.drop pos ≠ [] := by
  intro h
  have := congrArg List.length h
  rw [List.length_drop] at this
  simp at this
  omega
 have h1 := Lib.decodeL_le _ hne
 have h2 := Lib.decodeL_width (s.data.toList.drop pos)
 rw [List.length_drop] at h1
 constructor <;> omega
theorem extract_drop (s : ByteArray) (pos : Nat) : (s.extract pos s.size).data.toList = s.data.toList.drop pos := by
 have e : s.data.toList.length = s.size := rfl
 simp [ByteArray.data_extract, Array.toList_extract, List.extract, e]
 exact List.take_of_length_le (by rw [List.length_drop, e]; exact Nat.le_refl _)
set_option maxRecDepth 100000 in
set_option maxHeartbeats 8000000 in
theorem escape_any (s : ByteArray) (hs : s.size ≤ 1000000) (W : World) : Calls Tryz.prog 70 #[.string s] W (EscDone W s) := by
 have HST := hid (Es.start W s)
 go_enter Tryz.func70, Tryz.ntmps70
 go_wp2
 go_loopw [] (fun wr => ∃ (pos n : Nat) (pre : List UInt8), Hid (Es W s pos pre wr) ∧ s.size ≤ pos + n ∧ Hid (pre ++ escL n (s.data.toList.drop pos) = escL s.size s.data.toList)) (fun wr => s.size - wr.iterPos (W.heap.size + 1))
 case atStart => exact ⟨0, s.size, [], HST, by omega, hid rfl⟩
 case round =>
  obtain ⟨pos, n, pre, HE, hn, HL⟩ := hrel
  have hit := HE.out.it
  have hlen := HE.out.len
  by_cases hp : pos < s.size
  ·have hnx : ∀ ty, (Instr.next (.pointer (some ⟨W.heap.size + 1, 0, none⟩)) true ty).run Tryz.prog wr = _ := fun ty => Lib.run_next_any_at wr (W.heap.size + 1) s pos ty hit hp
   obtain ⟨n, rfl⟩ : ∃ f', n = f' + 1 := ⟨n - 1, by omega⟩
   obtain ⟨hw1, hw2⟩ := esc_width s pos hp
   have HP0 := hid (iter_pos hit)
   have HLn := hid (Es.stepL hp HL.out)
   have HEn := hid (HE.out.moved (pos + (Utf8.decode s pos).2) hw2 (by omega))
   have hc := esc_cases (s.data.toList.drop pos)
   rw [← decode_drop] at hc
   have hr1 : ((Utf8.decode s pos).1 : Int) ≤ 2147483647 := by have := decode_le s pos; omega
   have hl5 : pre.length + 5 ≤ 5 * (pos + (Utf8.decode s pos).2) := by omega
   generalize hdn : (Utf8.decode s pos).2 = dn at *
   generalize hdc : (Utf8.decode s pos).1 = dc at *
   clear HST hdn hdc HE HL hit hlen
   obtain ⟨W1, hW1⟩ : ∃ W1, W1 = wr.iterAt (W.heap.size + 1) s (pos + dn) := ⟨_, rfl⟩
   rw [← hW1] at hnx HEn
   clear hW1
   obtain ⟨p1, v1, hbl⟩ := HEn.out.bl
   have hHle := HEn.out.bel.size
   have hcl : (byteCells pre).length = pre.length := Lib.byteCells_length pre
   have HWS := hid (fun (x : ByteArray) (hx : x.size ≤ 5) => bl_writeString _ _ _ _ _ x W1 hbl (by rw [hcl]; omega) hHle)
   have HWR := hid (fun (r : Int) (h0 : 0 ≤ r) (h1 : r ≤ 2147483647) => bl_writeRune _ _ _ _ _ r (by omega) h1 W1 hbl (by rw [hcl]; omega) hHle)
   have HWB := hid (fun (c : Int) => bl_writeByte _ _ _ _ _ c W1 hbl (by rw [hcl]; omega) hHle)
   have HFN := hid (fun (x : List UInt8) (hx : x.length ≤ 5) (p' v' : Value) (W2 : World) (hb' : Bl W.heap.size W.heap.size p' v' (byteCells pre ++ byteCells x) W2) (hm : Mut (W.heap.size :: v1.ownBlock.toList) W1 W2) =>
    HEn.out.wrote hbl x (by rw [Lib.byteCells_append]; exact hb') hm (by rw [List.length_append]; omega))
   have HHP := hid (fun (W' : World) => Tryz.strings_HasPrefix (s.extract pos s.size) ⟨#[239, 191, 189]⟩ W')
   rw [extract_drop] at HHP
   clear hbl hHle hcl HEn
   have hpI : (pos : Int) ≤ (s.size : Int) := by omega
   have hp0 : (0 : Int) ≤ (pos : Int) := by omega
   rcases hc with ⟨rfl, ho⟩ | ⟨rfl, ho⟩ | ⟨rfl, ho⟩ | ⟨rfl, ho⟩ | ⟨rfl, ho⟩ | ⟨rfl, hpf, ho⟩ | ⟨rfl, hpf, ho⟩ | ⟨h1, h2, h3, h4, h5, h6, ho⟩
   ·rw [ho] at HLn
    clear ho HWR HWB HHP
    go_wp2_with (go_at_call 68; refine (HWS.out ⟨#[38, 97, 109, 112, 59]⟩ (by decide)).mono ?_; rintro e w2 ⟨rfl, v2, hb2, hm2⟩; have HN := hid (HFN.out [38, 97, 109, 112, 59] (by decide) _ _ _ hb2 hm2); clear hb2 hm2)
    go_roundw
    case rel => exact ⟨_, n, _, HN, by omega, HLn⟩
    case measure => rw [iter_pos HN.out.it, HP0.out]; omega
   ·rw [ho] at HLn
    clear ho HWR HWB HHP
    go_wp2_with (go_at_call 68; refine (HWS.out ⟨#[38, 108, 116, 59]⟩ (by decide)).mono ?_; rintro e w2 ⟨rfl, v2, hb2, hm2⟩; have HN := hid (HFN.out [38, 108, 116, 59] (by decide) _ _ _ hb2 hm2); clear hb2 hm2)
    go_roundw
    case rel => exact ⟨_, n, _, HN, by omega, HLn⟩
    case measure => rw [iter_pos HN.out.it, HP0.out]; omega
   ·rw [ho] at HLn
    clear ho HWR HWB HHP
    go_wp2_with (go_at_call 68; refine (HWS.out ⟨#[38, 103, 116, 59]⟩ (by decide)).mono ?_; rintro e w2 ⟨rfl, v2, hb2, hm2⟩; have HN := hid (HFN.out [38, 103, 116, 59] (by decide) _ _ _ hb2 hm2); clear hb2 hm2)
    go_roundw
    case rel => exact ⟨_, n, _, HN, by omega, HLn⟩
    case measure => rw [iter_pos HN.out.it, HP0.out]; omega
   ·rw [ho] at HLn
    clear ho HWR HWB HHP
    go_wp2_with (go_at_call 68; refine (HWS.out ⟨#[38, 35, 51, 52, 59]⟩ (by decide)).mono ?_; rintro e w2 ⟨rfl, v2, hb2, hm2⟩; have HN := hid (HFN.out [38, 35, 51, 52, 59] (by decide) _ _ _ hb2 hm2); clear hb2 hm2)
    go_roundw
    case rel => exact ⟨_, n, _, HN, by omega, HLn⟩
    case measure => rw [iter_pos HN.out.it, HP0.out]; omega
   ·rw [ho] at HLn
    clear ho HWR HWB HHP
    go_wp2_with (go_at_call 68; refine (HWS.out ⟨#[38, 35, 51, 57, 59]⟩ (by decide)).mono ?_; rintro e w2 ⟨rfl, v2, hb2, hm2⟩; have HN := hid (HFN.out [38, 35, 51, 57, 59] (by decide) _ _ _ hb2 hm2); clear hb2 hm2)
    go_roundw
    case rel => exact ⟨_, n, _, HN, by omega, HLn⟩
    case measure => rw [iter_pos HN.out.it, HP0.out]; omega
   ·rw [ho] at HLn
    clear ho HWS HWB
    go_wp2_with (first
     | (go_at_call 117; refine (HHP.out _).mono ?_; rintro e w' ⟨rfl, rfl⟩)
     | (go_at_call 118; refine (HWR.out 65533 (by decide) (by decide)).mono ?_; rintro e w2 ⟨nn, rfl, v2, hb2, hm2⟩; have HN := hid (HFN.out (encodeRune 65533) (Nat.le_trans (encodeRune_len _) (by decide)) _ _ _ (by rw [Lib.byteCells_encodeRune]; exact hb2) hm2); clear hb2 hm2))
    go_roundw
    case rel => exact ⟨_, n, _, HN, by omega, HLn⟩
    case measure => rw [iter_pos HN.out.it, HP0.out]; omega
   ·rw [ho] at HLn
    clear ho HWS HWR
    go_wp2_with (first
     | (go_at_call 117; refine (HHP.out _).mono ?_; rintro e w' ⟨rfl, rfl⟩)
     | (go_at_call 119; refine (HWB.out 63).mono ?_; rintro e w2 ⟨rfl, v2, hb2, hm2⟩; have HN := hid (HFN.out [63] (by decide) _ _ _ hb2 hm2); clear hb2 hm2))
    go_roundw
    case rel => exact ⟨_, n, _, HN, by omega, HLn⟩
    case measure => rw [iter_pos HN.out.it, HP0.out]; omega
   ·rw [ho] at HLn
    clear ho HWS HWB HHP
    have h0 : (0 : Int) ≤ (dc : Int) := by omega
    have k1 : ((dc : Int) == 38) = false := by simp; omega
    have k2 : ((dc : Int) == 60) = false := by simp; omega
    have k3 : ((dc : Int) == 62) = false := by simp; omega
    have k4 : ((dc : Int) == 34) = false := by simp; omega
    have k5 : ((dc : Int) == 39) = false := by simp; omega
    have k6 : ((dc : Int) == 65533) = false := by simp; omega
    go_wp2_with (go_at_call 118; refine (HWR.out (dc : Int) h0 hr1).mono ?_; rintro e w2 ⟨nn, rfl, v2, hb2, hm2⟩; have HN := hid (HFN.out (encodeRune (dc : Int)) (Nat.le_trans (encodeRune_len _) (by decide)) _ _ _ (by rw [Lib.byteCells_encodeRune]; exact hb2) hm2); clear hb2 hm2)
    go_roundw
    case rel => exact ⟨_, n, _, HN, by omega, HLn⟩
    case measure => rw [iter_pos HN.out.it, HP0.out]; omega
  ·have hnx : ∀ ty, (Instr.next (.pointer (some ⟨W.heap.size + 1, 0, none⟩)) true ty).run Tryz.prog wr = _ := fun ty => Lib.run_next_end_at wr (W.heap.size + 1) s pos ty hit hp
   have hpe : pos = s.size := by have := HE.out.le; omega
   have HF := hid (show pre = escL s.size s.data.toList from by
    rw [← HL.out, hpe, List.drop_eq_nil_of_le (show s.data.toList.length ≤ s.size from Nat.le_refl _), escL_nil, List.append_nil])
   obtain ⟨p1, v1, hbl⟩ := HE.out.bl
   have HSTR := hid (Tryz.Builder_String_any W.heap.size W.heap.size pre wr hbl.is HE.out.bel.size)
   have HBE := hid HE.out.bel
   clear hbl hit HST HL HE hlen hpe hn
   go_wp2_with (go_at_call 76; refine HSTR.out.mono ?_; rintro e w2 ⟨rfl, hb2⟩; have HB2 := hid hb2; clear hb2)
   go_ret
   refine ⟨?_, HBE.out.trans HB2.out⟩
   rw [HF.out]
   rfl
end Go.Proofs.YthdiiiopjkaifaaGreatDoor.Pl
