/-
  HeadValues: for every byte and choices the law returns true.
-/
import Derived.Test.YtgajaaagpihlkaaDoorRowA
import Derived.Test.YtgajaaagpihlkaaDoorPl08
import Derived.Test.YtgajaaagpihlkaaDoorTie
import Derived.Test.YtgajaaagpihlkaaDoorCards
import Derived.Outline
namespace Go.Proofs.YtgajaaagpihlkaaDoor.headValues
open Go.RowKit Go.Proofs.YtgajaaagpihlkaaDoorW.PrintWords Go.Proofs.YtgajaaagpihlkaaDoor.Pall Go.Proofs.YtgajaaagpihlkaaDoor.Pl
set_option linter.unusedVariables false
set_option linter.unusedSimpArgs false

def xS (a : UInt8) : ByteArray := ⟨#[97]⟩ ++ strOfNums [(a.toNat : Int)] ++ ⟨#[98]⟩
def lS (a : UInt8) (s : ByteArray) : ByteArray := ⟨#[110, 58]⟩ ++ strOfNums [(a.toNat : Int)] ++ ⟨#[118]⟩ ++ s
theorem xS_size (a : UInt8) : (xS a).size ≤ 140737488351232 := by
  have : (xS a).size = 3 := rfl
  omega
theorem sb_size (s : ByteArray) (h : s.size ≤ 30) : (s ++ ⟨#[98, 32]⟩).size ≤ 140737488351232 := by
  rw [ByteArray.size_append]; show s.size + 2 ≤ _; omega
theorem val_x (a : UInt8) : valL (xS a).data.toList = valB a := by
  have e : (xS a).data.toList = [97, a, 98] := by simp [xS, strOfNums]
  rw [e]
  have h := u8_all (fun a => valL [97, a, 98] == valB a) (by decide +kernel) a
  simpa using h
theorem val_b (s : ByteArray) : valL (s ++ ⟨#[98, 32]⟩).data.toList = false := by
  have e : (s ++ ⟨#[98, 32]⟩).data.toList = s.data.toList ++ [98] ++ [32] := by simp
  unfold valL
  rw [e, trimL_snoc (by decide)]
  have h := trimL_le (s.data.toList ++ [98])
  have : (s.data.toList ++ [98] ++ [32] == trimL (s.data.toList ++ [98])) = false := by
    rw [beq_eq_false_iff_ne]; intro h2
    have := congrArg List.length h2
    rw [List.length_append] at this
    simp at this h; omega
  rw [this]; simp
theorem field_l (a : UInt8) (s : ByteArray) (hs : s.data.toList.all letter8 = true) (hl : s.size ≤ 30) :
    fieldS (lS a s) = if valB a = true then (⟨#[110]⟩, (if blk a = true then ⟨#[118]⟩ ++ s else strOfNums [(a.toNat : Int)] ++ ⟨#[118]⟩ ++ s), 0) else (⟨#[]⟩, ⟨#[]⟩, 12) := by
  have e : (lS a s).data.toList = 110 :: 58 :: a :: 118 :: s.data.toList := by simp [lS, strOfNums]
  have hsz : (lS a s).size ≤ 40 := by have : (lS a s).size = (lS a s).data.toList.length := rfl; rw [this, e]; simp; have : s.data.toList.length = s.size := rfl; omega
  have hp : pos (110 :: 58 :: a :: 118 :: s.data.toList) 58 = 1 := pos_eq (by simp) rfl (fun j hj => by
    obtain rfl : j = 0 := by omega
    show (110 : UInt8) ≠ 58; decide)
  unfold fieldS
  rw [if_neg (by omega), e, hp, if_neg (by simp)]
  have ht : tokL (List.take 1 (110 :: 58 :: a :: 118 :: s.data.toList)) = true := by show tokL [110] = true; decide
  have hd : List.drop (1 + 1) (110 :: 58 :: a :: 118 :: s.data.toList) = a :: 118 :: s.data.toList := rfl
  rw [ht, hd]
  have hv : letter8 118 = true := by decide
  have hall : (118 :: s.data.toList).all letter8 = true := by rw [List.all_cons, hv, hs]; rfl
  have hlast : ∀ x, (118 :: s.data.toList).getLast? = some x → blk x = false := last_letters hall
  have hvs : valL (118 :: s.data.toList) = true := valL_letters hall
  have htr : trimL (118 :: s.data.toList) = 118 :: s.data.toList := trimL_same (fun x hx => by injection hx with hx; subst hx; decide) hlast
  by_cases hb : blk a = true
  · have hva : valB a = true := by
      have := u8_all (fun c => !blk c || valB c) (by decide +kernel) a; simpa [hb] using this
    rw [trimL_cons hb, htr, hvs, if_pos (by decide), if_pos hva, if_pos hb]
    rfl
  · have hb' : blk a = false := by simpa using hb
    have hta : trimL (a :: 118 :: s.data.toList) = a :: 118 :: s.data.toList := trimL_same (fun x hx => by injection hx with hx; subst hx; exact hb') (fun x hx => by
      rw [List.getLast?_cons_cons] at hx; exact hlast x hx)
    rw [hta]
    by_cases hva : valB a = true
    · have : valL (a :: 118 :: s.data.toList) = true := valL_of (by rw [List.all_cons, hva, all_imp hall letter_val]; rfl) (fun x hx => by injection hx with hx; subst hx; exact hb') (fun x hx => by
        rw [List.getLast?_cons_cons] at hx; exact hlast x hx)
      rw [this, if_pos (by decide), if_pos hva, if_neg hb]
      exact Prod.ext rfl (Prod.ext (ba_ext (by simp [mkB, strOfNums])) rfl)
    · have hva' : valB a = false := by simpa using hva
      have : valL (a :: 118 :: s.data.toList) = false := by unfold valL; rw [List.all_cons, hva']; rfl
      rw [this, if_neg (by decide), if_neg hva]; rfl

/-- what one byte comes to -/
inductive Kind (a : UInt8) : Prop
  | blank (h : (a.toNat : Int) = 32)
  | tab (h : (a.toNat : Int) = 9)
  | good (h1 : 33 ≤ (a.toNat : Int)) (h2 : (a.toNat : Int) ≠ 127)
  | del (h : (a.toNat : Int) = 127)
  | low (h1 : (a.toNat : Int) < 32) (h2 : (a.toNat : Int) ≠ 9)
theorem kind_of (a : UInt8) : Kind a := by
  by_cases h1 : (a.toNat : Int) = 32
  · exact .blank h1
  by_cases h2 : (a.toNat : Int) = 9
  · exact .tab h2
  by_cases h3 : (a.toNat : Int) = 127
  · exact .del h3
  by_cases h4 : (a.toNat : Int) < 32
  · exact .low h4 h2
  · exact .good (by omega) h3
theorem valB_at (a : UInt8) : valB a = ((decide (32 ≤ (a.toNat : Int)) && !((a.toNat : Int) == 127)) || ((a.toNat : Int) == 9)) := by
  have h := u8_all (fun a => valB a == ((decide (32 ≤ (a.toNat : Int)) && !((a.toNat : Int) == 127)) || ((a.toNat : Int) == 9))) (by decide +kernel) a
  simpa using h
theorem blk_at (a : UInt8) : blk a = (((a.toNat : Int) == 32) || ((a.toNat : Int) == 9)) := by
  have h := u8_all (fun a => blk a == (((a.toNat : Int) == 32) || ((a.toNat : Int) == 9))) (by decide +kernel) a
  simpa using h

set_option maxRecDepth 100000 in
set_option maxHeartbeats 2000000 in
theorem core (a : UInt8) (A1 : Option Addr) (c1 : Nat) (l1 : List Int) {W : World} (hr1 : Kd.C (Kd.int .u8) W A1 l1.length l1) (hc1 : l1.length ≤ c1) (hw1 : ∀ x ∈ l1, (Lit.int .u8 x).wf = true) (y1 : l1.length ≤ 140737488351232) (hS : Sh W) :
    Calls Tryd.prog 5 #[.int .u8 a.toNat, .slice A1 l1.length c1] W fun e W' => e = .returned (.bool true) ∧ Below W.heap.size W W' := by
  have HW := hid (u8s_of_wf hw1)
  have hz0 := wordS_size l1
  have hlet := wordS_letters l1
  have hu := Tryd.underlying31
  have hcv : ∀ (W : World) (b : Nat) (x : Int), W.cell? ⟨b, 0, none⟩ = some (.int .u8 x) → (convert 22 9 (.slice (some ⟨b, 0, none⟩) 1 1)).run Tryd.prog W = .ok (.string (strOfNums [x])) W := conv1
  have HX := hid (val_x a)
  have HB := hid (val_b (wordS l1))
  have HF := hid (field_l a (wordS l1) hlet hz0)
  clear hw1 hlet
  go_enter Tryd.func5, Tryd.ntmps5
  go_wp2_with fail
  refine (word_any A1 c1 l1 _ hr1 hc1 HW.out (by omega)).mono ?_
  rintro e w1 ⟨rfl, hb1⟩
  generalize wordS l1 = s at *
  have hsz : (strOfNums [(a.toNat : Int)]).size = 1 := rfl
  have HS1 := hid (show sameS ⟨#[110]⟩ ⟨#[110]⟩ = true by decide)
  have HS0 := hid (show sameS ⟨#[]⟩ ⟨#[]⟩ = true by decide)
  have hvb := valB_at a
  have hbb := blk_at a
  rcases kind_of a with h | h | ⟨h, h'⟩ | h | ⟨h, h'⟩
  · have h32 : 32 ≤ (a.toNat : Int) := by omega
    have e127 : ((a.toNat : Int) == 127) = false := beq_eq_false_iff_ne.2 (by omega)
    have n127 : ((a.toNat : Int) != 127) = true := bne_iff_ne.2 (by omega)
    have e32 : ((a.toNat : Int) == 32) = true := beq_iff_eq.2 h
    have e9 : ((a.toNat : Int) == 9) = false := beq_eq_false_iff_ne.2 (by omega)
    rw [e127, e9, decide_eq_true h32] at hvb
    rw [e32] at hbb
    have HX := hid (HX.out.trans hvb)
    have HF : Hid (fieldS (lS a s) = _) := hid (HF.out.trans (by rw [if_pos (show valB a = true from hvb), if_pos (show blk a = true from hbb)]))
    clear hvb hbb h
    go_wp2_with fail
    refine (field_any (lS a s) _ (hS.of_below (by repeat (first | (with_reducible first | exact hb1 | apply below_alloc | apply pw_below_drewN | apply below_drew1) | exact hb1)))).mono ?_
    rintro e w2 ⟨rfl, hb2⟩
    have HB2 := hid (below_step (by repeat (first | (with_reducible first | exact hb1 | apply below_alloc | apply pw_below_drewN | apply below_drew1) | exact hb1)) hb2)
    rw [HF.out]
    clear hb2 hb1 HF
    go_wp2_with fail
    refine (known08_any _ (hS.of_below (by repeat (first | (with_reducible first | exact HB2.out | apply below_alloc | apply pw_below_drewN | apply below_drew1) | exact HB2.out)))).mono ?_
    rintro e w3 ⟨rfl, hb3⟩
    have HB3 := hid (below_step (by repeat (first | (with_reducible first | exact HB2.out | apply below_alloc | apply pw_below_drewN | apply below_drew1) | exact HB2.out)) hb3)
    have hp0 : w3.cell? ⟨w2.heap.size, 0, none⟩ = some (.string _) := (hb3.cell (p := ⟨w2.heap.size, 0, none⟩) (by simp)).trans (cell_new _ _ _ _)
    have hp1 : w3.cell? ⟨w2.heap.size, 1, none⟩ = some (.string _) := (hb3.cell (p := ⟨w2.heap.size, 1, none⟩) (by simp)).trans (cell_new _ _ _ _)
    have hz3 := hb3.size
    simp at hz3
    clear hb3
    go_wp2_with fail
    have hv4 := value_any (xS a) w3 (xS_size a)
    rw [HX.out] at hv4
    refine hv4.mono ?_
    clear hv4
    rintro e w4 ⟨rfl, hb4⟩
    have HB4 := hid (HB3.out.trans (hb4.mono HB3.out.size))
    have hp0 := (hb4.cell (p := ⟨w2.heap.size, 0, none⟩) (by show w2.heap.size < _; omega)).trans hp0
    have hp1 := (hb4.cell (p := ⟨w2.heap.size, 1, none⟩) (by show w2.heap.size < _; omega)).trans hp1
    have hz4 := hb4.size
    go_wp2_with fail
    have hv5 := value_any (s ++ ⟨#[98, 32]⟩) w4 (sb_size s hz0)
    rw [HB.out] at hv5
    refine hv5.mono ?_
    clear hv5
    rintro e w5 ⟨rfl, hb5⟩
    have HB5 := hid (HB4.out.trans (hb5.mono HB4.out.size))
    have hp0 := (hb5.cell (p := ⟨w2.heap.size, 0, none⟩) (by show w2.heap.size < _; omega)).trans hp0
    have hp1 := (hb5.cell (p := ⟨w2.heap.size, 1, none⟩) (by show w2.heap.size < _; omega)).trans hp1
    have hz5 : w2.heap.size < w5.heap.size := by have := hb5.size; omega
    clear hb4 hb5
    go_wp2_with fail
    refine (same_any ⟨#[110]⟩ ⟨#[110]⟩ _ (by decide) (by decide)).mono ?_
    rintro e w6 ⟨rfl, hb6⟩
    rw [HS1.out]
    go_wp2
    go_ret
    exact ⟨rfl, below_step (by repeat (first | (with_reducible first | exact HB5.out | apply below_alloc | apply pw_below_drewN | apply below_drew1) | exact HB5.out)) hb6⟩
  · have h32 : (a.toNat : Int) < 32 := by omega
    have e32 : ((a.toNat : Int) == 32) = false := beq_eq_false_iff_ne.2 (by omega)
    have e9 : ((a.toNat : Int) == 9) = true := beq_iff_eq.2 h
    rw [e9, Bool.or_true] at hvb
    rw [e9, Bool.or_true] at hbb
    have HX := hid (HX.out.trans hvb)
    have HF : Hid (fieldS (lS a s) = _) := hid (HF.out.trans (by rw [if_pos (show valB a = true from hvb), if_pos (show blk a = true from hbb)]))
    clear hvb hbb h
    go_wp2_with fail
    refine (field_any (lS a s) _ (hS.of_below (by repeat (first | (with_reducible first | exact hb1 | apply below_alloc | apply pw_below_drewN | apply below_drew1) | exact hb1)))).mono ?_
    rintro e w2 ⟨rfl, hb2⟩
    have HB2 := hid (below_step (by repeat (first | (with_reducible first | exact hb1 | apply below_alloc | apply pw_below_drewN | apply below_drew1) | exact hb1)) hb2)
    rw [HF.out]
    clear hb2 hb1 HF
    go_wp2_with fail
    refine (known08_any _ (hS.of_below (by repeat (first | (with_reducible first | exact HB2.out | apply below_alloc | apply pw_below_drewN | apply below_drew1) | exact HB2.out)))).mono ?_
    rintro e w3 ⟨rfl, hb3⟩
    have HB3 := hid (below_step (by repeat (first | (with_reducible first | exact HB2.out | apply below_alloc | apply pw_below_drewN | apply below_drew1) | exact HB2.out)) hb3)
    have hp0 : w3.cell? ⟨w2.heap.size, 0, none⟩ = some (.string _) := (hb3.cell (p := ⟨w2.heap.size, 0, none⟩) (by simp)).trans (cell_new _ _ _ _)
    have hp1 : w3.cell? ⟨w2.heap.size, 1, none⟩ = some (.string _) := (hb3.cell (p := ⟨w2.heap.size, 1, none⟩) (by simp)).trans (cell_new _ _ _ _)
    have hz3 := hb3.size
    simp at hz3
    clear hb3
    go_wp2_with fail
    have hv4 := value_any (xS a) w3 (xS_size a)
    rw [HX.out] at hv4
    refine hv4.mono ?_
    clear hv4
    rintro e w4 ⟨rfl, hb4⟩
    have HB4 := hid (HB3.out.trans (hb4.mono HB3.out.size))
    have hp0 := (hb4.cell (p := ⟨w2.heap.size, 0, none⟩) (by show w2.heap.size < _; omega)).trans hp0
    have hp1 := (hb4.cell (p := ⟨w2.heap.size, 1, none⟩) (by show w2.heap.size < _; omega)).trans hp1
    have hz4 := hb4.size
    go_wp2_with fail
    have hv5 := value_any (s ++ ⟨#[98, 32]⟩) w4 (sb_size s hz0)
    rw [HB.out] at hv5
    refine hv5.mono ?_
    clear hv5
    rintro e w5 ⟨rfl, hb5⟩
    have HB5 := hid (HB4.out.trans (hb5.mono HB4.out.size))
    have hp0 := (hb5.cell (p := ⟨w2.heap.size, 0, none⟩) (by show w2.heap.size < _; omega)).trans hp0
    have hp1 := (hb5.cell (p := ⟨w2.heap.size, 1, none⟩) (by show w2.heap.size < _; omega)).trans hp1
    have hz5 : w2.heap.size < w5.heap.size := by have := hb5.size; omega
    clear hb4 hb5
    go_wp2_with fail
    refine (same_any ⟨#[110]⟩ ⟨#[110]⟩ _ (by decide) (by decide)).mono ?_
    rintro e w6 ⟨rfl, hb6⟩
    rw [HS1.out]
    go_wp2
    go_ret
    exact ⟨rfl, below_step (by repeat (first | (with_reducible first | exact HB5.out | apply below_alloc | apply pw_below_drewN | apply below_drew1) | exact HB5.out)) hb6⟩
  · have h32 : 32 ≤ (a.toNat : Int) := by omega
    have e127 : ((a.toNat : Int) == 127) = false := beq_eq_false_iff_ne.2 h'
    have n127 : ((a.toNat : Int) != 127) = true := bne_iff_ne.2 h'
    have e32 : ((a.toNat : Int) == 32) = false := beq_eq_false_iff_ne.2 (by omega)
    have e9 : ((a.toNat : Int) == 9) = false := beq_eq_false_iff_ne.2 (by omega)
    rw [e127, e9, decide_eq_true h32] at hvb
    rw [e32, e9] at hbb
    have HX := hid (HX.out.trans hvb)
    have HF : Hid (fieldS (lS a s) = _) := hid (HF.out.trans (by rw [if_pos (show valB a = true from hvb), if_neg (show ¬ blk a = true by rw [hbb]; decide)]))
    clear hvb hbb h h'
    go_wp2_with fail
    refine (field_any (lS a s) _ (hS.of_below (by repeat (first | (with_reducible first | exact hb1 | apply below_alloc | apply pw_below_drewN | apply below_drew1) | exact hb1)))).mono ?_
    rintro e w2 ⟨rfl, hb2⟩
    have HB2 := hid (below_step (by repeat (first | (with_reducible first | exact hb1 | apply below_alloc | apply pw_below_drewN | apply below_drew1) | exact hb1)) hb2)
    rw [HF.out]
    clear hb2 hb1 HF
    go_wp2_with fail
    refine (known08_any _ (hS.of_below (by repeat (first | (with_reducible first | exact HB2.out | apply below_alloc | apply pw_below_drewN | apply below_drew1) | exact HB2.out)))).mono ?_
    rintro e w3 ⟨rfl, hb3⟩
    have HB3 := hid (below_step (by repeat (first | (with_reducible first | exact HB2.out | apply below_alloc | apply pw_below_drewN | apply below_drew1) | exact HB2.out)) hb3)
    have hp0 : w3.cell? ⟨w2.heap.size, 0, none⟩ = some (.string _) := (hb3.cell (p := ⟨w2.heap.size, 0, none⟩) (by simp)).trans (cell_new _ _ _ _)
    have hp1 : w3.cell? ⟨w2.heap.size, 1, none⟩ = some (.string _) := (hb3.cell (p := ⟨w2.heap.size, 1, none⟩) (by simp)).trans (cell_new _ _ _ _)
    have hz3 := hb3.size
    simp at hz3
    clear hb3
    go_wp2_with fail
    have hv4 := value_any (xS a) w3 (xS_size a)
    rw [HX.out] at hv4
    refine hv4.mono ?_
    clear hv4
    rintro e w4 ⟨rfl, hb4⟩
    have HB4 := hid (HB3.out.trans (hb4.mono HB3.out.size))
    have hp0 := (hb4.cell (p := ⟨w2.heap.size, 0, none⟩) (by show w2.heap.size < _; omega)).trans hp0
    have hp1 := (hb4.cell (p := ⟨w2.heap.size, 1, none⟩) (by show w2.heap.size < _; omega)).trans hp1
    have hz4 := hb4.size
    go_wp2_with fail
    have hv5 := value_any (s ++ ⟨#[98, 32]⟩) w4 (sb_size s hz0)
    rw [HB.out] at hv5
    refine hv5.mono ?_
    clear hv5
    rintro e w5 ⟨rfl, hb5⟩
    have HB5 := hid (HB4.out.trans (hb5.mono HB4.out.size))
    have hp0 := (hb5.cell (p := ⟨w2.heap.size, 0, none⟩) (by show w2.heap.size < _; omega)).trans hp0
    have hp1 := (hb5.cell (p := ⟨w2.heap.size, 1, none⟩) (by show w2.heap.size < _; omega)).trans hp1
    have hz5 : w2.heap.size < w5.heap.size := by have := hb5.size; omega
    clear hb4 hb5
    go_wp2_with fail
    refine (same_any ⟨#[110]⟩ ⟨#[110]⟩ _ (by decide) (by decide)).mono ?_
    rintro e w6 ⟨rfl, hb6⟩
    rw [HS1.out]
    go_wp2
    go_ret
    exact ⟨rfl, below_step (by repeat (first | (with_reducible first | exact HB5.out | apply below_alloc | apply pw_below_drewN | apply below_drew1) | exact HB5.out)) hb6⟩
  · have h32 : 32 ≤ (a.toNat : Int) := by omega
    have e127 : ((a.toNat : Int) == 127) = true := beq_iff_eq.2 h
    have n127 : ((a.toNat : Int) != 127) = false := by rw [bne, e127]; rfl
    have e32 : ((a.toNat : Int) == 32) = false := beq_eq_false_iff_ne.2 (by omega)
    have e9 : ((a.toNat : Int) == 9) = false := beq_eq_false_iff_ne.2 (by omega)
    rw [e127, e9, decide_eq_true h32] at hvb
    have HX := hid (HX.out.trans hvb)
    have HF : Hid (fieldS (lS a s) = _) := hid (HF.out.trans (by rw [if_neg (show ¬ valB a = true by rw [hvb]; decide)]))
    clear hvb hbb h
    go_wp2_with fail
    refine (field_any (lS a s) _ (hS.of_below (by repeat (first | (with_reducible first | exact hb1 | apply below_alloc | apply pw_below_drewN | apply below_drew1) | exact hb1)))).mono ?_
    rintro e w2 ⟨rfl, hb2⟩
    have HB2 := hid (below_step (by repeat (first | (with_reducible first | exact hb1 | apply below_alloc | apply pw_below_drewN | apply below_drew1) | exact hb1)) hb2)
    rw [HF.out]
    clear hb2 hb1 HF
    go_wp2_with fail
    refine (known08_any _ (hS.of_below (by repeat (first | (with_reducible first | exact HB2.out | apply below_alloc | apply pw_below_drewN | apply below_drew1) | exact HB2.out)))).mono ?_
    rintro e w3 ⟨rfl, hb3⟩
    have HB3 := hid (below_step (by repeat (first | (with_reducible first | exact HB2.out | apply below_alloc | apply pw_below_drewN | apply below_drew1) | exact HB2.out)) hb3)
    have hp0 : w3.cell? ⟨w2.heap.size, 0, none⟩ = some (.string _) := (hb3.cell (p := ⟨w2.heap.size, 0, none⟩) (by simp)).trans (cell_new _ _ _ _)
    have hp1 : w3.cell? ⟨w2.heap.size, 1, none⟩ = some (.string _) := (hb3.cell (p := ⟨w2.heap.size, 1, none⟩) (by simp)).trans (cell_new _ _ _ _)
    have hz3 := hb3.size
    simp at hz3
    clear hb3
    go_wp2_with fail
    have hv4 := value_any (xS a) w3 (xS_size a)
    rw [HX.out] at hv4
    refine hv4.mono ?_
    clear hv4
    rintro e w4 ⟨rfl, hb4⟩
    have HB4 := hid (HB3.out.trans (hb4.mono HB3.out.size))
    have hp0 := (hb4.cell (p := ⟨w2.heap.size, 0, none⟩) (by show w2.heap.size < _; omega)).trans hp0
    have hp1 := (hb4.cell (p := ⟨w2.heap.size, 1, none⟩) (by show w2.heap.size < _; omega)).trans hp1
    have hz4 := hb4.size
    go_wp2_with fail
    have hv5 := value_any (s ++ ⟨#[98, 32]⟩) w4 (sb_size s hz0)
    rw [HB.out] at hv5
    refine hv5.mono ?_
    clear hv5
    rintro e w5 ⟨rfl, hb5⟩
    have HB5 := hid (HB4.out.trans (hb5.mono HB4.out.size))
    have hp0 := (hb5.cell (p := ⟨w2.heap.size, 0, none⟩) (by show w2.heap.size < _; omega)).trans hp0
    have hp1 := (hb5.cell (p := ⟨w2.heap.size, 1, none⟩) (by show w2.heap.size < _; omega)).trans hp1
    have hz5 : w2.heap.size < w5.heap.size := by have := hb5.size; omega
    clear hb4 hb5
    go_wp2_with fail
    refine (same_any ⟨#[]⟩ ⟨#[]⟩ _ (by decide) (by decide)).mono ?_
    rintro e w6 ⟨rfl, hb6⟩
    rw [HS0.out]
    go_wp2
    go_ret
    exact ⟨rfl, below_step (by repeat (first | (with_reducible first | exact HB5.out | apply below_alloc | apply pw_below_drewN | apply below_drew1) | exact HB5.out)) hb6⟩
  · have h32 : (a.toNat : Int) < 32 := h
    have e127 : ((a.toNat : Int) == 127) = false := beq_eq_false_iff_ne.2 (by omega)
    have e32 : ((a.toNat : Int) == 32) = false := beq_eq_false_iff_ne.2 (by omega)
    have e9 : ((a.toNat : Int) == 9) = false := beq_eq_false_iff_ne.2 h'
    rw [e127, e9, decide_eq_false (by omega)] at hvb
    have HX := hid (HX.out.trans hvb)
    have HF : Hid (fieldS (lS a s) = _) := hid (HF.out.trans (by rw [if_neg (show ¬ valB a = true by rw [hvb]; decide)]))
    clear hvb hbb h h'
    go_wp2_with fail
    refine (field_any (lS a s) _ (hS.of_below (by repeat (first | (with_reducible first | exact hb1 | apply below_alloc | apply pw_below_drewN | apply below_drew1) | exact hb1)))).mono ?_
    rintro e w2 ⟨rfl, hb2⟩
    have HB2 := hid (below_step (by repeat (first | (with_reducible first | exact hb1 | apply below_alloc | apply pw_below_drewN | apply below_drew1) | exact hb1)) hb2)
    rw [HF.out]
    clear hb2 hb1 HF
    go_wp2_with fail
    refine (known08_any _ (hS.of_below (by repeat (first | (with_reducible first | exact HB2.out | apply below_alloc | apply pw_below_drewN | apply below_drew1) | exact HB2.out)))).mono ?_
    rintro e w3 ⟨rfl, hb3⟩
    have HB3 := hid (below_step (by repeat (first | (with_reducible first | exact HB2.out | apply below_alloc | apply pw_below_drewN | apply below_drew1) | exact HB2.out)) hb3)
    have hp0 : w3.cell? ⟨w2.heap.size, 0, none⟩ = some (.string _) := (hb3.cell (p := ⟨w2.heap.size, 0, none⟩) (by simp)).trans (cell_new _ _ _ _)
    have hp1 : w3.cell? ⟨w2.heap.size, 1, none⟩ = some (.string _) := (hb3.cell (p := ⟨w2.heap.size, 1, none⟩) (by simp)).trans (cell_new _ _ _ _)
    have hz3 := hb3.size
    simp at hz3
    clear hb3
    go_wp2_with fail
    have hv4 := value_any (xS a) w3 (xS_size a)
    rw [HX.out] at hv4
    refine hv4.mono ?_
    clear hv4
    rintro e w4 ⟨rfl, hb4⟩
    have HB4 := hid (HB3.out.trans (hb4.mono HB3.out.size))
    have hp0 := (hb4.cell (p := ⟨w2.heap.size, 0, none⟩) (by show w2.heap.size < _; omega)).trans hp0
    have hp1 := (hb4.cell (p := ⟨w2.heap.size, 1, none⟩) (by show w2.heap.size < _; omega)).trans hp1
    have hz4 := hb4.size
    go_wp2_with fail
    have hv5 := value_any (s ++ ⟨#[98, 32]⟩) w4 (sb_size s hz0)
    rw [HB.out] at hv5
    refine hv5.mono ?_
    clear hv5
    rintro e w5 ⟨rfl, hb5⟩
    have HB5 := hid (HB4.out.trans (hb5.mono HB4.out.size))
    have hp0 := (hb5.cell (p := ⟨w2.heap.size, 0, none⟩) (by show w2.heap.size < _; omega)).trans hp0
    have hp1 := (hb5.cell (p := ⟨w2.heap.size, 1, none⟩) (by show w2.heap.size < _; omega)).trans hp1
    have hz5 : w2.heap.size < w5.heap.size := by have := hb5.size; omega
    clear hb4 hb5
    go_wp2_with fail
    refine (same_any ⟨#[]⟩ ⟨#[]⟩ _ (by decide) (by decide)).mono ?_
    rintro e w6 ⟨rfl, hb6⟩
    rw [HS0.out]
    go_wp2
    go_ret
    exact ⟨rfl, below_step (by repeat (first | (with_reducible first | exact HB5.out | apply below_alloc | apply pw_below_drewN | apply below_drew1) | exact HB5.out)) hb6⟩
theorem walk (a0 : Int) (w0 : (Lit.int .u8 a0).wf = true) (A1 : Option Addr) (c1 : Nat) (l1 : List Int) {W : World} (hr1 : Kd.C (Kd.int .u8) W A1 l1.length l1) (hc1 : l1.length ≤ c1) (hw1 : ∀ x ∈ l1, (Lit.int .u8 x).wf = true) (y1 : l1.length ≤ 140737488351232) (W2 : World) (e : W2 = W) (hS : Sh W) :
    Calls Tryd.prog 5 #[.int .u8 a0, .slice A1 l1.length c1] W fun e W' => e = .returned (.bool true) ∧ Below W.heap.size W W' := by
  obtain ⟨a, rfl⟩ := u8_of_wf w0
  exact core a A1 c1 l1 hr1 hc1 hw1 y1 hS
end Go.Proofs.YtgajaaagpihlkaaDoor.headValues
namespace Go.Proofs.YtgajaaagpihlkaaDoor.headValues
open Go.ChangeShapes Go.WideShapes Go.ChangeAt Go.RowKit Go.Proofs.YtgajaaagpihlkaaDoorW Go.Proofs.YtgajaaagpihlkaaDoorW.PrintWords Go.Proofs.YtgajaaagpihlkaaDoor.Pall
open Go.ChangeMaps (open_string shut_string)
set_option linter.unusedVariables false
theorem own : ownKnob Tryd.prog.godebug = none := by kernel_rfl
theorem laidOut : laidOutB Tryd.prog = true := by kernel_rfl
set_option maxRecDepth 100000 in
theorem lifted (os : Os) (started : os.Started) (H : Type) (enc : TypeId × Value → H) :
    ReturnsInHanded {} Tryd.checked os 5 .any (fun w args => (Rows.headValuesSpec.pre enc Tryd.prog Tryd.f5 [] false w args ∧ laidMetH Tryd.prog Rows.headValuesRow.laid w) ∧ sizedMet enc Tryd.prog Tryd.f5 (OpenSpec.ofChange Rows.headValuesSpec) false w args)
      (Rows.headValuesSpec.post enc Tryd.prog Tryd.f5 false true false false) := by
  refine law_lifted (C := Tryd.checked) (rt := 4) (L := Rows.headValuesRow.laid) own started (by kernel_rfl) Tryd.func5 laidOut (by kernel_rfl) rfl rfl (by rfl) Tryd.underlying4 ?_ (ChangeSpec.witness_shaped (enc := enc) (C := Tryd.checked) (os := os) (X := fun w _ => laidMetH Tryd.prog Rows.headValuesRow.laid w) false (World.laidAll Tryd.prog os Rows.headValuesRow.laid) #[.int .u8 0, .slice none 0 0] 8 (World.laidAll_os _ _ _)
    (World.shaped_of_ZipB (by kernel_rfl) (by kernel_rfl)) (by kernel_rfl) (by kernel_rfl) (by kernel_rfl) (by rw [MakeChecks.laidMetH_plain _ _ _ (by kernel_rfl)]; exact laidMet_laidAll _ (by kernel_rfl) (by kernel_rfl))) ?_
  · intro ds hds
    have hds : ds.length = 2 := hds
    match ds, hds with
    | [_, _], _ => rfl
  intro W base args ds ps hval0 hA0 hsz0 hL hsh
  have hS : Sh W := cell_of_shapedOpen_int' hsh
  have hval : ∀ (j : Nat) t v, Tryd.f5.params[j]? = some t → args[j]? = some v → Value.okWide Tryd.prog W .any base t v := hval0
  have hA : DataW.TrodAll enc Tryd.prog W 0 (fun _ => true) true Tryd.f5.params.toList args.toList ds ps := hA0
  have hsz : (DataW.weightsEach Tryd.prog Tryd.f5.params.toList ds).all (· ≤ reachBytes) = true := hsz0
  rw [Tryd.params5] at hA hval hsz
  obtain ⟨v0, vs0, d0, ds0, p0, q0, hargs, rfl, rfl, h0, r0⟩ := trodAll_cons hA
  obtain ⟨v1, vs1, d1, ds1, p1, q1, rfl, rfl, rfl, h1, r1⟩ := trodAll_cons r0
  obtain ⟨rfl, rfl, rfl⟩ := trodAll_nil r1
  obtain rfl : args = #[v0, v1] := by cases args; simp_all
  obtain ⟨a0, rfl, rfl, rfl, w0⟩ := open_int Tryd.underlying5 (hval 0 5 v0 rfl rfl) h0
  obtain ⟨A1, len1, cap1, rfl⟩ := okWide_slice Tryd.underlying22 (hval 1 22 v1 rfl rfl)
  obtain ⟨z1, w1⟩ := ints_row Tryd.underlying22 Tryd.underlying5 (by kernel_rfl) h1
  have y1 : len1 * 1 ≤ 140737488351232 := PrintWords.sized_ints hsz (j := 1) (t := 22) rfl rfl Tryd.underlying22 Tryd.underlying5 (by kernel_rfl) (by kernel_rfl) h1
  obtain ⟨l1, rfl, hr1, hm1, hw1, hc1⟩ := ReadsInt.ofRowC w1
  exact walk a0 w0 A1 cap1 l1 (Kd.C_of_reads (d := (0 : Int)) (h1 := fun _ => rfl) hr1) hc1 hw1 (by omega) W rfl hS
theorem over : Rows.headValuesRow.holds Tryd.pinned (OpenSpec.ofChange Rows.headValuesSpec) :=
  OpenClaim.holds_of_wide 5 Tryd.f5 rfl rfl rfl rfl rfl rfl rfl ⟨rfl, rfl, rfl, rfl, rfl⟩ rfl rfl rfl rfl rfl (by kernel_rfl) Tryd.func5 (by kernel_rfl)
    (of_decide_eq_true (by kernel_rfl)) (by unfold Func.isWrapper; rw [if_neg (of_decide_eq_false (by kernel_rfl))]; exact ⟨rfl, rfl⟩)
    (fun os started H enc _ => lifted os started H enc)
theorem said : Rows.HeadValuesSaid := over
theorem card : Rows.HeadValuesCardSaid :=
  Claim7.holds_tied_plain_at .later [] [.data, .pinned] true (true, "354fb149afdaf3c4257d8e9b9bc27b1df5f32269821a08f6267663514def154d") false said (fun _ h => by cases h) (by kernel_rfl) (fun _ h => by cases h) headValues_row_tie rfl ⟨rfl, rfl⟩ (by kernel_rfl) rfl
    (fun f fn hf hfn => by
      obtain rfl : f = 5 := Option.some.inj ((show Tryd.prog.funcNamed "wicketman/wicketmanlaw08.HeadValues" = some 5 by kernel_rfl).symm.trans hf) |>.symm
      obtain rfl : fn = Tryd.f5 := (Option.some.inj (Tryd.func5.symm.trans hfn)).symm
      exact ⟨by kernel_rfl, fun j t ht => by
        rw [Tryd.params5] at ht
        have hm : t ∈ [5, 22] := by simpa using Array.mem_of_getElem? ht
        have hall : ([5, 22].all fun u => !Tryd.prog.wantsStandIn u) = true := by kernel_rfl
        exact (show Tryd.prog.wantsStandIn t = false by simpa using List.all_eq_true.1 hall t hm)⟩)
    (by kernel_rfl)
#print axioms card
end Go.Proofs.YtgajaaagpihlkaaDoor.headValues
namespace Go.Proofs.YtgajaaagpihlkaaDoor
/-- The card, under a short name, for the claim. -/
theorem headValues_card : Rows.HeadValuesCardSaid := headValues.card
end Go.Proofs.YtgajaaagpihlkaaDoor

