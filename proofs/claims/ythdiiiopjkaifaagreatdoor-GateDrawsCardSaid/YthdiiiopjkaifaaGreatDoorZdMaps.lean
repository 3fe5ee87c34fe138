/-
gate.Ask of a request for the form to log in: what is drawn is cut in two.
A map that a literal makes: its entries, laid one behind the other; a look into it.
-/
import Derived.Test.YthdiiiopjkaifaaGreatDoorZdSt
import Derived.Test.YthdiiiopjkaifaaGreatDoorZdGcut
import Derived.Test.YthdiiiopjkaifaaGreatDoorZdCk
import Derived.DataElems
import Derived.Test.YthdiiiopjkaifaaGreatDoorZdPall3
import Derived.Test.YthdiiiopjkaifaaGreatDoorZdExt
import Derived.MapFrom
import Derived.Carry
section
namespace Go.Proofs.YthdiiiopjkaifaaGreatDoor.Pl
open Go Go.RowKit Go.Proofs.YthdiiiopjkaifaaGreatDoor.St Go.Proofs.YthdiiiopjkaifaaGreatDoor.Pall Go.Proofs.YthdiiiopjkaifaaGreatDoor.MapS Go.Proofs.YthdiiiopjkaifaaGreatDoor.Split Go.Proofs.YthdiiiopjkaifaaGreatDoorW.PrintWords Go.Proofs.YthdiiiopjkaifaaGreatDoorW.PrintLast
set_option linter.unusedVariables false
set_option linter.unusedSimpArgs false
abbrev pLogin : ByteArray := ⟨#[47, 108, 111, 103, 105, 110]⟩
theorem sess_none : sessS [] = (⟨#[]⟩, true) := by decide +kernel
theorem all_none : head_All.f 1 [] (⟨#[67, 111, 111, 107, 105, 101]⟩ : ByteArray) = some [] := by unfold head_All.f; simp [head_All.l0]
theorem cut_rest (A : Option Addr) (c : Nat) (l : List Int) (m : Nat) (hm : m ≤ l.length) (W : World) (hr : Kd.C (Kd.int .u8) W A l.length l) (hc : l.length ≤ c) : Kd.C (Kd.int .u8) W (cutA A c m) (l.drop m).length (l.drop m) := by
 have hr := Kd.reads_of_C (enc := Value.int .u8) (d := (0 : Int)) (h1 := fun _ => rfl) hr
 refine Kd.C_of_reads (d := (0 : Int)) (h1 := fun _ => rfl) ⟨rfl, by have := hr.2.1; rw [List.length_drop]; omega, fun hn => ?_⟩
 rw [List.length_drop] at hn
 obtain ⟨ad, had, hcl⟩ := hr.2.2 (by omega)
 unfold cutA
 rw [if_neg (by omega), had]
 refine ⟨ad.add m, rfl, fun i hi => ?_⟩
 rw [List.length_drop] at hi
 have h := hcl (m + i) (by omega)
 have e : (ad.add m).add i = ad.add (m + i) := by rw [Addr.add_add]
 rw [e, h]
 simp [List.getD, List.getElem?_drop]
theorem take_min (L : List Int) (k : Nat) : L.take (min k L.length) = L.take k := by
 by_cases h : L.length ≤ k
 ·rw [Nat.min_eq_right h, List.take_of_length_le (Nat.le_refl _), List.take_of_length_le h]
 ·rw [Nat.min_eq_left (by omega)]
def AskLogin (W : World) (dl : List Int) (e : Ending) (w : World) : Prop := ∃ v1 v2, e = .returned (.tuple #[.agg #[.int .i64 1, .string ⟨#[]⟩, .string ⟨#[]⟩, .string ⟨#[]⟩, .string ⟨#[]⟩, .string ⟨#[]⟩, v1, v2], .int .i64 0]) ∧ Kd.R (Kd.int .u8) 5 w W.heap.size (fun _ => True) v1 (dl.take 32) ∧ Kd.R (Kd.int .u8) 5 w W.heap.size (fun _ => True) v2 ((dl.drop 32).take 16) ∧ Below W.heap.size W w
set_option maxRecDepth 100000 in
set_option maxHeartbeats 4000000 in
theorem ask_login (A : Option Addr) (c : Nat) (dl : List Int) (W : World) (hd : Kd.C (Kd.int .u8) W A dl.length dl) (hc : dl.length ≤ c) (hl : dl.length ≤ 1000) (hS : Sh W) :
  Calls Tryz.prog 36 #[.agg #[.string sGET, .string pLogin, .slice none 0 0, .slice none 0 0], .slice A dl.length c] W (AskLogin W dl) := by
 have hz : ∀ w, (zeroValue 145).run Tryz.prog w = .ok (.map none) w := fun w => by first | rfl | simp [zeroValue, run_underlying Tryz.underlying145]
 have hz2 : ∀ w, (zeroValue 3).run Tryz.prog w = .ok (.int .i64 0) w := fun w => by first | rfl | simp [zeroValue, run_underlying Tryz.underlying3]
 have hp : ∀ b1 b2 b3 b4 b5, at_ (pathsL b1 b2 b3 b4 b5) pLogin = some (.map (some b1)) := fun b1 b2 b3 b4 b5 => by simp [at_, pathsL]
 have hm : at_ [(sGET, Value.int .i64 1), (sPOST, .int .i64 3)] sGET = some (.int .i64 1) := by simp [at_]
 have HALL := hid (fun (w : World) => head_All.calls 1 none 0 [] (⟨#[67, 111, 111, 107, 105, 101]⟩ : ByteArray) [] w ⟨rfl, by decide, fun h => absurd h (by decide)⟩ (Nat.le_refl _) all_none)
 have HSE := hid (fun (A0 : Option Addr) (c0 : Nat) (w : World) (h : Below W.heap.size W w) (hC : Kd.C Kd.string w A0 0 []) => (show Calls Tryz.prog 78 #[.slice A0 0 c0] w fun e w' => e = .returned (.tuple #[.string ⟨#[]⟩, .bool true]) ∧ Below w.heap.size w w' from by
  have h := session_any A0 c0 [] w hC (Nat.zero_le _) (fun v hv => by cases hv) (by decide) (hS.of_below h)
  rw [sess_none] at h
  exact h))
 have HC1 := hid (fun (w : World) (h : Below W.heap.size W w) => cut_any A c dl 32 (min 32 dl.length) rfl w (Kd.C_below hd h) hc (by omega) (by decide))
 have HC2 := hid (fun (w : World) (h : Below W.heap.size W w) => (show Calls Tryz.prog 81 #[.slice (cutA A c (min 32 dl.length)) (dl.length - min 32 dl.length) (c - min 32 dl.length), .int .i64 16] w fun e w' => ∃ v v', e = .returned (.tuple #[v, v']) ∧ Kd.R (Kd.int .u8) 5 w' w.heap.size (fun _ => True) v ((dl.drop 32).take 16) ∧ Below w.heap.size w w' from by
  have h1 := cut_any (cutA A c (min 32 dl.length)) (c - min 32 dl.length) (dl.drop (min 32 dl.length)) 16 (min 16 (dl.length - min 32 dl.length)) (by rw [List.length_drop]) w (cut_rest A c dl _ (by omega) w (Kd.C_below hd h) hc) (by rw [List.length_drop]; omega) (by rw [List.length_drop]; omega) (by decide)
  have e1 : (dl.drop (min 32 dl.length)).take (min 16 (dl.length - min 32 dl.length)) = (dl.drop 32).take 16 := by
   have h2 : dl.drop (min 32 dl.length) = dl.drop 32 := by
    by_cases h : dl.length ≤ 32
    ·rw [Nat.min_eq_right h, List.drop_of_length_le (Nat.le_refl _), List.drop_of_length_le h]
    ·rw [Nat.min_eq_left (by omega)]
   rw [h2, show dl.length - min 32 dl.length = (dl.drop 32).length by rw [List.length_drop]; omega, take_min]
  rw [e1, List.length_drop] at h1
  refine h1.mono ?_
  rintro e w' ⟨v, rfl, h2, h3⟩
  exact ⟨v, _, rfl, h2, h3⟩))
 have e0 := take_min dl 32
 rw [Nat.min_comm] at e0
 rw [Nat.min_comm] at e0
 have HE0 := hid e0
 obtain ⟨m1, hm1⟩ : ∃ m, (dl.take (min 32 dl.length)).length = m := ⟨_, rfl⟩
 obtain ⟨m2, hm2⟩ : ∃ m, ((dl.drop 32).take 16).length = m := ⟨_, rfl⟩
 have HM1 := hid hm1
 have HM2 := hid hm2
 clear hm1 hm2
 have hu1 := Tryz.underlying25
 have hu2 := Tryz.underlying31
 have HS0 := hid (((St.nil (Below.refl W.heap.size W)).newAt W.heap.size rfl #[.string sGET, .string pLogin, .slice none 0 0, .slice none 0 0] 25).newAt (W.heap.size + 1) (size_alloc _ _) #[.int .i64 0, .string ⟨#[]⟩, .string ⟨#[]⟩, .string ⟨#[]⟩, .string ⟨#[]⟩, .string ⟨#[]⟩, .slice none 0 0, .slice none 0 0] 31)
 clear hd hc hS e0
 generalize hn : dl.length = n at *
 go_enter Tryz.func36, Tryz.ntmps36
 go_upto_region 1 with (fail)
 generalize (W.alloc (.cells #[.string sGET, .string pLogin, .slice none 0 0, .slice none 0 0] 25)).alloc (.cells #[.int .i64 0, .string ⟨#[]⟩, .string ⟨#[]⟩, .string ⟨#[]⟩, .string ⟨#[]⟩, .string ⟨#[]⟩, .slice none 0 0, .slice none 0 0] 31) = wq at HS0 ⊢
 have hx0 := HS0.out.cell 1 0 rfl
 have hx1 := HS0.out.cell 1 1 rfl
 have HSd := hid HS0.out.drew
 refine start_ (n := 9) (S := fun w' => w'.cell? ⟨W.heap.size, 0, none⟩ = some (.string sGET) ∧ w'.cell? ⟨W.heap.size, 1, none⟩ = some (.string pLogin)) (ds := []) #[false, false, false, false, false, false, false, false, false] (by kernel_rfl) rfl rfl ⟨hx0, hx1⟩ (fun hHeld => ?_)
 generalize wq.drew = wd at hHeld HSd ⊢
 refine pure_ (i := 1) (N := some 15) (v := ?_) (a' := ?_) #[false, true, false, false, false, false, false, false, false] rfl rfl (by kernel_rfl) (fun _ _ _ h => h) (Or.inl ⟨by rfl, ?_⟩) ?_ ?_
 rotate_left
 ·intro w'
  go_simp
  with_reducible rfl
 rotate_left
 ·simp only [Act.put, List.setIfInBounds_toArray, List.set_cons_zero, List.set_cons_succ]
  rfl
 refine take_ (i := 2) (N := some 16) (v := ?_) (a' := ?_) #[false, true, true, false, false, false, false, false, false] rfl rfl (by kernel_rfl) (fun _ _ _ h => h) (Or.inl ⟨by rfl, ?_⟩) hHeld ?_ ?_
 rotate_left
 ·rintro w' ⟨z0, z1⟩
  go_simp
  with_reducible rfl
 rotate_left
 ·simp only [Act.put, List.setIfInBounds_toArray, List.set_cons_zero, List.set_cons_succ]
  rfl
 refine one_ (i := 0) (N := some 14) #[true, true, true, false, false, false, false, false, false] rfl rfl (by kernel_rfl) (by decide) (fun K hK => ?_)
 go_simp; go_wp2_with (go_at_call 77; refine (routes_any _).mono ?_; rintro e w9 ⟨b, rfl, b1, b2, b3, b4, b5, hR⟩; have HS9 := hid (HSd.out.go hR.bel); have hN := And.intro (HS9.out.cell 1 0 rfl) (HS9.out.cell 1 1 rfl); have hlk := look_run (P := Tryz.prog) (w := w9) Tryz.underlying147 Tryz.underlying9 hR.out pLogin true (hz w9); simp only [hp, Option.getD_some, Option.isSome_some, if_true] at hlk; have hlm := look_run (P := Tryz.prog) (w := w9) Tryz.underlying145 Tryz.underlying9 (hR.ins (b1, [(sGET, .int .i64 1), (sPOST, .int .i64 3)]) (by simp)).1 sGET true (hz2 w9); simp only [hm, Option.getD_some, Option.isSome_some, if_true] at hlm)
 refine hK.out _ _ (hN) (fun hHeld => ?_)
 clear hK K
 refine one_ (i := 3) (N := some 17) #[true, true, true, true, false, false, false, false, false] rfl rfl (by kernel_rfl) (by decide) (fun K hK => ?_)
 go_simp
 refine hK.out _ _ (hN) (fun hHeld => ?_)
 clear hK K
 refine pure_ (i := 4) (N := some 13) (v := ?_) (a' := ?_) #[true, true, true, true, true, false, false, false, false] rfl rfl (by kernel_rfl) (fun _ _ _ h => h) (Or.inl ⟨by rfl, ?_⟩) ?_ ?_
 rotate_left
 ·intro w'
  go_simp
  with_reducible rfl
 rotate_left
 ·simp only [Act.put, List.setIfInBounds_toArray, List.set_cons_zero, List.set_cons_succ]
  rfl
 refine pure_ (i := 5) (N := some 18) (v := ?_) (a' := ?_) #[true, true, true, true, true, true, false, false, false] rfl rfl (by kernel_rfl) (fun _ _ _ h => h) (Or.inl ⟨by rfl, ?_⟩) ?_ ?_
 rotate_left
 ·intro w'
  go_simp
  with_reducible rfl
 rotate_left
 ·simp only [Act.put, List.setIfInBounds_toArray, List.set_cons_zero, List.set_cons_succ]
  rfl
 refine pure_ (i := 6) (N := some 19) (v := ?_) (a' := ?_) #[true, true, true, true, true, true, true, false, false] rfl rfl (by kernel_rfl) (fun _ _ _ h => h) (Or.inl ⟨by rfl, ?_⟩) ?_ ?_
 rotate_left
 ·intro w'
  go_simp
  with_reducible rfl
 rotate_left
 ·simp only [Act.put, List.setIfInBounds_toArray, List.set_cons_zero, List.set_cons_succ]
  rfl
 refine pure_ (i := 7) (N := some 6) (v := ?_) (a' := ?_) #[true, true, true, true, true, true, true, true, false] rfl rfl (by kernel_rfl) (fun _ _ _ h => h) (Or.inl ⟨by rfl, ?_⟩) ?_ ?_
 rotate_left
 ·intro w'
  go_simp
  with_reducible rfl
 rotate_left
 ·simp only [Act.put, List.setIfInBounds_toArray, List.set_cons_zero, List.set_cons_succ]
  rfl
 refine pure_ (i := 8) (N := some 7) (v := ?_) (a' := ?_) #[true, true, true, true, true, true, true, true, true] rfl rfl (by kernel_rfl) (fun _ _ _ h => h) (Or.inl ⟨by rfl, ?_⟩) ?_ ?_
 rotate_left
 ·intro w'
  go_simp
  with_reducible rfl
 rotate_left
 ·simp only [Act.put, List.setIfInBounds_toArray, List.set_cons_zero, List.set_cons_succ]
  rfl
 refine done_ (by kernel_rfl) ?_
 have u0 := HS9.out.cell 1 0 rfl
 have u2 := HS9.out.cell 1 2 rfl
 go_upto_region 7 with (fail)
 go_upto_region 9 with (first
  | (go_at_call 79; refine (HALL.out _).mono ?_; rintro e w10 ⟨v10, rfl, h10, hb10⟩; have hs10 := Kd.R_reads h10; obtain ⟨A10, c10, rfl, _, hC10⟩ := hs10; have HC10 := hid hC10; have HS10 := hid (HS9.out.go hb10); clear h10 hb10 hC10)
  | (go_at_call 78; refine (HSE.out A10 c10 _ HS10.out.bel HC10.out).mono ?_; rintro e w11 ⟨rfl, hb11⟩; have HS11 := hid (HS10.out.go hb11); clear hb11))
 have HS12 := hid (HS11.out.newAt w11.heap.size rfl #[.int .i64 1, .string ⟨#[]⟩, .string ⟨#[]⟩, .string ⟨#[]⟩, .string ⟨#[]⟩, .string ⟨#[]⟩, .slice none 0 0, .slice none 0 0] 31)
 clear HS0 HSd HS9 HS10 HC10 HALL HSE hz hz2 hp hm
 have HNG := hid (HS11.out.lt 0 rfl (List.mem_singleton_self _))
 generalize hg : w11.heap.size = g at HS12 HNG ⊢
 generalize w11.alloc (.cells #[.int .i64 1, .string ⟨#[]⟩, .string ⟨#[]⟩, .string ⟨#[]⟩, .string ⟨#[]⟩, .string ⟨#[]⟩, .slice none 0 0, .slice none 0 0] 31) = w12 at HS12 ⊢
 clear hg HS11
 have u0' : w12.cell? ⟨W.heap.size, 0, none⟩ = some (.string ⟨#[71, 69, 84]⟩) := HS12.out.cell 2 0 rfl
 go_upto_region 12 with (fail)
 go_upto_region 13 with (go_at_call 81; refine (HC1.out _ HS12.out.bel).mono ?_; rintro e w13 ⟨v13, rfl, h13, hb13⟩; have hs13 := Kd.R_slice h13; obtain ⟨B1, d1, e13⟩ := hs13; rw [HM1.out] at e13; subst e13; have HS13 := hid (HS12.out.go hb13); have y6 := HS13.out.cell 0 6 rfl; have f6 := HS13.out.fz 0 6 rfl; have HR1 := hid h13; clear h13 hb13)
 rw [HE0.out] at HR1
 have HG := hid (HS12.out.lt 0 rfl (List.mem_singleton_self _))
 have HS14 := hid (HS13.out.set 0 rfl 6 (.slice B1 m1 d1))
 have HR2 := hid (R_set HR1.out g 6 HG.out (.slice B1 m1 d1))
 have HB2 := hid HS12.out.bel.size
 clear HS12 HS13 HR1 y6 f6 u0 u2 u0'
 generalize w13.setCell ⟨g, 6, none⟩ (.slice B1 m1 d1) = w14 at HS14 HR2 ⊢
 go_upto_region 14 with (go_at_call 81; refine (HC2.out _ HS14.out.bel).mono ?_; rintro e w15 ⟨v15, r15, rfl, h15, hb15⟩; have hs15 := Kd.R_slice h15; obtain ⟨B2, d2, e15⟩ := hs15; rw [HM2.out] at e15; subst e15; have HS15 := hid (HS14.out.go hb15); have y7 := HS15.out.cell 0 7 rfl; have f7 := HS15.out.fz 0 7 rfl; have HR3 := hid h15; have HR4 := hid (Kd.R_below HR2.out hb15); clear h15 hb15)
 have HG2 := hid (HS14.out.lt 0 rfl (List.mem_singleton_self _))
 have HS16 := hid (HS15.out.set 0 rfl 7 (.slice B2 m2 d2))
 have HR5 := hid (R_set HR3.out g 7 HG2.out (.slice B2 m2 d2))
 have HR6 := hid (R_set HR4.out g 7 HG.out (.slice B2 m2 d2))
 have HB3 := hid HS14.out.bel.size
 clear HS14 HS15 HR2 HR3 HR4 y7 f7
 generalize w15.setCell ⟨g, 7, none⟩ (.slice B2 m2 d2) = w16 at HS16 HR5 HR6 ⊢
 have c0 := HS16.out.cell 0 0 rfl
 have x0 := HS16.out.cell 1 0 rfl
 have q0 := HS16.out.fz 1 0 rfl
 have c1 := HS16.out.cell 0 1 rfl
 have x1 := HS16.out.cell 1 1 rfl
 have q1 := HS16.out.fz 1 1 rfl
 have c2 := HS16.out.cell 0 2 rfl
 have x2 := HS16.out.cell 1 2 rfl
 have q2 := HS16.out.fz 1 2 rfl
 have c3 := HS16.out.cell 0 3 rfl
 have x3 := HS16.out.cell 1 3 rfl
 have q3 := HS16.out.fz 1 3 rfl
 have c4 := HS16.out.cell 0 4 rfl
 have x4 := HS16.out.cell 1 4 rfl
 have q4 := HS16.out.fz 1 4 rfl
 have c5 := HS16.out.cell 0 5 rfl
 have x5 := HS16.out.cell 1 5 rfl
 have q5 := HS16.out.fz 1 5 rfl
 have c6 := HS16.out.cell 0 6 rfl
 have x6 := HS16.out.cell 1 6 rfl
 have q6 := HS16.out.fz 1 6 rfl
 have c7 := HS16.out.cell 0 7 rfl
 have x7 := HS16.out.cell 1 7 rfl
 have q7 := HS16.out.fz 1 7 rfl
 go_wp2_with (fail)
 have hge : W.heap.size ≤ W.heap.size + 1 := Nat.le_succ _
 have hb := HS16.out.bel
 have hN0 := HG.out
 have hN4 := HG2.out
 have hN1 : W.heap.size + 1 < g := HNG.out
 have hN2 := HB2.out
 have hN3 := HB3.out
 refine ⟨rfl, .tuple #[.agg #[.int .i64 1, .string ⟨#[]⟩, .string ⟨#[]⟩, .string ⟨#[]⟩, .string ⟨#[]⟩, .string ⟨#[]⟩, .slice B1 m1 d1, .slice B2 m2 d2], .int .i64 0], ?_, .slice B1 m1 d1, .slice B2 m2 d2, rfl, ?_, ?_, ?_⟩
 ·exact ask_results _ _ (W.heap.size + 1) rfl _ rfl _ _ _ _ _ _ _ _ (blk_set (blk_set (blk_set (blk_set (blk_set (blk_set (blk_set (blk_set (HS16.out.box 1 rfl) 0 _) 1 _) 2 _) 3 _) 4 _) 5 _) 6 _) 7 _)
 ·exact Kd.R_lower (R_set (R_set (R_set (R_set (R_set (R_set (R_set (R_set HR6.out _ 0 (by omega) _) _ 1 (by omega) _) _ 2 (by omega) _) _ 3 (by omega) _) _ 4 (by omega) _) _ 5 (by omega) _) _ 6 (by omega) _) _ 7 (by omega) _) HB2.out
 ·exact Kd.R_lower (R_set (R_set (R_set (R_set (R_set (R_set (R_set (R_set HR5.out _ 0 (by omega) _) _ 1 (by omega) _) _ 2 (by omega) _) _ 3 (by omega) _) _ 4 (by omega) _) _ 5 (by omega) _) _ 6 (by omega) _) _ 7 (by omega) _) HB3.out
 ·exact (((((((hb.setCell (p := ⟨W.heap.size + 1, 0, none⟩) hge _).setCell (p := ⟨W.heap.size + 1, 1, none⟩) hge _).setCell (p := ⟨W.heap.size + 1, 2, none⟩) hge _).setCell (p := ⟨W.heap.size + 1, 3, none⟩) hge _).setCell (p := ⟨W.heap.size + 1, 4, none⟩) hge _).setCell (p := ⟨W.heap.size + 1, 5, none⟩) hge _).setCell (p := ⟨W.heap.size + 1, 6, none⟩) hge _).setCell (p := ⟨W.heap.size + 1, 7, none⟩) hge _
end Go.Proofs.YthdiiiopjkaifaaGreatDoor.Pl
end
section
namespace Go.Proofs.YthdiiiopjkaifaaGreatDoor.Pl
open Go.RowKit
open Go.MapKept (IsKey)
set_option linter.unusedVariables false
set_option linter.unusedSimpArgs false
theorem setBlock_new (w : World) (o o' : Obj) : ({ w.alloc o with heap := (w.alloc o).heap.setIfInBounds w.heap.size o' } : World) = w.alloc o' := by
 have h : ∀ (a : Array Obj) (x y : Obj), (a.push x).setIfInBounds a.size y = a.push y := by
  intro a x y
  apply Array.ext'
  rw [Array.toList_setIfInBounds, Array.toList_push, Array.toList_push, List.set_append_right _ _ (by simp)]
  simp
 show ({ w.alloc o with heap := (w.heap.push o).setIfInBounds w.heap.size o' } : World) = _
 rw [h]
 rfl
/-- one entry more, of a key that is not there -/
theorem insert_new {P : Program} {t k e : TypeId} {kd : TypeDesc} (w : World) (es : List MapEntry) (clock : Nat) (key v : Value) (ht : P.underlying t = some (.map k e)) (hk : P.underlying k = some kd) (hik : IsKey kd key) (hf : Instr.findNow kd key es 0 = some none) :
  (Instr.mapUpdate t (.map (some w.heap.size)) key v).run P (w.alloc (.map es.toArray clock)) = .ok () (w.alloc (.map (es ++ [(⟨key, v, clock⟩ : MapEntry)]).toArray (clock + 1))) := by
 have hb : (w.alloc (.map es.toArray clock)).heap[w.heap.size]? = some (.map es.toArray clock) := by show (w.heap.push _)[w.heap.size]? = _; simp
 have h1 : Instr.findNow kd key es.toArray.toList 0 = some none := hf
 simp [Instr.mapUpdate, run_underlying ht, MapKept.run_getObj_map hb, MapKept.run_checkKey hk hik, MapKept.run_findKey hk h1, MapKept.run_setObj_map _ hb, Result.andThen]
 exact setBlock_new w _ _
theorem look_in {P : Program} {t k e : TypeId} {kd : TypeDesc} {W : World} {r clock : Nat} {es : List MapEntry} (key z : Value) (ok : Bool) (res : Option (Nat × Value)) (ht : P.underlying t = some (.map k e)) (hk : P.underlying k = some kd) (hb : W.heap[r]? = some (.map es.toArray clock)) (hik : IsKey kd key)
  (hf : Instr.findNow kd key es 0 = some res) (hz : (zeroValue e).run P W = .ok z W) :
  (Instr.lookup t (.map (some r)) key ok).run P W = .ok (if ok then .tuple #[(res.map (·.2)).getD z, .bool res.isSome] else (res.map (·.2)).getD z) W := by
 have h1 : Instr.findNow kd key es.toArray.toList 0 = some res := hf
 cases res with
 | none => simp [Instr.lookup, run_underlying ht, MapKept.run_getObj_map hb, MapKept.run_checkKey hk hik, MapKept.run_findKey hk h1, hz, Result.andThen]
 | some p => simp [Instr.lookup, run_underlying ht, MapKept.run_getObj_map hb, MapKept.run_checkKey hk hik, MapKept.run_findKey hk h1, hz, Result.andThen]
end Go.Proofs.YthdiiiopjkaifaaGreatDoor.Pl
end
