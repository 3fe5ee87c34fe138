/-
  HttpSmuggles: for every choices the law returns true.
-/
import Derived.Test.YtpfbemcoblganaaDoorPl09s
import Derived.Test.YtpfbemcoblganaaDoorRow
import Derived.Test.YtpfbemcoblganaaDoorTie
import Derived.Test.YtpfbemcoblganaaDoorCards
import Derived.Test.YtpfbemcoblganaaDoorPall15
namespace Go.Proofs.YtpfbemcoblganaaDoor.httpSmuggles
open Go.RowKit Go.Proofs.YtpfbemcoblganaaDoor.Pall Go.Proofs.YtpfbemcoblganaaDoor.Pl Go.Proofs.YtpfbemcoblganaaDoorW.PrintWords
set_option linter.unusedVariables false
set_option linter.unusedSimpArgs false
def tab : List ByteArray := [(⟨#[67, 111, 110, 116, 101, 110, 116, 45, 76, 101, 110, 103, 116, 104, 58, 32, 48, 13, 10, 67, 111, 110, 116, 101, 110, 116, 45, 76, 101, 110, 103, 116, 104, 58, 32, 48]⟩ : ByteArray), (⟨#[67, 111, 110, 116, 101, 110, 116, 45, 76, 101, 110, 103, 116, 104, 58, 32, 43, 48]⟩ : ByteArray), (⟨#[84, 114, 97, 110, 115, 102, 101, 114, 45, 69, 110, 99, 111, 100, 105, 110, 103, 58, 32, 99, 104, 117, 110, 107, 101, 100]⟩ : ByteArray), (⟨#[72, 111, 115, 116, 58, 32, 98]⟩ : ByteArray), (⟨#[88, 32, 58, 32, 49]⟩ : ByteArray), (⟨#[67, 111, 110, 116, 101, 110, 116, 45, 76, 101, 110, 103, 116, 104, 58, 32, 48, 44, 32, 48]⟩ : ByteArray), (⟨#[84, 114, 97, 110, 115, 102, 101, 114, 45, 69, 110, 99, 111, 100, 105, 110, 103, 58]⟩ : ByteArray), (⟨#[32, 72, 111, 115, 116, 58, 32, 98]⟩ : ByteArray)]
def clZ : List UInt8 := [67, 111, 110, 116, 101, 110, 116, 45, 76, 101, 110, 103, 116, 104, 58, 32, 48]
def exL (w : Nat) : List (List UInt8) := if w = 0 then [clZ, clZ] else [(tab.getD w ByteArray.empty).data.toList]
def L0 : List UInt8 := [71, 69, 84, 32, 47, 32, 72, 84, 84, 80, 47, 49, 46, 49]
def hostL : List UInt8 := [72, 111, 115, 116, 58, 32, 97]
def xaL (E : List UInt8) : List UInt8 := [88, 45, 65] ++ 58 :: 32 :: E
def baseL (m : Nat) (E : List UInt8) : List (List UInt8) := hostL :: List.replicate m (xaL E)
theorem ex_join : ∀ w, w < 8 → (tab.getD w ByteArray.empty).data.toList ++ [13, 10] = joinL (exL w) := by
  intro w hw
  have hall : ((List.range 8).all fun w => ((tab.getD w ByteArray.empty).data.toList ++ [13, 10]) == joinL (exL w)) = true := by decide +kernel
  exact beq_iff_eq.1 (List.all_eq_true.1 hall w (List.mem_range.2 hw))
theorem ex_ok : ∀ w, w < 8 → (exL w).all lineOk = true := by
  intro w hw
  have hall : ((List.range 8).all fun w => (exL w).all lineOk) = true := by decide +kernel
  exact List.all_eq_true.1 hall w (List.mem_range.2 hw)
def errX (w : Nat) : Int := if fldsE ((exL w).map mkB) ≠ 0 then fldsE ((exL w).map mkB) else bodyE (fldS (mkB hostL) :: ((exL w).map mkB).map fldS) 0
theorem ex_bad : ∀ w, w < 8 → (errX w = 12 ∨ errX w = 13 ∨ errX w = 14) := by
  intro w hw
  have hall : ((List.range 8).all fun w => errX w == 12 || errX w == 13 || errX w == 14) = true := by decide +kernel
  have := List.all_eq_true.1 hall w (List.mem_range.2 hw)
  simp only [Bool.or_eq_true, beq_iff_eq] at this
  rcases this with (h | h) | h
  · exact .inl h
  · exact .inr (.inl h)
  · exact .inr (.inr h)
theorem fst0 : fstE (mkB L0) = 0 := by decide +kernel
theorem base_ok (m : Nat) (E : List UInt8) (hE : E.all pthB = true) : (L0 :: baseL m E).all lineOk = true := by
  have h1 : lineOk L0 = true := by decide
  have h2 : lineOk hostL = true := by decide
  have hp : plainL (xaL E) = true := by
    have h0 : E.all (fun c => c != 13) = true := all_imp hE (fun c h => (vis_val c h).2.2)
    have h1 : (58 :: 32 :: E : List UInt8).all (fun c => c != 13) = true := by rw [List.all_cons, List.all_cons, h0]; rfl
    have h2 : ([88, 45, 65] : List UInt8).all (fun c => c != 13) = true := by decide
    unfold plainL xaL
    rw [List.all_append]
    exact Bool.and_eq_true_iff.2 ⟨h2, h1⟩
  have h3 : lineOk (xaL E) = true := by unfold lineOk; rw [hp]; rfl
  unfold baseL
  rw [List.all_cons, List.all_cons, h1, h2, Bool.true_and, Bool.true_and, List.all_eq_true]
  intro x hx
  rw [(List.mem_replicate.1 hx).2]; exact h3
theorem xa_field (E : List UInt8) (hE : E.all pthB = true) (hz : E.length ≤ 1900) : fieldS (mkB (xaL E)) = (mkB [88, 45, 65], mkB E, 0) :=
  field_vis [88, 45, 65] E (by decide +kernel) hE (by show 3 + 2 + _ ≤ _; omega)
theorem flds_base (m : Nat) (E : List UInt8) (hE : E.all pthB = true) (hz : E.length ≤ 1900) : fldsE ((baseL m E).map mkB) = 0 := by
  refine fldsE_ok (fun x hx => ?_)
  unfold baseL at hx
  rw [List.map_cons, List.map_replicate] at hx
  rcases List.mem_cons.1 hx with rfl | hx
  · decide +kernel
  · rw [(List.mem_replicate.1 hx).2, xa_field E hE hz]
theorem xa_other (E : List UInt8) (hE : E.all pthB = true) (hz : E.length ≤ 1900) (n : ByteArray) (hn : sameS (mkB [88, 45, 65]) n = false) : sameS (fldS (mkB (xaL E))).f0 n = false := by
  unfold fldS
  rw [xa_field E hE hz]; exact hn
theorem body_base (m : Nat) (E : List UInt8) (hE : E.all pthB = true) (hz : E.length ≤ 1900) (ex : List ByteArray) : bodyE (((baseL m E).map mkB ++ ex).map fldS) 0 = bodyE (fldS (mkB hostL) :: ex.map fldS) 0 := by
  have key : ∀ n : ByteArray, sameS (mkB [88, 45, 65]) n = false → allS (((baseL m E).map mkB ++ ex).map fldS) n = allS (fldS (mkB hostL) :: ex.map fldS) n := by
    intro n hn
    unfold baseL
    rw [List.map_cons, List.map_replicate, List.map_append, List.map_cons, List.map_replicate]
    rw [show fldS (mkB hostL) :: List.replicate m (fldS (mkB (xaL E))) = [fldS (mkB hostL)] ++ List.replicate m (fldS (mkB (xaL E))) from rfl, allS_app, allS_app, allS_rep _ _ _ (xa_other E hE hz n hn), List.append_nil, ← allS_app]; rfl
  exact bodyE_same _ _ _ (key hostB (by decide +kernel)) (key teB (by decide +kernel)) (key clB (by decide +kernel))
theorem good (m : Nat) (E : List UInt8) (hm : m ≤ 3) (hE : E.all pthB = true) (hz : E.length ≤ 1900) : (parseQ (numsL (joinL (L0 :: baseL m E) ++ [13, 10]))).2.2.2.2 = 0 ∧ (parseQ (numsL (joinL (L0 :: baseL m E) ++ [13, 10]))).2.2.1.length = 1 + m := by
  rw [parse_req L0 (baseL m E) [] (base_ok m E hE)]
  have hb : bodyE (((baseL m E).map mkB).map fldS) 0 = 0 := by
    have h := body_base m E hE hz []
    rw [List.append_nil] at h
    rw [h]; decide +kernel
  have hlen : ((baseL m E).map mkB).length = 1 + m := by unfold baseL; rw [List.length_map, List.length_cons, List.length_replicate]; omega
  unfold parseL
  simp only [fst0, flds_base m E hE hz, numsL, List.map_nil, List.length_nil, hb, if_neg (show ¬ 40 < ((baseL m E).map mkB).length by omega), ne_eq, not_true_eq_false, if_false]
  exact ⟨trivial, by rw [List.length_map]; exact hlen⟩
theorem bad (m : Nat) (E : List UInt8) (hm : m ≤ 3) (hE : E.all pthB = true) (hz : E.length ≤ 1900) (w : Nat) (hw : w < 8) : (parseQ (numsL (joinL (L0 :: (baseL m E ++ exL w)) ++ [13, 10]))).2.2.2.2 = errX w := by
  have hok : (L0 :: (baseL m E ++ exL w)).all lineOk = true := by
    rw [← List.cons_append, List.all_append, base_ok m E hE, ex_ok w hw]; rfl
  rw [parse_req L0 _ [] hok]
  have hlx : (exL w).length ≤ 2 := by unfold exL; split <;> simp
  have hlen : ((baseL m E ++ exL w).map mkB).length ≤ 6 := by unfold baseL; rw [List.length_map, List.length_append, List.length_cons, List.length_replicate]; omega
  have hf : fldsE ((baseL m E ++ exL w).map mkB) = fldsE ((exL w).map mkB) := by rw [List.map_append, fldsE_app _ _ (flds_base m E hE hz)]
  have hb : bodyE (((baseL m E ++ exL w).map mkB).map fldS) 0 = bodyE (fldS (mkB hostL) :: ((exL w).map mkB).map fldS) 0 := by
    rw [List.map_append]; exact body_base m E hE hz _
  unfold parseL errX
  simp only [fst0, hf, hb, numsL, List.map_nil, List.length_nil, if_neg (show ¬ 40 < ((baseL m E ++ exL w).map mkB).length by omega), ne_eq, not_true_eq_false, if_false]
  generalize fldsE ((exL w).map mkB) = e1
  generalize bodyE (fldS (mkB hostL) :: ((exL w).map mkB).map fldS) 0 = e2
  by_cases h1 : e1 = 0
  · simp only [h1, not_true_eq_false, if_false]
    by_cases h2 : e2 = 0
    · simp only [h2, not_true_eq_false, if_false]
    · simp only [h2, not_false_eq_true, if_true]; rfl
  · simp only [h1, not_false_eq_true, if_true]; rfl
theorem grow (m : Nat) (E : List UInt8) : joinL (L0 :: baseL (m + 1) E) = joinL (L0 :: baseL m E) ++ (xaL E ++ [13, 10]) := by
  unfold baseL joinL
  rw [List.replicate_succ']
  simp
theorem ends (a0 a1 : Int) (c : List Int) (h0 : 0 ≤ a0 ∧ a0 ≤ 255) (h1 : 0 ≤ a1 ∧ a1 ≤ 255) (m : Nat) (hm : (m : Int) = a1 % 4) (E : List UInt8) (hE : E.all pthB = true) (hz : E.length ≤ 1900) :
    Ev (fun k => wicketmanlaw09_HttpSmuggles.l0 k a0 a1 c tab (mkB (joinL (L0 :: baseL m E))) (m : Int)) true := by
  have hm3 : m ≤ 3 := by omega
  have hmod : Int.tmod a1 4 = a1 % 4 := tmod_pos _ h1.1 4
  have hmod8 : Int.tmod a0 8 = a0 % 8 := tmod_pos _ h0.1 8
  obtain ⟨w, hw⟩ : ∃ w : Nat, (w : Int) = a0 % 8 := ⟨(a0 % 8).toNat, by omega⟩
  have hw8 : w < 8 := by omega
  have hrd : rdOf ByteArray.empty tab (a0 % 8) = tab.getD w ByteArray.empty := by rw [← hw]; unfold rdOf; rw [Int.toNat_natCast]
  have hlen : ∀ n, n ≤ 3 → (joinL (L0 :: baseL n E)).length ≤ 40 + 2000 * n := by
    intro n hn
    induction n with
    | zero => show (joinL [L0, hostL]).length ≤ _; decide
    | succ n ih =>
      have := ih (by omega)
      rw [grow, List.length_append, List.length_append]
      have hx : (xaL E).length = 5 + E.length := by unfold xaL; rw [List.length_append, List.length_cons, List.length_cons]; simp only [List.length_cons, List.length_nil]; omega
      simp only [List.length_cons, List.length_nil]; omega
  have hl := hlen m hm3
  have hz0 : (mkB (joinL (L0 :: baseL m E))).size ≤ 6040 := by rw [mkB_size]; omega
  have htz : (tab.getD w ByteArray.empty).size ≤ 40 := by
    have hall : ((List.range 8).all fun w => decide ((tab.getD w ByteArray.empty).size ≤ 40)) = true := by decide +kernel
    simpa using List.all_eq_true.1 hall w (List.mem_range.2 hw8)
  have e1 : mkB (joinL (L0 :: baseL m E)) ++ (⟨#[13, 10]⟩ : ByteArray) = mkB (joinL (L0 :: baseL m E) ++ [13, 10]) := Pall.ba_ext (by simp [mkB])
  have e2 : (mkB (joinL (L0 :: baseL m E)) ++ tab.getD w ByteArray.empty) ++ (⟨#[13, 10, 13, 10]⟩ : ByteArray) = mkB (joinL (L0 :: (baseL m E ++ exL w)) ++ [13, 10]) := Pall.ba_ext (by
    have hx := ex_join w hw8
    rw [show joinL (L0 :: (baseL m E ++ exL w)) = joinL (L0 :: baseL m E) ++ joinL (exL w) by rw [← List.cons_append, joinL_app], ← hx]
    simp [mkB])
  have hbt : ∀ l : List UInt8, btsOf (mkB l) = numsL l := fun _ => rfl
  have hzz : (mkB (joinL (L0 :: baseL m E)) ++ tab.getD w ByteArray.empty).size ≤ 6080 := by rw [ByteArray.size_append]; omega
  have hz1 : (mkB (joinL (L0 :: baseL m E) ++ [13, 10])).size ≤ 6042 := by rw [← e1, ByteArray.size_append]; show _ + 2 ≤ _; omega
  have hz2 : (mkB (joinL (L0 :: (baseL m E ++ exL w)) ++ [13, 10])).size ≤ 6084 := by rw [← e2, ByteArray.size_append]; show _ + 4 ≤ _; omega
  have hp1 := parse_some (joinL (L0 :: baseL m E) ++ [13, 10]) (by rw [mkB_size] at hz1; omega)
  have hp2 := parse_some (joinL (L0 :: (baseL m E ++ exL w)) ++ [13, 10]) (by rw [mkB_size] at hz2; omega)
  have hg := good m E hm3 hE hz
  have hb := bad m E hm3 hE hz w hw8
  have hx := ex_bad w hw8
  refine Ev.step (f := fun _ => some true) (fun k => ?_) (Ev.now _)
  simp only [wicketmanlaw09_HttpSmuggles.l0, hmod, hmod8, hrd]
  rw [wrap_id (n := a1 % 4) (by omega) (by omega), if_neg (by omega), if_pos (by omega), e1, if_pos (by omega), hbt, hp1]
  simp only [Option.bind_some, show (tab.length : Int) = 8 from rfl, e2, hbt, hp2, known09_true, if_true, hg.1, hg.2, hb]
  rw [if_pos (by omega), if_pos (by omega), if_pos (by omega), if_pos (by omega), if_pos (by omega), wrap_id (n := 1 + a1 % 4) (by omega) (by omega), if_pos (by omega)]
  rcases hx with h | h | h
  · rw [h]; rfl
  · rw [h]; rfl
  · rw [h]; rfl
theorem plain (a0 a1 : Int) (c : List Int) (h0 : 0 ≤ a0 ∧ a0 ≤ 255) (h1 : 0 ≤ a1 ∧ a1 ≤ 255) (hc : ∀ x ∈ c, 0 ≤ x ∧ x ≤ 255) (hlc : c.length ≤ 9223372036854775806) : Ev (fun k => wicketmanlaw09_HttpSmuggles.f k a0 a1 c) true := by
  have hL := line_ev c hc hlc
  have hLz := lineS_size c hc
  obtain ⟨r, hr1, hr2, hr⟩ := esc_ev (lineS c) (by omega)
  have hmod : Int.tmod a1 4 = a1 % 4 := tmod_pos _ h1.1 4
  have hrm : r = mkB r.data.toList := (mkB_self r).symm
  have hrz : r.data.toList.length ≤ 1260 := by rw [len_data]; omega
  generalize r.data.toList = E at *
  subst hrm
  rw [mkB_size] at hr1
  have loop : ∀ d (m : Nat), (a1 % 4).toNat - m = d → (m : Int) ≤ a1 % 4 → Ev (fun k => wicketmanlaw09_HttpSmuggles.l0 k a0 a1 c tab (mkB (joinL (L0 :: baseL m E))) (m : Int)) true := by
    intro d
    induction d with
    | zero => intro m hd hm; exact ends a0 a1 c h0 h1 m (by omega) E hr2 (by omega)
    | succ d ih =>
      intro m hd hm
      have hlen : ∀ n, n ≤ 3 → (joinL (L0 :: baseL n E)).length ≤ 40 + 2000 * n := by
        intro n hn
        induction n with
        | zero => show (joinL [L0, hostL]).length ≤ _; decide
        | succ n ih =>
          have := ih (by omega)
          rw [grow, List.length_append, List.length_append]
          have hx : (xaL E).length = 5 + E.length := by unfold xaL; rw [List.length_append, List.length_cons, List.length_cons]; simp only [List.length_cons, List.length_nil]; omega
          simp only [List.length_cons, List.length_nil]; omega
      have hl := hlen m (by omega)
      have hz0 : (mkB (joinL (L0 :: baseL m E))).size ≤ 6040 := by rw [mkB_size]; omega
      have hz1 : (mkB (joinL (L0 :: baseL m E)) ++ (⟨#[88, 45, 65, 58, 32]⟩ : ByteArray)).size ≤ 6045 := by rw [ByteArray.size_append]; show _ + 5 ≤ _; omega
      have hz2 : ((mkB (joinL (L0 :: baseL m E)) ++ (⟨#[88, 45, 65, 58, 32]⟩ : ByteArray)) ++ mkB E).size ≤ 8000 := by rw [ByteArray.size_append, mkB_size E]; omega
      have e : ((mkB (joinL (L0 :: baseL m E)) ++ (⟨#[88, 45, 65, 58, 32]⟩ : ByteArray)) ++ mkB E) ++ (⟨#[13, 10]⟩ : ByteArray) = mkB (joinL (L0 :: baseL (m + 1) E)) := Pall.ba_ext (by
        rw [grow]; simp [mkB, xaL])
      refine Ev.step (f := fun k => (wicketmanlaw08_Line.f k c).bind fun t328 => ((wicketmanref07_Escape.f k t328).bind fun t329 => (if (mkB (joinL (L0 :: baseL m E)) ++ (⟨#[88, 45, 65, 58, 32]⟩ : ByteArray)).size + t329.size ≤ 9223372036854775807 then (if ((mkB (joinL (L0 :: baseL m E)) ++ (⟨#[88, 45, 65, 58, 32]⟩ : ByteArray)) ++ t329).size + 2 ≤ 9223372036854775807 then (wicketmanlaw09_HttpSmuggles.l0 k a0 a1 c tab (((mkB (joinL (L0 :: baseL m E)) ++ (⟨#[88, 45, 65, 58, 32]⟩ : ByteArray)) ++ t329) ++ (⟨#[13, 10]⟩ : ByteArray)) ((m + 1 : Nat) : Int)) else (none)) else (none)))) (fun k => ?_) ?_
      · simp only [wicketmanlaw09_HttpSmuggles.l0, hmod]
        rw [wrap_id (n := a1 % 4) (by omega) (by omega), if_pos (by omega), if_pos (by omega), wrap_id (by omega) (by omega)]
        rfl
      · refine Ev.bind hL ?_
        refine Ev.bind hr ?_
        simp only [e]
        rw [mkB_size E]
        simp only [if_pos (show (mkB (joinL (L0 :: baseL m E)) ++ (⟨#[88, 45, 65, 58, 32]⟩ : ByteArray)).size + E.length ≤ 9223372036854775807 by omega), if_pos (show ((mkB (joinL (L0 :: baseL m E)) ++ (⟨#[88, 45, 65, 58, 32]⟩ : ByteArray)) ++ mkB E).size + 2 ≤ 9223372036854775807 by omega)]
        exact ih (m + 1) (by omega) (by omega)
  refine Ev.congr (fun k => ?_) (loop _ 0 rfl (by omega))
  unfold wicketmanlaw09_HttpSmuggles.f; rfl
theorem walk (a0 : Int) (w0 : (Lit.int .u8 a0).wf = true) (a1 : Int) (w1 : (Lit.int .u8 a1).wf = true) (A2 : Option Addr) (c2 : Nat) (l2 : List Int) {W : World} (hr2 : Kd.C (Kd.int .u8) W A2 l2.length l2) (hc2 : l2.length ≤ c2) (hw2 : ∀ x ∈ l2, (Lit.int .u8 x).wf = true) (y2 : l2.length ≤ 140737488351232) (W' : World) (e : W' = W) (hS : Sh W) :
    Calls Tryd.prog 4 #[.int .u8 a0, .int .u8 a1, .slice A2 l2.length c2] W fun e W' => e = .returned (.bool true) ∧ Below W.heap.size W W' := by
  simp [Lit.wf, IntKind.min, IntKind.max, IntKind.signed, IntKind.bits] at w0 w1
  obtain ⟨k, hk⟩ := (plain a0 a1 l2 ⟨by omega, by omega⟩ ⟨by omega, by omega⟩ (u8s_of_wf hw2) (by omega)).rounds
  exact wicketmanlaw09_HttpSmuggles.calls k a0 a1 A2 c2 l2 true W hr2 hc2 hS (Aside0.mk rfl) hk
end Go.Proofs.YtpfbemcoblganaaDoor.httpSmuggles
namespace Go.Proofs.YtpfbemcoblganaaDoor.httpSmuggles
open Go.ChangeShapes Go.WideShapes Go.ChangeAt Go.RowKit Go.Proofs.YtpfbemcoblganaaDoorW Go.Proofs.YtpfbemcoblganaaDoorW.PrintWords Go.Proofs.YtpfbemcoblganaaDoor.Pall
open Go.ChangeMaps (open_string shut_string)
set_option linter.unusedVariables false
theorem own : ownKnob Tryd.prog.godebug = none := by kernel_rfl
theorem laidOut : laidOutB Tryd.prog = true := by kernel_rfl
set_option maxRecDepth 100000 in
theorem lifted (os : Os) (started : os.Started) (H : Type) (enc : TypeId × Value → H) :
    ReturnsInHanded {} Tryd.checked os 4 .any (fun w args => (Rows.httpSmugglesSpec.pre enc Tryd.prog Tryd.f4 [] false w args ∧ laidMetH Tryd.prog Rows.httpSmugglesRow.laid w) ∧ sizedMet enc Tryd.prog Tryd.f4 (OpenSpec.ofChange Rows.httpSmugglesSpec) false w args)
      (Rows.httpSmugglesSpec.post enc Tryd.prog Tryd.f4 false true false false) := by
  refine law_lifted (C := Tryd.checked) (rt := 4) (L := Rows.httpSmugglesRow.laid) own started (by kernel_rfl) Tryd.func4 laidOut (by kernel_rfl) rfl rfl (by rfl) Tryd.underlying4 ?_ (ChangeSpec.witness_shaped (enc := enc) (C := Tryd.checked) (os := os) (X := fun w _ => laidMetH Tryd.prog Rows.httpSmugglesRow.laid w) false (World.laidAll Tryd.prog os Rows.httpSmugglesRow.laid) #[.int .u8 0, .int .u8 0, .slice none 0 0] 8 (World.laidAll_os _ _ _)
    (World.shaped_of_ZipB (by kernel_rfl) (by kernel_rfl)) (by kernel_rfl) (by kernel_rfl) (by kernel_rfl) (by rw [MakeChecks.laidMetH_plain _ _ _ (by kernel_rfl)]; exact laidMet_laidAll _ (by kernel_rfl) (by kernel_rfl))) ?_
  · intro ds hds
    have hds : ds.length = 3 := hds
    match ds, hds with
    | [_, _, _], _ => rfl
  intro W base args ds ps hval0 hA0 hsz0 hL hsh
  have hS : Sh W := cell_of_shapedOpen_int' hsh
  have hval : ∀ (j : Nat) t v, Tryd.f4.params[j]? = some t → args[j]? = some v → Value.okWide Tryd.prog W .any base t v := hval0
  have hA : DataW.TrodAll enc Tryd.prog W 0 (fun _ => true) true Tryd.f4.params.toList args.toList ds ps := hA0
  have hsz : (DataW.weightsEach Tryd.prog Tryd.f4.params.toList ds).all (· ≤ reachBytes) = true := hsz0
  rw [Tryd.params4] at hA hval hsz
  obtain ⟨v0, vs0, d0, ds0, p0, q0, hargs, rfl, rfl, h0, r0⟩ := trodAll_cons hA
  obtain ⟨v1, vs1, d1, ds1, p1, q1, rfl, rfl, rfl, h1, r1⟩ := trodAll_cons r0
  obtain ⟨v2, vs2, d2, ds2, p2, q2, rfl, rfl, rfl, h2, r2⟩ := trodAll_cons r1
  obtain ⟨rfl, rfl, rfl⟩ := trodAll_nil r2
  obtain rfl : args = #[v0, v1, v2] := by cases args; simp_all
  obtain ⟨a0, rfl, rfl, rfl, w0⟩ := open_int Tryd.underlying5 (hval 0 5 v0 rfl rfl) h0
  obtain ⟨a1, rfl, rfl, rfl, w1⟩ := open_int Tryd.underlying5 (hval 1 5 v1 rfl rfl) h1
  obtain ⟨A2, len2, cap2, rfl⟩ := okWide_slice Tryd.underlying22 (hval 2 22 v2 rfl rfl)
  obtain ⟨z2, w2⟩ := ints_row Tryd.underlying22 Tryd.underlying5 (by kernel_rfl) h2
  have y2 : len2 * 1 ≤ 140737488351232 := PrintWords.sized_ints hsz (j := 2) (t := 22) rfl rfl Tryd.underlying22 Tryd.underlying5 (by kernel_rfl) (by kernel_rfl) h2
  obtain ⟨l2, rfl, hr2, hm2, hw2, hc2⟩ := ReadsInt.ofRowC w2
  exact walk a0 w0 a1 w1 A2 cap2 l2 (Kd.C_of_reads (d := (0 : Int)) (h1 := fun _ => rfl) hr2) hc2 hw2 (by omega) W rfl hS
theorem over : Rows.httpSmugglesRow.holds Tryd.pinned (OpenSpec.ofChange Rows.httpSmugglesSpec) :=
  OpenClaim.holds_of_wide 4 Tryd.f4 rfl rfl rfl rfl rfl rfl rfl ⟨rfl, rfl, rfl, rfl, rfl⟩ rfl rfl rfl rfl rfl (by kernel_rfl) Tryd.func4 (by kernel_rfl)
    (of_decide_eq_true (by kernel_rfl)) (by unfold Func.isWrapper; rw [if_neg (of_decide_eq_false (by kernel_rfl))]; exact ⟨rfl, rfl⟩)
    (fun os started H enc _ => lifted os started H enc)
theorem said : Rows.HttpSmugglesSaid := over
theorem card : Rows.HttpSmugglesCardSaid :=
  Claim7.holds_tied_plain_at .later [] [.data, .pinned] true (true, "79a6d220dc140684a9dab3eb2f9ce24deda1b71e26dfa61c675eb49a4432bf09") true said (fun _ h => by cases h) (by kernel_rfl) (fun _ h => by cases h) httpSmuggles_row_tie rfl ⟨rfl, rfl⟩ (by kernel_rfl) rfl
    (fun f fn hf hfn => by
      obtain rfl : f = 4 := Option.some.inj ((show Tryd.prog.funcNamed "wicketman/wicketmanlaw09.HttpSmuggles" = some 4 by kernel_rfl).symm.trans hf) |>.symm
      obtain rfl : fn = Tryd.f4 := (Option.some.inj (Tryd.func4.symm.trans hfn)).symm
      exact ⟨by kernel_rfl, fun j t ht => by
        rw [Tryd.params4] at ht
        have hm : t ∈ [5, 5, 22] := by simpa using Array.mem_of_getElem? ht
        have hall : ([5, 5, 22].all fun u => !Tryd.prog.wantsStandIn u) = true := by kernel_rfl
        exact (show Tryd.prog.wantsStandIn t = false by simpa using List.all_eq_true.1 hall t hm)⟩)
    (by kernel_rfl)
#print axioms card
end Go.Proofs.YtpfbemcoblganaaDoor.httpSmuggles
namespace Go.Proofs.YtpfbemcoblganaaDoor
/-- The card, under a short name, for the claim. -/
theorem httpSmuggles_card : Rows.HttpSmugglesCardSaid := httpSmuggles.card
end Go.Proofs.YtpfbemcoblganaaDoor

