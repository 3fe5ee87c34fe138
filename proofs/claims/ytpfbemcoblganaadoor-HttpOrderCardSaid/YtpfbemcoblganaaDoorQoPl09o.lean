/-
  HttpOrder: what a request with fields in some order is parsed as.
-/
import Derived.Test.YtpfbemcoblganaaDoorQoPl09m
namespace Go.Proofs.YtpfbemcoblganaaDoor.Pl
open Go.RowKit Go.Proofs.YtpfbemcoblganaaDoor.Pall Go.Proofs.YtpfbemcoblganaaDoorW.PrintWords
set_option linter.unusedVariables false
set_option linter.unusedSimpArgs false
def blkL (b : Nat) : List UInt8 := ([32, 9, 32, 32] : List UInt8).take b
def nmO (a : Nat) : List UInt8 := [120, UInt8.ofNat (65 + a)]
def vlO (v : Nat) : List UInt8 := [UInt8.ofNat (97 + v)]
def ordL (b : Nat) (p : Nat × Nat) : List UInt8 := nmO p.1 ++ 58 :: (blkL b ++ vlO p.2 ++ [32])
set_option maxRecDepth 100000 in
theorem ord_all : ((List.range 26).all fun a => (List.range 5).all fun b => (List.range 16).all fun v => decide (fieldS (mkB (ordL b (a, v))) = (mkB (nmO a), mkB (vlO v), 0)) && (lineOk (ordL b (a, v)) && (!sameS (mkB (nmO a)) hostB && (!sameS (mkB (nmO a)) teB && !sameS (mkB (nmO a)) clB)))) = true := by decide +kernel
theorem ord_one (b : Nat) (p : Nat × Nat) (ha : p.1 < 26) (hb : b < 5) (hv : p.2 < 16) : fieldS (mkB (ordL b p)) = (mkB (nmO p.1), mkB (vlO p.2), 0) ∧ lineOk (ordL b p) = true ∧ sameS (mkB (nmO p.1)) hostB = false ∧ sameS (mkB (nmO p.1)) teB = false ∧ sameS (mkB (nmO p.1)) clB = false := by
  have h1 := List.all_eq_true.1 (List.all_eq_true.1 (List.all_eq_true.1 ord_all p.1 (List.mem_range.2 ha)) b (List.mem_range.2 hb)) p.2 (List.mem_range.2 hv)
  simp only [Bool.and_eq_true, Bool.not_eq_true', decide_eq_true_eq] at h1
  exact ⟨h1.1, h1.2.1, h1.2.2.1, h1.2.2.2.1, h1.2.2.2.2⟩
theorem allS_none (l : List S43) (n : ByteArray) (h : ∀ p ∈ l, sameS p.f0 n = false) : allS l n = [] := by
  unfold allS
  rw [List.map_eq_nil_iff, List.filter_eq_nil_iff]
  intro p hp
  rw [h p hp]; decide
/-- fields come in their order, names as they were written, values without blanks at their ends -/
theorem order_parse (b : Nat) (hb : b < 5) (ps : List (Nat × Nat)) (hp : ∀ p ∈ ps, p.1 < 26 ∧ p.2 < 16) (hn : ps.length ≤ 20) :
    (parseQ (numsL (joinL (getL :: hostA :: ps.map (ordL b)) ++ [13, 10]))).2.2.2.2 = 0 ∧ (parseQ (numsL (joinL (getL :: hostA :: ps.map (ordL b)) ++ [13, 10]))).2.2.1 = ⟨mkB [72, 111, 115, 116], mkB [97]⟩ :: ps.map fun p => ⟨mkB (nmO p.1), mkB (vlO p.2)⟩ := by
  have hok : (getL :: hostA :: ps.map (ordL b)).all lineOk = true := by
    have h1 : lineOk getL = true := by decide
    have h2 : lineOk hostA = true := by decide
    rw [List.all_cons, List.all_cons, h1, h2, Bool.true_and, Bool.true_and, List.all_eq_true]
    intro x hx
    obtain ⟨p, hp1, rfl⟩ := List.mem_map.1 hx
    exact (ord_one b p (hp p hp1).1 hb (hp p hp1).2).2.1
  rw [parse_req getL (hostA :: ps.map (ordL b)) [] hok]
  have hho : fieldS (mkB hostA) = (mkB [72, 111, 115, 116], mkB [97], 0) := by decide +kernel
  have hhf : fldS (mkB hostA) = ⟨mkB [72, 111, 115, 116], mkB [97]⟩ := by unfold fldS; rw [hho]
  have hlen : ((hostA :: ps.map (ordL b)).map mkB).length = ps.length + 1 := by rw [List.length_map, List.length_cons, List.length_map]
  have hfl : fldsE ((hostA :: ps.map (ordL b)).map mkB) = 0 := by
    refine fldsE_ok (fun x hx => ?_)
    rw [List.map_cons] at hx
    rcases List.mem_cons.1 hx with rfl | hx
    · rw [hho]
    · obtain ⟨y, hy, rfl⟩ := List.mem_map.1 hx
      obtain ⟨p, hp1, rfl⟩ := List.mem_map.1 hy
      rw [(ord_one b p (hp p hp1).1 hb (hp p hp1).2).1]
  have hm : ((hostA :: ps.map (ordL b)).map mkB).map fldS = ⟨mkB [72, 111, 115, 116], mkB [97]⟩ :: ps.map fun p => ⟨mkB (nmO p.1), mkB (vlO p.2)⟩ := by
    rw [List.map_cons, List.map_cons, hhf, List.map_map, List.map_map]
    congr 1
    refine List.map_congr_left (fun p hp1 => ?_)
    show fldS (mkB (ordL b p)) = _
    unfold fldS
    rw [(ord_one b p (hp p hp1).1 hb (hp p hp1).2).1]
  have hbd : bodyE (((hostA :: ps.map (ordL b)).map mkB).map fldS) 0 = 0 := by
    rw [hm]
    have key : ∀ n : ByteArray, (∀ p ∈ ps, sameS (mkB (nmO p.1)) n = false) → allS ((⟨mkB [72, 111, 115, 116], mkB [97]⟩ : S43) :: ps.map fun p => (⟨mkB (nmO p.1), mkB (vlO p.2)⟩ : S43)) n = allS [(⟨mkB [72, 111, 115, 116], mkB [97]⟩ : S43)] n := by
      intro n hnn
      rw [show ((⟨mkB [72, 111, 115, 116], mkB [97]⟩ : S43) :: ps.map fun p => (⟨mkB (nmO p.1), mkB (vlO p.2)⟩ : S43)) = [(⟨mkB [72, 111, 115, 116], mkB [97]⟩ : S43)] ++ (ps.map fun p => (⟨mkB (nmO p.1), mkB (vlO p.2)⟩ : S43)) from rfl, allS_app, allS_none (ps.map fun p => (⟨mkB (nmO p.1), mkB (vlO p.2)⟩ : S43)) n ?_, List.append_nil]
      intro q hq
      obtain ⟨p, hp1, rfl⟩ := List.mem_map.1 hq
      exact hnn p hp1
    rw [bodyE_same _ [(⟨mkB [72, 111, 115, 116], mkB [97]⟩ : S43)] 0 (key hostB (fun p hp1 => (ord_one b p (hp p hp1).1 hb (hp p hp1).2).2.2.1)) (key teB (fun p hp1 => (ord_one b p (hp p hp1).1 hb (hp p hp1).2).2.2.2.1)) (key clB (fun p hp1 => (ord_one b p (hp p hp1).1 hb (hp p hp1).2).2.2.2.2))]
    decide +kernel
  unfold parseL
  simp only [get_fst, hfl, numsL, List.map_nil, List.length_nil, hbd, if_neg (show ¬ 40 < ((hostA :: ps.map (ordL b)).map mkB).length by omega), ne_eq, not_true_eq_false, if_false]
  exact ⟨trivial, hm⟩
end Go.Proofs.YtpfbemcoblganaaDoor.Pl
