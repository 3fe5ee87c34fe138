/-
  resp.Print, resp.Reason.
-/
import Derived.Test.YtpfbemcoblganaaGreatDoorQzShelf
import Derived.Test.YtpfbemcoblganaaGreatDoorQzLines
import Derived.Test.YtpfbemcoblganaaGreatDoorQzPall0
import Derived.Deep.RegionWith
import Derived.Lib.ItoaLen
namespace Go.Proofs.YtpfbemcoblganaaGreatDoor.Pl
open Go.RowKit Go.Proofs.YtpfbemcoblganaaGreatDoor.Pall Go.Proofs.YtpfbemcoblganaaGreatDoorW.PrintWords Go.Proofs.YtpfbemcoblganaaGreatDoorW.PrintLast
set_option linter.unusedVariables false
set_option linter.unusedSimpArgs false
theorem buf_below {T e : TypeId} {B b : Nat} {bs : List Value} {W W' : World} (h : Lib.IsBuffer T e B b bs W) (hb : Below W.heap.size W W') : Lib.IsBuffer T e B b bs W' := by
  obtain ⟨h0, v, lr, h1, h2, h3⟩ := h
  refine ⟨h0, v, lr, blk_below h1 hb, ⟨h2.1, ?_⟩, h3⟩
  rcases h2.2 with h | ⟨g, cap, cur, e1, e2, e3, e4⟩
  · exact .inl h
  · exact .inr ⟨g, cap, cur, e1, e2, blk_below e3 hb, e4⟩
theorem byteCells_app (a b : List UInt8) : Lib.byteCells (a ++ b) = Lib.byteCells a ++ Lib.byteCells b := by unfold Lib.byteCells; rw [List.map_append]
theorem byteCells_one {l : List UInt8} : ∀ v ∈ Lib.byteCells l, v.oneCell' = true := by
  intro v hv
  unfold Lib.byteCells at hv
  obtain ⟨c, _, rfl⟩ := List.mem_map.1 hv
  rfl
set_option maxRecDepth 100000 in
set_option maxHeartbeats 1000000 in
theorem write_nil (b : Nat) (bs : List Value) (A : Option Addr) (c : Nat) (W : World) (h : Lib.IsBuffer 71 5 b b bs W) :
    Calls Tryz.prog 37 #[.pointer (some ⟨b, 0, none⟩), .slice A 0 c] W fun e w' => (∃ v, e = .returned v) ∧ Lib.IsBuffer 71 5 b b bs w' ∧ Below b W w' := by
  have hu := Tryz.underlying71
  have h' := h.setLast 0
  obtain ⟨-, v0, lr, hbk, -, -⟩ := id h
  have c2 : W.cell? ⟨b, 2, none⟩ = some (.int .i8 lr) := blk_cell hbk 2
  have f2 : W.frozen? ⟨b, 2, none⟩ = false := blk_frozen hbk 2
  have hbel0 : Below b W (W.setCell ⟨b, 2, none⟩ (.int .i8 0)) := (Below.refl b W).setCell (p := ⟨b, 2, none⟩) (Nat.le_refl _) _
  clear hbk v0 h
  have hce : ∀ d dLen dCap W, (Builtin.copy_ #[23, 23] 3 #[.slice d dLen dCap, .slice A 0 c]).run Tryz.prog W = .ok (goInt 0) W := fun d dLen dCap W => run_copy_none W 23 23 3 5 d A dLen dCap 0 c Tryz.underlying23 (by kernel_rfl) (Nat.zero_min _)
  have HT := hid (fun W hW => Tryz.Buffer_tryGrow b b 0 bs W hW)
  go_enter Tryz.func37, Tryz.ntmps37
  go_wp2_with (go_at_call 53; refine (HT.out _ ?_).mono ?_)
  · exact h'
  rintro e W1 (⟨rfl, xs, hxl, hI, hbel⟩ | ⟨rfl, rfl, hnr⟩)
  · clear h' c2 f2 HT
    obtain rfl := List.eq_nil_of_length_eq_zero hxl
    rw [List.append_nil] at hI
    have hbe := hbel0.trans hbel
    clear hbel0 hbel
    obtain ⟨_, v, lr2, hbk2, hv, _⟩ := id hI
    have d0 : W1.cell? ⟨b, 0, none⟩ = some v := blk_cell hbk2 0
    rcases hv.2 with ⟨rfl, hn0⟩ | ⟨g, cap, cur, rfl, _, _, hnc, hcm, _⟩
    · obtain rfl := List.eq_nil_of_length_eq_zero hn0
      go_wp2
      all_goals (go_ret2; exact ⟨⟨_, rfl⟩, hI, hbe⟩)
    · unfold maxLen at hcm
      go_wp2
      all_goals (go_ret2; exact ⟨⟨_, rfl⟩, hI, hbe⟩)
  · obtain ⟨_, _, _, _, hlt⟩ := hnr
    omega
def fsTxt (l : List S34) : List UInt8 := l.flatMap fun p => (printS p.f0 p.f1).1.data.toList ++ [13, 10]
theorem printS_len (n v : ByteArray) : (printS n v).1.data.toList.length ≤ 2000 := by
  unfold printS
  split
  · decide
  · split
    · decide
    · rename_i h; exact Nat.le_of_not_lt h
theorem fsTxt_app (l : List S34) (p : S34) : fsTxt (l ++ [p]) = fsTxt l ++ ((printS p.f0 p.f1).1.data.toList ++ [13, 10]) := by
  unfold fsTxt; rw [List.flatMap_append, List.flatMap_cons, List.flatMap_nil, List.append_nil]
theorem fsTxt_len (l : List S34) : (fsTxt l).length ≤ 2002 * l.length := by
  induction l with
  | nil => simp [fsTxt]
  | cons p l ih =>
    have h := printS_len p.f0 p.f1
    have e : fsTxt (p :: l) = (printS p.f0 p.f1).1.data.toList ++ [13, 10] ++ fsTxt l := by unfold fsTxt; rw [List.flatMap_cons]
    rw [e, List.length_append, List.length_append, List.length_cons]
    simp only [List.length_cons, List.length_nil]
    omega
end Go.Proofs.YtpfbemcoblganaaGreatDoor.Pl
