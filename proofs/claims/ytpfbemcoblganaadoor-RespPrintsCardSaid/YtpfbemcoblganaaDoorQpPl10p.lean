/-
Response, as choices say: its fields may be printed, and read.
Response, as any choices say: its fields may be printed, and read.
Responses: what resp.Print answers, law by law.
Pages, and responses that are the same.
-/
import Derived.Test.YtpfbemcoblganaaDoorQpPl10u
import Derived.Test.YtpfbemcoblganaaDoorQpPall25
import Derived.Test.YtpfbemcoblganaaDoorQpPall22
import Derived.Test.YtpfbemcoblganaaDoorQpRp
import Derived.Test.YtpfbemcoblganaaDoorQpPlb
import Derived.Test.YtpfbemcoblganaaDoorQpPall4
section
namespace Go.Proofs.YtpfbemcoblganaaDoor.Pl
open Go.RowKit Go.Proofs.YtpfbemcoblganaaDoor.Pall Go.Proofs.YtpfbemcoblganaaDoorW.PrintWords Go.Proofs.YtpfbemcoblganaaDoorW.PrintLast
set_option linter.unusedVariables false
set_option linter.unusedSimpArgs false
set_option maxRecDepth 100000 in
theorem nmX_all : ((List.range 256).all fun x => tokL [88, UInt8.ofNat (97 + x % 26)]) = true := by decide +kernel
theorem nameX (x : Int) (h : 0 ≤ x ∧ x ≤ 255) : (⟨#[88]⟩ : ByteArray) ++ strOfNums [(97 + Int.tmod x 26) % 256] = mkB [88, UInt8.ofNat (97 + x.toNat % 26)] ∧ tokL [88, UInt8.ofNat (97 + x.toNat % 26)] = true := by
  refine ⟨?_, List.all_eq_true.1 nmX_all x.toNat (List.mem_range.2 (by omega))⟩
  have e : (97 + Int.tmod x 26) % 256 = ((97 + x.toNat % 26 : Nat) : Int) := by rw [tmod_pos _ (by omega) 26]; omega
  rw [e]
  refine Pall.ba_ext ?_
  show _ = [88, UInt8.ofNat (97 + x.toNat % 26)]
  rw [ByteArray.data_append, Array.toList_append, strOfNums_data]
  show [88] ++ [UInt8.ofNat (((97 + x.toNat % 26 : Nat) : Int)).toNat] = _
  rw [Int.toNat_natCast]; rfl
theorem statuses_f : wicketmanref10_Statuses.f = some stsL := by decide +kernel
end Go.Proofs.YtpfbemcoblganaaDoor.Pl
end
section
namespace Go.Proofs.YtpfbemcoblganaaDoor.Pl
open Go.RowKit Go.Proofs.YtpfbemcoblganaaDoor.Pall Go.Proofs.YtpfbemcoblganaaDoorW.PrintWords Go.Proofs.YtpfbemcoblganaaDoorW.PrintLast
set_option linter.unusedVariables false
set_option linter.unusedSimpArgs false
def stF (a st : Int) : Int := if a > 230 then wrap64 a else st
theorem resp_loop2 (c b : List Int) (hc : ∀ x ∈ c, 0 ≤ x ∧ x ≤ 255) (hl : c.length ≤ 9223372036854775806) (a st : Int) : ∀ d i (fs : List S43), 6 - i = d → i ≤ 6 → fs.length ≤ i → (∀ p ∈ fs, goodP p) →
    ∃ fs' : List S43, (∀ p ∈ fs', goodP p) ∧ fs'.length ≤ 6 ∧ Ev (fun k => wicketmanlaw10_Response.l0 k c a (i : Int) st fs b) (stF a st, fs', b) := by
  intro d
  induction d with
  | zero =>
    intro i fs hd hi hf hg
    obtain rfl : i = 6 := by omega
    refine ⟨fs, hg, hf, Ev.step (f := fun k => wicketmanlaw10_Response.j1 k c a ((6 : Nat) : Int) false st fs b) (fun k => ?_) (Ev.step (f := fun _ => some (stF a st, fs, b)) (fun k => ?_) (Ev.now _))⟩
    · simp only [wicketmanlaw10_Response.l0]
      by_cases h : (((6 : Nat) : Int) < (c.length : Int))
      · rw [if_pos h]; rfl
      · rw [if_neg h]
    · simp only [wicketmanlaw10_Response.j1]; rw [if_neg (by decide)]; unfold stF; split <;> rfl
  | succ d ih =>
    intro i fs hd hi hf hg
    by_cases hlt : i < c.length
    · have hx : 0 ≤ rd c (i : Int) ∧ rd c (i : Int) ≤ 255 := by unfold rd; rw [Int.toNat_natCast]; exact hc _ (getD_memP c 0 hlt)
      obtain ⟨hn1, hn2⟩ := nameX _ hx
      have hcd : ∀ x ∈ c.drop i, 0 ≤ x ∧ x ≤ 255 := fun x h => hc x (List.mem_of_mem_drop h)
      have hL := line_ev (c.drop i) hcd (by rw [List.length_drop]; omega)
      have hLz := lineS_size (c.drop i) hcd
      obtain ⟨r, hr1, hr2, hr3⟩ := esc_ev (lineS (c.drop i)) (by omega)
      have hgp : goodP ⟨mkB [88, UInt8.ofNat (97 + (rd c (i : Int)).toNat % 26)], r⟩ := by
        refine ⟨hn2, hr2, ?_⟩
        show 2 + 2 + r.data.toList.length ≤ 2000
        rw [len_data]; omega
      obtain ⟨fs', h1, h2, h3⟩ := ih (i + 1) (fs ++ [⟨mkB [88, UInt8.ofNat (97 + (rd c (i : Int)).toNat % 26)], r⟩]) (by omega) (by omega) (by rw [List.length_append, List.length_singleton]; omega) (by
        intro p hp
        rcases List.mem_append.1 hp with hp | hp
        · exact hg p hp
        · rw [List.mem_singleton.1 hp]; exact hgp)
      refine ⟨fs', h1, h2, Ev.step (f := fun k => wicketmanlaw10_Response.j1 k c a (i : Int) true st fs b) (fun k => ?_) (Ev.step (f := fun k => (wicketmanlaw08_Line.f k (c.drop i)).bind fun t => (wicketmanref07_Escape.f k t).bind fun u => wicketmanlaw10_Response.l0 k c a ((i + 1 : Nat) : Int) st (fs ++ [⟨mkB [88, UInt8.ofNat (97 + (rd c (i : Int)).toNat % 26)], u⟩]) b) (fun k => ?_) (Ev.bind hL (Ev.bind hr3 h3)))⟩
      · simp only [wicketmanlaw10_Response.l0]
        rw [if_pos (by omega), decide_eq_true (show (i : Int) < 6 by omega)]
      · simp only [wicketmanlaw10_Response.j1, Option.bind_some, if_true]
        have hz : (strOfNums [(97 + Int.tmod (rd c (i : Int)) 26) % 256]).size = 1 := by
          have h := congrArg ByteArray.size hn1
          rw [ByteArray.size_append, mkB_size] at h
          have h : 1 + _ = 2 := h
          omega
        rw [if_pos (by omega), if_pos (by omega), if_pos (by omega), if_pos (by omega), hn1, Int.toNat_natCast, wrap_id (by omega) (by omega)]
        simp only [if_pos (show fs.length < 4398046511104 by omega)]
        rfl
    · refine ⟨fs, hg, by omega, Ev.step (f := fun k => wicketmanlaw10_Response.j1 k c a (i : Int) false st fs b) (fun k => ?_) (Ev.step (f := fun _ => some (stF a st, fs, b)) (fun k => ?_) (Ev.now _))⟩
      · simp only [wicketmanlaw10_Response.l0]; rw [if_neg (by omega)]
      · simp only [wicketmanlaw10_Response.j1]; rw [if_neg (by decide)]; unfold stF; split <;> rfl
theorem resp_any (c b : List Int) (hc : ∀ x ∈ c, 0 ≤ x ∧ x ≤ 255) (hl : c.length ≤ 9223372036854775806) (a : Int) (h0 : 0 ≤ a) (ha : a ≤ 255) :
    ∃ (st : Int) (fs : List S43), (∀ p ∈ fs, goodP p) ∧ fs.length ≤ 6 ∧ Ev (fun k => wicketmanlaw10_Response.f k c b a) (st, fs, b) := by
  have hi : a.toNat % 12 < stsL.length := by show _ < 12; omega
  obtain ⟨fs, h1, h2, h3⟩ := resp_loop2 c b hc hl a (stsL.getD (a.toNat % 12) 0) _ 0 [] rfl (by omega) (Nat.le_refl _) (fun p hp => by cases hp)
  refine ⟨stF a (stsL.getD (a.toNat % 12) 0), fs, h1, h2, Ev.congr (fun k => ?_) h3⟩
  unfold wicketmanlaw10_Response.f
  rw [statuses_f, Option.bind_some, show (stsL.length : Int) = 12 from rfl, if_neg (by decide), wrap_id (by omega) (by omega), tmod_pos _ (by omega) 12, if_pos (by omega), if_pos (by omega)]
  have e : rd stsL (a % 12) = stsL.getD (a.toNat % 12) 0 := by unfold rd; rw [show (a % 12).toNat = a.toNat % 12 by omega]
  rw [e]; rfl
end Go.Proofs.YtpfbemcoblganaaDoor.Pl
end
section
namespace Go.Proofs.YtpfbemcoblganaaDoor.Pl
open Go.RowKit Go.Proofs.YtpfbemcoblganaaDoor.Pall Go.Proofs.YtpfbemcoblganaaDoorW.PrintWords
set_option linter.unusedVariables false
set_option linter.unusedSimpArgs false
theorem prS_long {st : Int} {fs : List S43} {body : List Int} (h : reasonS st ≠ ⟨#[]⟩) (h2 : 4000 < body.length ∨ 40 < fs.length) : prS st fs body = ([], 3) := by
  unfold prS; rw [if_neg h, if_pos h2]
end Go.Proofs.YtpfbemcoblganaaDoor.Pl
end
section
namespace Go.Proofs.YtpfbemcoblganaaDoor.Pl
open Go.RowKit Go.Proofs.YtpfbemcoblganaaDoor.Pall Go.Proofs.YtpfbemcoblganaaDoorW.PrintWords
set_option linter.unusedVariables false
set_option linter.unusedSimpArgs false
theorem fs_same (l : List S43) (hl : l.length ≤ 9223372036854775806) : ∀ d i, l.length - i = d → i ≤ l.length → Ev (fun k => wicketmanref07_Same.l0 k l l (i : Nat)) true := by
  intro d
  induction d with
  | zero =>
    intro i hd hi
    refine Ev.step (f := fun _ => some true) (fun k => ?_) (Ev.now _)
    simp only [wicketmanref07_Same.l0]; rw [if_neg (by omega)]
  | succ d ih =>
    intro i hd hi
    refine Ev.step (fun k => ?_) (ih (i + 1) (by omega) (by omega))
    simp only [wicketmanref07_Same.l0]
    rw [if_pos (by omega), if_pos (by omega), if_pos (by omega), if_neg (by simp), wrap_id (by omega) (by omega)]
    rfl
theorem fs_same_true (l : List S43) (hl : l.length ≤ 9223372036854775806) : Ev (fun k => wicketmanref07_Same.f k l l) true := by
  refine Ev.congr (f := fun k => wicketmanref07_Same.l0 k l l ((0 : Nat) : Int)) (fun k => ?_) (fs_same l hl _ 0 rfl (by omega))
  unfold wicketmanref07_Same.f; rw [if_pos rfl]; rfl
theorem same10_true (a : Int) (l : List S43) (b : List Int) (hl : l.length ≤ 9223372036854775806) : Ev (fun k => wicketmanref10_Same.f k a l b a l b) true := by
  refine Ev.congr (f := fun k => (wicketmanref07_Same.f k l l).bind fun t => if t = true then some ((strOfNums b).toList == (strOfNums b).toList) else some false) (fun k => ?_) (Ev.bind (fs_same_true l hl) ?_)
  · unfold wicketmanref10_Same.f; rw [if_pos rfl]
  · rw [beq_self_eq_true]; exact Ev.now _
end Go.Proofs.YtpfbemcoblganaaDoor.Pl
end
