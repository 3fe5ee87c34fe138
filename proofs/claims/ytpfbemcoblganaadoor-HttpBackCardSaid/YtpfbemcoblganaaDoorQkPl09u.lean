/-
  HttpBack: a request that may be is parsed as it was; with a byte of the body more, or fewer, it is none.
-/
import Derived.Test.YtpfbemcoblganaaDoorQkPl10u
import Derived.Test.YtpfbemcoblganaaDoorQkPl10p
import Derived.Test.YtpfbemcoblganaaDoorQkShelf3
import Derived.Test.YtpfbemcoblganaaDoorQkHq
namespace Go.Proofs.YtpfbemcoblganaaDoor.Pl
open Go.RowKit Go.Proofs.YtpfbemcoblganaaDoor.Pall Go.Proofs.YtpfbemcoblganaaDoorW.PrintWords Go.Proofs.YtpfbemcoblganaaDoorW.PrintLast
set_option linter.unusedVariables false
set_option linter.unusedSimpArgs false
def methL (post : Bool) : List UInt8 := if post = true then [80, 79, 83, 84] else [71, 69, 84]
/-- a first line: a method, a path behind its slash -/
def fstL (post : Bool) (cs : List UInt8) : List UInt8 := methL post ++ 32 :: ((47 :: cs) ++ 32 :: [72, 84, 84, 80, 47, 49, 46, 49])
theorem meth_ok (post : Bool) : (∀ x ∈ methL post, x ≠ 32) ∧ tokL (methL post) = true ∧ (methL post).length ≤ 4 ∧ (methL post).all (· != 13) = true := by
  cases post <;> decide +kernel
theorem vis_ne (c : UInt8) (h : pthB c = true) : c ≠ 32 ∧ (c != 13) = true := by
  have := u8_all (fun c => !pthB c || ((c != 32) && (c != 13))) (by decide +kernel) c
  rw [h] at this
  simp only [Bool.not_true, Bool.false_or, Bool.and_eq_true] at this
  exact ⟨by simpa using this.1, this.2⟩
theorem fst_words (post : Bool) (cs : List UInt8) (h : cs.all pthB = true) : wordsL (mkB (fstL post cs)) = [mkB (methL post), mkB (47 :: cs), mkB [72, 84, 84, 80, 47, 49, 46, 49]] := by
  rw [wordsL_mk, mkB_list]
  unfold fstL
  rw [splitC_cut 32 _ (methL post) (meth_ok post).1, splitC_cut 32 _ (47 :: cs) ?_, splitC_one 32 [72, 84, 84, 80, 47, 49, 46, 49] (by decide)]
  · rfl
  · intro x hx
    rcases List.mem_cons.1 hx with rfl | hx
    · decide
    · exact (vis_ne x (List.all_eq_true.1 h x hx)).1
theorem fst_len (post : Bool) (cs : List UInt8) : (fstL post cs).length ≤ cs.length + 15 := by
  have := (meth_ok post).2.2.1
  unfold fstL
  simp only [List.length_append, List.length_cons, List.length_nil]
  omega
theorem fst_fst (post : Bool) (cs : List UInt8) (h : cs.all pthB = true) (hl : cs.length ≤ 100) : fstE (mkB (fstL post cs)) = 0 := by
  have hz := fst_len post cs
  unfold fstE
  have hp : pathL (47 :: cs) = true := by
    unfold pathL
    rw [Bool.and_eq_true]
    refine ⟨by simp [Lib.hasPrefix], ?_⟩
    rw [List.all_cons, h]; rfl
  have hw : okW (wordsL (mkB (fstL post cs))) = true := by
    rw [fst_words post cs h]
    show (tokL (methL post) && (pathL (47 :: cs) && ((mkB [72, 84, 84, 80, 47, 49, 46, 49]).toList == [72, 84, 84, 80, 47, 49, 46, 49]))) = true
    rw [hp, (meth_ok post).2.1, ByteArray.toList_eq, mkB_list]; decide +kernel
  rw [mkB_size, if_neg (by omega), if_pos hw]
theorem fst_line (post : Bool) (cs : List UInt8) (h : cs.all pthB = true) : lineOk (fstL post cs) = true := by
  have h1 : cs.all (· != 13) = true := all_imp h (fun c hc => (vis_ne c hc).2)
  unfold lineOk plainL fstL
  rw [Bool.and_eq_true]
  refine ⟨?_, ?_⟩
  · simp only [List.all_append, List.all_cons, List.all_nil, h1, (meth_ok post).2.2.2]; decide
  · cases post <;> rfl
def hostP : S43 := ⟨mkB [72, 111, 115, 116], mkB [97]⟩
def xP (c : UInt8) : S43 := ⟨mkB [88], mkB [c]⟩
def lenP (n : Nat) : S43 := ⟨mkB [99, 111, 110, 116, 101, 110, 116, 45, 76, 69, 78, 71, 84, 72], mkB (dgL n)⟩
def flsQ (ds : List UInt8) (n : Nat) : List S43 := hostP :: (ds.map xP ++ [lenP n])
theorem flsQ_good (ds : List UInt8) (n : Nat) (hd : ds.all pthB = true) (hn : n < 5000) : ∀ p ∈ flsQ ds n, goodP p := by
  obtain ⟨_, h2, h3⟩ := dgL_dec n hn
  intro p hp
  rcases List.mem_cons.1 hp with rfl | hp
  · exact ⟨by decide +kernel, by decide +kernel, by decide⟩
  · rcases List.mem_append.1 hp with hp | hp
    · obtain ⟨c, hc, rfl⟩ := List.mem_map.1 hp
      exact ⟨by show tokL [88] = true; decide +kernel, by show ([c].all pthB) = true; rw [List.all_cons, List.all_eq_true.1 hd c hc]; rfl, by show 1 + 2 + 1 ≤ 2000; omega⟩
    · rw [List.mem_singleton.1 hp]
      exact ⟨by show tokL [99, 111, 110, 116, 101, 110, 116, 45, 76, 69, 78, 71, 84, 72] = true; decide +kernel, h2, by show 14 + 2 + (dgL n).length ≤ 2000; omega⟩
theorem allS_xs (ds : List UInt8) (n : ByteArray) (h : sameS (mkB [88]) n = false) : allS (ds.map xP) n = [] := by
  unfold allS
  rw [List.map_eq_nil_iff, List.filter_eq_nil_iff]
  intro p hp
  obtain ⟨c, _, rfl⟩ := List.mem_map.1 hp
  show ¬ sameS (mkB [88]) n = true
  rw [h]; decide
theorem flsQ_body (ds : List UInt8) (n m : Nat) (hn : n < 4001) : bodyE (flsQ ds n) m = if m = n then 0 else 13 := by
  obtain ⟨h1, _, _⟩ := dgL_dec n (by omega)
  rw [if_pos (by omega)] at h1
  have key : ∀ nm : ByteArray, sameS (mkB [88]) nm = false → allS (flsQ ds n) nm = allS [hostP] nm ++ allS [lenP n] nm := by
    intro nm hx
    unfold flsQ
    rw [show hostP :: (ds.map xP ++ [lenP n]) = [hostP] ++ (ds.map xP ++ [lenP n]) from rfl, allS_app, allS_app, allS_xs ds nm hx, List.nil_append]
  have e1 : allS (flsQ ds n) hostB = [mkB [97]] := by
    rw [key hostB (by decide +kernel)]
    have a : allS [hostP] hostB = [mkB [97]] := by decide +kernel
    have b : allS [lenP n] hostB = [] := by
      unfold allS
      rw [List.map_eq_nil_iff, List.filter_eq_nil_iff]
      intro p hp
      rw [List.mem_singleton.1 hp]
      show ¬ sameS (mkB [99, 111, 110, 116, 101, 110, 116, 45, 76, 69, 78, 71, 84, 72]) hostB = true
      decide +kernel
    rw [a, b]; rfl
  have e2 : allS (flsQ ds n) teB = [] := by
    rw [key teB (by decide +kernel)]
    have a : allS [hostP] teB = [] := by decide +kernel
    have b : allS [lenP n] teB = [] := by
      unfold allS
      rw [List.map_eq_nil_iff, List.filter_eq_nil_iff]
      intro p hp
      rw [List.mem_singleton.1 hp]
      show ¬ sameS (mkB [99, 111, 110, 116, 101, 110, 116, 45, 76, 69, 78, 71, 84, 72]) teB = true
      decide +kernel
    rw [a, b]; rfl
  have e3 : allS (flsQ ds n) clB = [mkB (dgL n)] := by
    rw [key clB (by decide +kernel)]
    have a : allS [hostP] clB = [] := by decide +kernel
    have b : allS [lenP n] clB = [mkB (dgL n)] := by
      unfold allS
      rw [List.filter_cons_of_pos (by show sameS (mkB [99, 111, 110, 116, 101, 110, 116, 45, 76, 69, 78, 71, 84, 72]) clB = true; decide +kernel)]; rfl
    rw [a, b]; rfl
  unfold bodyE
  rw [e1, e2, e3, if_pos ⟨rfl, rfl, Nat.le_refl _⟩]
  show (if (decS (mkB (dgL n)) 4000).2 = true ∧ (decS (mkB (dgL n)) 4000).1 = (m : Int) then (0 : Int) else 13) = _
  rw [h1]
  by_cases hm : m = n
  · rw [if_pos ⟨rfl, by rw [hm]⟩, if_pos hm]
  · rw [if_neg (fun h => hm (by have h2 : (n : Int) = (m : Int) := h.2; omega)), if_neg hm]
def qLs (post : Bool) (cs ds : List UInt8) (n : Nat) : List (List UInt8) := fstL post cs :: (flsQ ds n).map flP
theorem qLs_ok (post : Bool) (cs ds : List UInt8) (n : Nat) (hc : cs.all pthB = true) (hd : ds.all pthB = true) (hn : n < 5000) : (qLs post cs ds n).all lineOk = true := by
  unfold qLs
  rw [List.all_cons, fst_line post cs hc, Bool.true_and, List.all_eq_true]
  intro x hx
  obtain ⟨p, hp, rfl⟩ := List.mem_map.1 hx
  exact goodP_line (flsQ_good ds n hd hn p hp)
theorem q_text (post : Bool) (cs ds : List UInt8) (n : Nat) (hd : ds.all pthB = true) (hn : n < 5000) : reqL (mkB (methL post)) (mkB (47 :: cs)) (flsQ ds n) = joinL (qLs post cs ds n) ++ [13, 10] := by
  unfold reqL qLs
  rw [good_txt (flsQ_good ds n hd hn), mkB_list, mkB_list, show fstL post cs :: (flsQ ds n).map flP = [fstL post cs] ++ (flsQ ds n).map flP from rfl, joinL_app]
  simp [joinL, fstL]
/-- what is parsed of a head that tells n bytes, with others behind it -/
theorem q_parse (post : Bool) (cs ds : List UInt8) (n : Nat) (bs : List UInt8) (hc : cs.all pthB = true) (hcl : cs.length ≤ 100) (hd : ds.all pthB = true) (hdl : ds.length ≤ 30) (hn : n < 4001) :
    parseQ (numsL (joinL (qLs post cs ds n) ++ 13 :: 10 :: bs)) = if bs.length = n then (mkB (methL post), mkB (47 :: cs), flsQ ds n, numsL bs, 0) else noReq 13 := by
  have hok := qLs_ok post cs ds n hc hd (by omega)
  have hg := flds_good (flsQ_good ds n hd (by omega))
  unfold qLs at hok ⊢
  rw [parse_req _ _ bs hok]
  have h1 := fst_fst post cs hc hcl
  have h2 : fstW (mkB (fstL post cs)) = mkB (methL post) := by unfold fstW; rw [fst_words post cs hc]; rfl
  have h3 : sndW (mkB (fstL post cs)) = mkB (47 :: cs) := by unfold sndW; rw [fst_words post cs hc]; rfl
  have hlen : ¬ 40 < (((flsQ ds n).map flP).map mkB).length := by
    rw [List.length_map, List.length_map]
    unfold flsQ
    rw [List.length_cons, List.length_append, List.length_map, List.length_singleton]
    omega
  have hb := flsQ_body ds n bs.length hn
  unfold parseL
  by_cases h : bs.length = n
  · rw [if_pos h] at hb
    simp only [h1, hg.1, hg.2, numsL_len, hb, h2, h3, if_neg hlen, ne_eq, not_true_eq_false, if_false, if_pos h]
  · rw [if_neg h] at hb
    simp only [h1, hg.1, hg.2, numsL_len, hb, if_neg hlen, ne_eq, not_true_eq_false, if_false, if_neg h, show ¬ (13 : Int) = 0 by decide, not_false_eq_true, if_true]
/-- the statement's three parses, and the print -/
theorem q_back (post : Bool) (cs ds : List UInt8) (bs : List UInt8) (hc : cs.all pthB = true) (hcl : cs.length ≤ 100) (hd : ds.all pthB = true) (hdl : ds.length ≤ 30) (hn : bs.length ≤ 400) :
    parseQ (reqT (mkB (methL post)) (mkB (47 :: cs)) (flsQ ds bs.length) (numsL bs)) = (mkB (methL post), mkB (47 :: cs), flsQ ds bs.length, numsL bs, 0) ∧
    (∀ x : UInt8, (parseQ (reqT (mkB (methL post)) (mkB (47 :: cs)) (flsQ ds bs.length) (numsL bs) ++ [(x.toNat : Int)])).2.2.2.2 = 13) ∧
    (parseQ ((reqT (mkB (methL post)) (mkB (47 :: cs)) (flsQ ds bs.length) (numsL bs)).take ((reqT (mkB (methL post)) (mkB (47 :: cs)) (flsQ ds bs.length) (numsL bs)).length - 1))).2.2.2.2 = if bs.length = 0 then 10 else 13 := by
  have ht : reqT (mkB (methL post)) (mkB (47 :: cs)) (flsQ ds bs.length) (numsL bs) = numsL (joinL (qLs post cs ds bs.length) ++ 13 :: 10 :: bs) := by
    unfold reqT
    rw [q_text post cs ds bs.length hd (by omega)]
    unfold numsL
    rw [← List.map_append]; simp
  rw [ht]
  refine ⟨?_, fun x => ?_, ?_⟩
  · rw [q_parse post cs ds bs.length bs hc hcl hd hdl (by omega), if_pos rfl]
  · have e : numsL (joinL (qLs post cs ds bs.length) ++ 13 :: 10 :: bs) ++ [(x.toNat : Int)] = numsL (joinL (qLs post cs ds bs.length) ++ 13 :: 10 :: (bs ++ [x])) := by unfold numsL; simp
    rw [e, q_parse post cs ds bs.length (bs ++ [x]) hc hcl hd hdl (by omega), if_neg (by rw [List.length_append, List.length_singleton]; omega)]; rfl
  · have e : (numsL (joinL (qLs post cs ds bs.length) ++ 13 :: 10 :: bs)).take ((numsL (joinL (qLs post cs ds bs.length) ++ 13 :: 10 :: bs)).length - 1) = numsL ((joinL (qLs post cs ds bs.length) ++ 13 :: 10 :: bs).take ((joinL (qLs post cs ds bs.length) ++ 13 :: 10 :: bs).length - 1)) := by rw [numsL_len]; unfold numsL; rw [List.map_take]
    rw [e]
    by_cases h : bs.length = 0
    · obtain rfl := List.eq_nil_of_length_eq_zero h
      rw [if_pos (show ([] : List UInt8).length = 0 from rfl)]
      unfold parseQ
      rw [numsL_str, mkB_list, linesS_cut _ _ (qLs_ok post cs ds _ hc hd (by simp)) (by simp only [List.length_append, List.length_cons, List.length_nil]; omega)]
      rfl
    · rw [if_neg h]
      have key : ∀ X : List UInt8, (X ++ bs).take ((X ++ bs).length - 1) = X ++ bs.take (bs.length - 1) := by
        intro X
        rw [List.length_append, List.take_append, List.take_of_length_le (by omega), show X.length + bs.length - 1 - X.length = bs.length - 1 by omega]
      have e2 : (joinL (qLs post cs ds bs.length) ++ 13 :: 10 :: bs).take ((joinL (qLs post cs ds bs.length) ++ 13 :: 10 :: bs).length - 1) = joinL (qLs post cs ds bs.length) ++ 13 :: 10 :: bs.take (bs.length - 1) := by
        have h2 := key (joinL (qLs post cs ds bs.length) ++ [13, 10])
        rw [List.append_assoc, List.append_assoc] at h2
        exact h2
      rw [e2, q_parse post cs ds bs.length _ hc hcl hd hdl (by omega), if_neg (by rw [List.length_take]; omega)]; rfl
theorem hsame_self (m p : ByteArray) (fs : List S43) (b : List Int) (hb : fs.length ≤ 9223372036854775806) : Ev (fun k => http_Same.f k m p fs b m p fs b) true := by
  obtain ⟨v, e1, e2⟩ := pairs_both fs fs rfl hb _ 0 rfl (Nat.zero_le _)
  have hv : v = true := by
    have h := fs_same_true fs hb
    refine ev_one (Ev.congr (fun k => ?_) e2) h
    unfold wicketmanref07_Same.f; rw [if_pos rfl]; rfl
  subst hv
  refine Ev.congr (f := fun k => (api_Pair.f k fs fs).bind fun t => if t = true then ((bytes_Equal.f b b).bind fun t => some t) else some false) (fun k => by unfold http_Same.f; rw [if_pos rfl, if_pos rfl]) (Ev.bind (a := true) (Ev.congr (fun k => by unfold api_Pair.f; rw [if_pos rfl]; rfl) e1) ?_)
  simp only [if_true, bytes_Equal.f, Option.bind_some, beq_self_eq_true]
  exact Ev.now _
end Go.Proofs.YtpfbemcoblganaaDoor.Pl
