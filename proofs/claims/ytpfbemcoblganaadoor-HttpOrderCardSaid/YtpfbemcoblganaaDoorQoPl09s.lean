/-
  Requests that are laid line by line: what is parsed of them; escaped texts.
-/
import Derived.Test.YtpfbemcoblganaaDoorQoPl09p
import Derived.Test.YtpfbemcoblganaaDoorQoPl09q
import Derived.Test.YtpfbemcoblganaaDoorQoPall13
namespace Go.Proofs.YtpfbemcoblganaaDoor.Pl
open Go.RowKit Go.Proofs.YtpfbemcoblganaaDoor.Pall Go.Proofs.YtpfbemcoblganaaDoorW.PrintWords Go.Proofs.YtpfbemcoblganaaDoorW.PrintLast
set_option linter.unusedVariables false
set_option linter.unusedSimpArgs false
theorem parse_req (L0 : List UInt8) (ls : List (List UInt8)) (body : List UInt8) (h : (L0 :: ls).all lineOk = true) : parseQ (numsL (joinL (L0 :: ls) ++ 13 :: 10 :: body)) = parseL (mkB L0 :: ls.map mkB) (numsL body) := by
  unfold parseQ
  rw [numsL_str, mkB_list, linesS_join _ _ h]
  simp only [if_true, List.map_cons]
  congr 1
  rw [numsL_len]
  have e : (joinL (L0 :: ls) ++ 13 :: 10 :: body).length - body.length = (joinL (L0 :: ls) ++ [13, 10]).length := by
    rw [List.length_append, List.length_append, List.length_cons, List.length_cons]; simp only [List.length_cons, List.length_nil]; omega
  rw [e]
  have e2 : joinL (L0 :: ls) ++ 13 :: 10 :: body = (joinL (L0 :: ls) ++ [13, 10]) ++ body := by simp
  rw [e2]
  unfold numsL
  rw [List.map_append, List.drop_left' (by rw [List.length_map])]
theorem allS_app (a b : List S43) (n : ByteArray) : allS (a ++ b) n = allS a n ++ allS b n := by
  unfold allS; rw [List.filter_append, List.map_append]
theorem bodyE_same (a b : List S43) (n : Nat) (h1 : allS a hostB = allS b hostB) (h2 : allS a teB = allS b teB) (h3 : allS a clB = allS b clB) : bodyE a n = bodyE b n := by
  unfold bodyE; rw [h1, h2, h3]
theorem fldsE_ok {l : List ByteArray} (h : ∀ x ∈ l, (fieldS x).2.2 = 0) : fldsE l = 0 := by
  induction l with
  | nil => rfl
  | cons x l ih =>
    unfold fldsE
    rw [if_pos (h x (by simp))]
    exact ih (fun y hy => h y (List.mem_cons_of_mem _ hy))
end Go.Proofs.YtpfbemcoblganaaDoor.Pl
