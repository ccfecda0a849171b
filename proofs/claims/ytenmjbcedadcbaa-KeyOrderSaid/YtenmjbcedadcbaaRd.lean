/- Small facts on reading a list of whole numbers at a place, and on sums that don't wrap. -/
import Derived.Test.YtenmjbcedadcbaaMath
import Derived.Test.YtenmjbcedadcbaaWWords
namespace Go.Proofs.Ytenmjbcedadcbaa.Math
open Go.RowKit Go.Proofs.YtenmjbcedadcbaaW.PrintWords

theorem wrap_id {x : Int} (h0 : -9223372036854775808 ≤ x) (h1 : x < 9223372036854775808) : wrap64 x = x := by unfold wrap64; omega

theorem rd_take_succ {l : List Int} {k : Nat} (h : k < l.length) : l.take (k + 1) = l.take k ++ [rd l (k : Int)] := by
  rw [List.take_succ_eq_append_getElem h]
  simp [rd, List.getD_eq_getElem?_getD, List.getElem?_eq_getElem h]
theorem rd_mem {l : List Int} {k : Nat} (h : k < l.length) : rd l (k : Int) ∈ l := by
  simp only [rd, Int.toNat_natCast, List.getD_eq_getElem?_getD, List.getElem?_eq_getElem h, Option.getD_some]
  exact List.getElem_mem h
theorem rd_drop {l : List Int} {i : Nat} (h : i < l.length) : l.drop i = rd l (i : Int) :: l.drop (i + 1) := by
  rw [List.drop_eq_getElem_cons h]
  simp [rd, List.getD_eq_getElem?_getD, List.getElem?_eq_getElem h]
theorem rd_append {a b : List Int} {j : Nat} (h : j < a.length) : rd (a ++ b) (j : Int) = rd a (j : Int) := by
  simp [rd, List.getD_eq_getElem?_getD, List.getElem?_append_left h]

end Go.Proofs.Ytenmjbcedadcbaa.Math
