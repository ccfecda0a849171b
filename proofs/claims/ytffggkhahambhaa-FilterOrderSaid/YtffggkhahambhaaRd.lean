/- Small facts on reading a list of whole numbers at a place, and on sums that don't wrap. -/
import Derived.Test.YtffggkhahambhaaMath
import Derived.Test.YtffggkhahambhaaWWords
namespace Go.Proofs.Ytffggkhahambhaa.Math
open Go.RowKit Go.Proofs.YtffggkhahambhaaW.PrintWords

theorem wrap_id {x : Int} (h0 : -9223372036854775808 ≤ x) (h1 : x < 9223372036854775808) : wrap64 x = x := by unfold wrap64; omega

theorem rd_drop {l : List Int} {i : Nat} (h : i < l.length) : l.drop i = rd l (i : Int) :: l.drop (i + 1) := by
  rw [List.drop_eq_getElem_cons h]
  simp [rd, List.getD_eq_getElem?_getD, List.getElem?_eq_getElem h]
end Go.Proofs.Ytffggkhahambhaa.Math
