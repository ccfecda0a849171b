/- Small facts on reading a list of whole numbers at a place, and on sums that don't wrap. -/
import Derived.Test.YtoigebnhnkdbbaaMath
import Derived.Test.YtoigebnhnkdbbaaWWords
namespace Go.Proofs.Ytoigebnhnkdbbaa.Math
open Go.RowKit Go.Proofs.YtoigebnhnkdbbaaW.PrintWords

theorem wrap_id {x : Int} (h0 : -9223372036854775808 ≤ x) (h1 : x < 9223372036854775808) : wrap64 x = x := by unfold wrap64; omega

theorem rd_take_succ {l : List Int} {k : Nat} (h : k < l.length) : l.take (k + 1) = l.take k ++ [rd l (k : Int)] := by
  rw [List.take_succ_eq_append_getElem h]
  simp [rd, List.getD_eq_getElem?_getD, List.getElem?_eq_getElem h]
theorem rd_mem {l : List Int} {k : Nat} (h : k < l.length) : rd l (k : Int) ∈ l := by
  simp only [rd, Int.toNat_natCast, List.getD_eq_getElem?_getD, List.getElem?_eq_getElem h, Option.getD_some]
  exact List.getElem_mem h
theorem rd_drop {l : List Int} {i : Nat} (h : i < l.length) : l.drop i = rd l (i : Int) :: l.drop (i + 1) := by
  rw [List.drop_eq_getElem_cons h]
  simp [rd, List.getD_eq_getElem?_getD, List.getElem?_eq_getElem h]
theorem rd_isB {l : List Int} (h : IsB l) (i : Nat) : 0 ≤ rd l (i : Int) ∧ rd l (i : Int) < 256 := by
  by_cases hi : i < l.length
  · exact h _ (rd_mem hi)
  · have : rd l (i : Int) = 0 := by
      simp only [rd, Int.toNat_natCast, List.getD_eq_getElem?_getD]
      rw [List.getElem?_eq_none (by omega)]; rfl
    rw [this]; omega
theorem rd_append {a b : List Int} {j : Nat} (h : j < a.length) : rd (a ++ b) (j : Int) = rd a (j : Int) := by
  simp [rd, List.getD_eq_getElem?_getD, List.getElem?_append_left h]

/-- A block that is known whole reads as its numbers. -/
theorem C_block {k : IntKind} {w : World} {g : Nat} {t : TypeId} {fr : Nat × Nat} (xs : List Int) (hn : xs.length ≤ 9223372036854775807) (h : w.heap[g]? = some (.cells (xs.map (Value.int k)).toArray t fr)) :
    Kd.C (Kd.int k) w (some ⟨g, 0, none⟩) xs.length xs := by
  refine Kd.C_of_reads (d := (0 : Int)) ⟨rfl, hn, fun _ => ⟨_, rfl, ?_⟩⟩
  intro i hi
  rw [add_plain, cell_of_row w g i _ t fr h]
  simp [List.getElem?_eq_getElem hi]

end Go.Proofs.Ytoigebnhnkdbbaa.Math
