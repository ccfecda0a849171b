-- Written by a program: the kit's print.py, driven for several laws at once. Not trusted: Lean checks it.
import Derived.Test.YtkgpnfjmahjlcaaDoorPAllx0
import Derived.Test.YtkgpnfjmahjlcaaDoorPAllx1
import Derived.Test.YtkgpnfjmahjlcaaDoorPAllx2
import Derived.Test.YtkgpnfjmahjlcaaDoorPAllx3
namespace Go.Proofs.YtkgpnfjmahjlcaaDoor.PAll
open Go.RowKit Go.Proofs.YtkgpnfjmahjlcaaDoorW.PrintWords Go.Proofs.YtkgpnfjmahjlcaaDoorW.PrintLast Go.Proofs.YtkgpnfjmahjlcaaDoorW.PrintMore
attribute [local go_sem] max2_int min2_int max_two min_two max_three min_three max_four min_four   -- for this text's walks alone
set_option linter.unusedVariables false
set_option linter.unusedSimpArgs false

attribute [local go_sem high] eqA53 eqA55 eqA68
/-! ### cambiumref16_Same: function 15 -/
theorem q8cb11 {w : World} {g : Nat} {t : TypeId} {x0 x1 x2 x3 x4 x5 x6 x7 x8 x9 x10 : Value} (h : w.heap[g]? = some (.cells #[x0, x1, x2, x3, x4, x5, x6, x7, x8, x9, x10] t (0, 0))) : w.cell? ⟨g, 0, none⟩ = some x0 ∧ w.cell? ⟨g, 1, none⟩ = some x1 ∧ w.cell? ⟨g, 2, none⟩ = some x2 ∧ w.cell? ⟨g, 3, none⟩ = some x3 ∧ w.cell? ⟨g, 4, none⟩ = some x4 ∧ w.cell? ⟨g, 5, none⟩ = some x5 ∧ w.cell? ⟨g, 6, none⟩ = some x6 ∧ w.cell? ⟨g, 7, none⟩ = some x7 ∧ w.cell? ⟨g, 8, none⟩ = some x8 ∧ w.cell? ⟨g, 9, none⟩ = some x9 ∧ w.cell? ⟨g, 10, none⟩ = some x10 ∧ w.frozen? ⟨g, 0, none⟩ = false ∧ w.frozen? ⟨g, 1, none⟩ = false ∧ w.frozen? ⟨g, 2, none⟩ = false ∧ w.frozen? ⟨g, 3, none⟩ = false ∧ w.frozen? ⟨g, 4, none⟩ = false ∧ w.frozen? ⟨g, 5, none⟩ = false ∧ w.frozen? ⟨g, 6, none⟩ = false ∧ w.frozen? ⟨g, 7, none⟩ = false ∧ w.frozen? ⟨g, 8, none⟩ = false ∧ w.frozen? ⟨g, 9, none⟩ = false ∧ w.frozen? ⟨g, 10, none⟩ = false :=
  ⟨(blk_cell h 0).trans rfl, (blk_cell h 1).trans rfl, (blk_cell h 2).trans rfl, (blk_cell h 3).trans rfl, (blk_cell h 4).trans rfl, (blk_cell h 5).trans rfl, (blk_cell h 6).trans rfl, (blk_cell h 7).trans rfl, (blk_cell h 8).trans rfl, (blk_cell h 9).trans rfl, (blk_cell h 10).trans rfl, blk_frozen h 0, blk_frozen h 1, blk_frozen h 2, blk_frozen h 3, blk_frozen h 4, blk_frozen h 5, blk_frozen h 6, blk_frozen h 7, blk_frozen h 8, blk_frozen h 9, blk_frozen h 10⟩
def q8m (n m : Nat) : Array Bool := ((List.range n).map (Nat.testBit m)).toArray
theorem q8a {α : Type} (xs : List α) (i : Nat) (x : α) : xs.toArray.setIfInBounds i x = (xs.set i x).toArray := List.setIfInBounds_toArray ..
theorem q8b {α : Type} (x y : α) (xs : List α) : (x :: xs).set 0 y = y :: xs := List.set_cons_zero ..
theorem q8c {α : Type} (x y : α) (xs : List α) (n : Nat) : (x :: xs).set (n + 1) y = x :: xs.set n y := List.set_cons_succ ..
theorem q8h {w w' : World} {p : Addr} {v : Value} (h : Below w.heap.size w w') (x : w.cell? p = some v) : w'.cell? p = some v := (h.cell (World.block_lt_of_cell? w _ x)).trans x
theorem q8p {P : Program} {md : Region.Mode} {ops : Array Oper} {Q : Exit → Act → World → Prop} {S : World → Prop} {ds : List Nat} {T : Bool × List (List Nat × List Nat)} {i : Nat} {N : Option Tmp} {oi : Oper} {v : Value} {fuel : Nat} {l : Array Bool} {a : Act} {w : World} (l' : Array Bool) (hT : rtab md ops = T) {a' : Act}
    (h : wpAnyLast P md ops Q S ds fuel l' a' w) (hi : ops[i]? = some oi := by rfl) (hN : oi.dst = N := by rfl) (hc : anyT T l.toList l'.toList i = true := by kernel_rfl) (hQ : ∀ c a w, Q (.panic c) (a.put oi.dst v) w → Q (.panic c) a w := by exact fun _ _ _ h => h)
    (hw : Region.wanted oi (yielded ops a.tmps) = true := by rfl) (hy : ∀ w', (execOp a.eval oi).run P w' = .ok (.value v) w' := by intro w'; go_simp; with_reducible rfl) (ha : a.put N v = a' := by simp only [Act.put, q8a, q8b, q8c, i64_w, i32_w]; rfl) :
    wpAnyLast P md ops Q S ds (fuel + 1) l a w := pure_ l' hi hN (any_of hT hc) hQ (Or.inl ⟨hw, hy⟩) ha h
theorem q8u {P : Program} {md : Region.Mode} {ops : Array Oper} {Q : Exit → Act → World → Prop} {S : World → Prop} {ds : List Nat} {T : Bool × List (List Nat × List Nat)} {i : Nat} {N : Option Tmp} {oi : Oper} {fuel : Nat} {l : Array Bool} {a : Act} {w : World} (l' : Array Bool) (hT : rtab md ops = T) {a' : Act}
    (h : wpAnyLast P md ops Q S ds fuel l' a' w) (hi : ops[i]? = some oi := by rfl) (hN : oi.dst = N := by rfl) (hc : anyT T l.toList l'.toList i = true := by kernel_rfl) (hQ : ∀ c a w, Q (.panic c) (a.put oi.dst undef) w → Q (.panic c) a w := by exact fun _ _ _ h => h)
    (hw : Region.wanted oi (yielded ops a.tmps) = false := by rfl) (ha : a.put N undef = a' := by simp only [Act.put, q8a, q8b, q8c, i64_w, i32_w]; rfl) :
    wpAnyLast P md ops Q S ds (fuel + 1) l a w := pure_ l' hi hN (any_of hT hc) hQ (Or.inr ⟨hw, rfl⟩) ha h
theorem q8k {w : World} {g : Nat} {cs : Array Value} {t : TypeId} (h : w.heap[g]? = some (.cells cs t (0, 0))) (i : Nat) {v : Value} (e : cs[i]? = some v := by rfl) : w.cell? ⟨g, i, none⟩ = some v := (blk_cell h i).trans e
theorem q8y0 {P : Prop} (h : P := by repeat (first | (with_reducible first | exact HB.out | apply below_alloc | apply pw_below_drewN | apply below_drew1 | refine below_set ?_ GE148.out) | exact HB.out)) : P := h
theorem q8y1 {P : Prop} (h : P := by first | (with_reducible assumption) | assumption) : P := h
theorem q8y2 {P : Prop} (h : P := by repeat (first | (with_reducible first | exact HB.out | apply below_alloc | apply pw_below_drewN | apply below_drew1) | exact HB.out)) : P := h
theorem q8y3 {P : Prop} (h : P := by (with_reducible repeat (first | refine blk_drewN ?_ _ | refine blk_drew ?_ | refine blk_alloc ?_ _)); exact BK148.out) : P := h
theorem q8y4 {P : Prop} (h : P := by first | rfl | (simp; done) | (simp [*]; done)) : P := h

mutual
def cambiumref16_Same.j0 : Nat → Bool → Int → Int → Int → ByteArray → ByteArray → Int → Int → Int → List (S53) → List (S55) → List (S68) → Int → Int → Int → ByteArray → ByteArray → Int → Int → Int → List (S53) → List (S55) → List (S68) → Option (Bool)
 | 0, _, _, _, _, _, _, _, _, _, _, _, _, _, _, _, _, _, _, _, _, _, _, _ => none
 | k + 1, x88, x149000, x149001, x149002, x149003, x149004, x149005, x149006, x149007, x149008, x149009, x149010, x150000, x150001, x150002, x150003, x150004, x150005, x150006, x150007, x150008, x150009, x150010 => if x88 = true then (some false) else (cambiumref16_Same.l0 k 0 x149000 x149001 x149002 x149003 x149004 x149005 x149006 x149007 x149008 x149009 x149010 x150000 x150001 x150002 x150003 x150004 x150005 x150006 x150007 x150008 x150009 x150010)
def cambiumref16_Same.l0 : Nat → Int → Int → Int → Int → ByteArray → ByteArray → Int → Int → Int → List (S53) → List (S55) → List (S68) → Int → Int → Int → ByteArray → ByteArray → Int → Int → Int → List (S53) → List (S55) → List (S68) → Option (Bool)
 | 0, _, _, _, _, _, _, _, _, _, _, _, _, _, _, _, _, _, _, _, _, _, _, _ => none
 | k + 1, x5, x149000, x149001, x149002, x149003, x149004, x149005, x149006, x149007, x149008, x149009, x149010, x150000, x150001, x150002, x150003, x150004, x150005, x150006, x150007, x150008, x150009, x150010 => if x5 < (x149008.length : Int) then (if 0 ≤ x5 then (if x5 < (x150008.length : Int) then (if (!((((rd_T53 x149008 x5).f0).toList) == (((rd_T53 x150008 x5).f0).toList)) || ((!(((rd_T53 x149008 x5).f1.f0) == ((rd_T53 x150008 x5).f1.f0)) || (!((((rd_T53 x149008 x5).f1.f1).toList) == (((rd_T53 x150008 x5).f1.f1).toList)) || (!(((rd_T53 x149008 x5).f1.f2) == ((rd_T53 x150008 x5).f1.f2)) || (!(((rd_T53 x149008 x5).f1.f3) == ((rd_T53 x150008 x5).f1.f3)))))))) = true then (some false) else (cambiumref16_Same.l0 k (wrap64 (x5 + 1)) x149000 x149001 x149002 x149003 x149004 x149005 x149006 x149007 x149008 x149009 x149010 x150000 x150001 x150002 x150003 x150004 x150005 x150006 x150007 x150008 x150009 x150010)) else (none)) else (none)) else (cambiumref16_Same.l1 k 0 x149000 x149001 x149002 x149003 x149004 x149005 x149006 x149007 x149008 x149009 x149010 x150000 x150001 x150002 x150003 x150004 x150005 x150006 x150007 x150008 x150009 x150010)
def cambiumref16_Same.l1 : Nat → Int → Int → Int → Int → ByteArray → ByteArray → Int → Int → Int → List (S53) → List (S55) → List (S68) → Int → Int → Int → ByteArray → ByteArray → Int → Int → Int → List (S53) → List (S55) → List (S68) → Option (Bool)
 | 0, _, _, _, _, _, _, _, _, _, _, _, _, _, _, _, _, _, _, _, _, _, _, _ => none
 | k + 1, x6, x149000, x149001, x149002, x149003, x149004, x149005, x149006, x149007, x149008, x149009, x149010, x150000, x150001, x150002, x150003, x150004, x150005, x150006, x150007, x150008, x150009, x150010 => if x6 < (x149009.length : Int) then (if 0 ≤ x6 then (if x6 < (x150009.length : Int) then (if (!(((rd_T55 x149009 x6).f0) == ((rd_T55 x150009 x6).f0)) || (!((((rd_T55 x149009 x6).f1).toList) == (((rd_T55 x150009 x6).f1).toList)))) = true then (some false) else (cambiumref16_Same.l1 k (wrap64 (x6 + 1)) x149000 x149001 x149002 x149003 x149004 x149005 x149006 x149007 x149008 x149009 x149010 x150000 x150001 x150002 x150003 x150004 x150005 x150006 x150007 x150008 x150009 x150010)) else (none)) else (none)) else (cambiumref16_Same.l2 k 0 x149000 x149001 x149002 x149003 x149004 x149005 x149006 x149007 x149008 x149009 x149010 x150000 x150001 x150002 x150003 x150004 x150005 x150006 x150007 x150008 x150009 x150010)
def cambiumref16_Same.l2 : Nat → Int → Int → Int → Int → ByteArray → ByteArray → Int → Int → Int → List (S53) → List (S55) → List (S68) → Int → Int → Int → ByteArray → ByteArray → Int → Int → Int → List (S53) → List (S55) → List (S68) → Option (Bool)
 | 0, _, _, _, _, _, _, _, _, _, _, _, _, _, _, _, _, _, _, _, _, _, _, _ => none
 | k + 1, x7, x149000, x149001, x149002, x149003, x149004, x149005, x149006, x149007, x149008, x149009, x149010, x150000, x150001, x150002, x150003, x150004, x150005, x150006, x150007, x150008, x150009, x150010 => if x7 < (x149010.length : Int) then (if 0 ≤ x7 then (if x7 < (x150010.length : Int) then (if (!(((rd_T68 x149010 x7).f0) == ((rd_T68 x150010 x7).f0)) || (!(((rd_T68 x149010 x7).f1) == ((rd_T68 x150010 x7).f1)))) = true then (some false) else (cambiumref16_Same.l2 k (wrap64 (x7 + 1)) x149000 x149001 x149002 x149003 x149004 x149005 x149006 x149007 x149008 x149009 x149010 x150000 x150001 x150002 x150003 x150004 x150005 x150006 x150007 x150008 x150009 x150010)) else (none)) else (none)) else (some true)
end
def cambiumref16_Same.f (k : Nat) (a0_0 : Int) (a0_1 : Int) (a0_2 : Int) (a0_3 : ByteArray) (a0_4 : ByteArray) (a0_5 : Int) (a0_6 : Int) (a0_7 : Int) (l0_8 : List (S53)) (l0_9 : List (S55)) (l0_10 : List (S68)) (a1_0 : Int) (a1_1 : Int) (a1_2 : Int) (a1_3 : ByteArray) (a1_4 : ByteArray) (a1_5 : Int) (a1_6 : Int) (a1_7 : Int) (l1_8 : List (S53)) (l1_9 : List (S55)) (l1_10 : List (S68)) : Option (Bool) := if a0_0 = a1_0 then (if a0_1 = a1_1 then (if a0_2 = a1_2 then (if a0_3.toList = a1_3.toList then (if a0_4.toList = a1_4.toList then (if a0_5 = a1_5 then (if a0_6 = a1_6 then (if a0_7 = a1_7 then (if (l0_8.length : Int) = (l1_8.length : Int) then (if (l0_9.length : Int) = (l1_9.length : Int) then (cambiumref16_Same.j0 k ((l0_10.length : Int) != (l1_10.length : Int)) a0_0 a0_1 a0_2 a0_3 a0_4 a0_5 a0_6 a0_7 l0_8 l0_9 l0_10 a1_0 a1_1 a1_2 a1_3 a1_4 a1_5 a1_6 a1_7 l1_8 l1_9 l1_10) else (cambiumref16_Same.j0 k true a0_0 a0_1 a0_2 a0_3 a0_4 a0_5 a0_6 a0_7 l0_8 l0_9 l0_10 a1_0 a1_1 a1_2 a1_3 a1_4 a1_5 a1_6 a1_7 l1_8 l1_9 l1_10)) else (cambiumref16_Same.j0 k true a0_0 a0_1 a0_2 a0_3 a0_4 a0_5 a0_6 a0_7 l0_8 l0_9 l0_10 a1_0 a1_1 a1_2 a1_3 a1_4 a1_5 a1_6 a1_7 l1_8 l1_9 l1_10)) else (cambiumref16_Same.j0 k true a0_0 a0_1 a0_2 a0_3 a0_4 a0_5 a0_6 a0_7 l0_8 l0_9 l0_10 a1_0 a1_1 a1_2 a1_3 a1_4 a1_5 a1_6 a1_7 l1_8 l1_9 l1_10)) else (cambiumref16_Same.j0 k true a0_0 a0_1 a0_2 a0_3 a0_4 a0_5 a0_6 a0_7 l0_8 l0_9 l0_10 a1_0 a1_1 a1_2 a1_3 a1_4 a1_5 a1_6 a1_7 l1_8 l1_9 l1_10)) else (cambiumref16_Same.j0 k true a0_0 a0_1 a0_2 a0_3 a0_4 a0_5 a0_6 a0_7 l0_8 l0_9 l0_10 a1_0 a1_1 a1_2 a1_3 a1_4 a1_5 a1_6 a1_7 l1_8 l1_9 l1_10)) else (cambiumref16_Same.j0 k true a0_0 a0_1 a0_2 a0_3 a0_4 a0_5 a0_6 a0_7 l0_8 l0_9 l0_10 a1_0 a1_1 a1_2 a1_3 a1_4 a1_5 a1_6 a1_7 l1_8 l1_9 l1_10)) else (cambiumref16_Same.j0 k true a0_0 a0_1 a0_2 a0_3 a0_4 a0_5 a0_6 a0_7 l0_8 l0_9 l0_10 a1_0 a1_1 a1_2 a1_3 a1_4 a1_5 a1_6 a1_7 l1_8 l1_9 l1_10)) else (cambiumref16_Same.j0 k true a0_0 a0_1 a0_2 a0_3 a0_4 a0_5 a0_6 a0_7 l0_8 l0_9 l0_10 a1_0 a1_1 a1_2 a1_3 a1_4 a1_5 a1_6 a1_7 l1_8 l1_9 l1_10)) else (cambiumref16_Same.j0 k true a0_0 a0_1 a0_2 a0_3 a0_4 a0_5 a0_6 a0_7 l0_8 l0_9 l0_10 a1_0 a1_1 a1_2 a1_3 a1_4 a1_5 a1_6 a1_7 l1_8 l1_9 l1_10)) else (cambiumref16_Same.j0 k true a0_0 a0_1 a0_2 a0_3 a0_4 a0_5 a0_6 a0_7 l0_8 l0_9 l0_10 a1_0 a1_1 a1_2 a1_3 a1_4 a1_5 a1_6 a1_7 l1_8 l1_9 l1_10)
theorem cambiumref16_Same.mono_l : ∀ k, (∀ y0 y1 y2 y3 y4 y5 y6 y7 y8 y9 y10 y11 y12 y13 y14 y15 y16 y17 y18 y19 y20 y21 y22, LeO (cambiumref16_Same.j0 k y0 y1 y2 y3 y4 y5 y6 y7 y8 y9 y10 y11 y12 y13 y14 y15 y16 y17 y18 y19 y20 y21 y22) (cambiumref16_Same.j0 (k + 1) y0 y1 y2 y3 y4 y5 y6 y7 y8 y9 y10 y11 y12 y13 y14 y15 y16 y17 y18 y19 y20 y21 y22)) ∧ (∀ y0 y1 y2 y3 y4 y5 y6 y7 y8 y9 y10 y11 y12 y13 y14 y15 y16 y17 y18 y19 y20 y21 y22, LeO (cambiumref16_Same.l0 k y0 y1 y2 y3 y4 y5 y6 y7 y8 y9 y10 y11 y12 y13 y14 y15 y16 y17 y18 y19 y20 y21 y22) (cambiumref16_Same.l0 (k + 1) y0 y1 y2 y3 y4 y5 y6 y7 y8 y9 y10 y11 y12 y13 y14 y15 y16 y17 y18 y19 y20 y21 y22)) ∧ (∀ y0 y1 y2 y3 y4 y5 y6 y7 y8 y9 y10 y11 y12 y13 y14 y15 y16 y17 y18 y19 y20 y21 y22, LeO (cambiumref16_Same.l1 k y0 y1 y2 y3 y4 y5 y6 y7 y8 y9 y10 y11 y12 y13 y14 y15 y16 y17 y18 y19 y20 y21 y22) (cambiumref16_Same.l1 (k + 1) y0 y1 y2 y3 y4 y5 y6 y7 y8 y9 y10 y11 y12 y13 y14 y15 y16 y17 y18 y19 y20 y21 y22)) ∧ (∀ y0 y1 y2 y3 y4 y5 y6 y7 y8 y9 y10 y11 y12 y13 y14 y15 y16 y17 y18 y19 y20 y21 y22, LeO (cambiumref16_Same.l2 k y0 y1 y2 y3 y4 y5 y6 y7 y8 y9 y10 y11 y12 y13 y14 y15 y16 y17 y18 y19 y20 y21 y22) (cambiumref16_Same.l2 (k + 1) y0 y1 y2 y3 y4 y5 y6 y7 y8 y9 y10 y11 y12 y13 y14 y15 y16 y17 y18 y19 y20 y21 y22))
 | 0 => ⟨fun _ _ _ _ _ _ _ _ _ _ _ _ _ _ _ _ _ _ _ _ _ _ _ r h => by simp [cambiumref16_Same.j0] at h, fun _ _ _ _ _ _ _ _ _ _ _ _ _ _ _ _ _ _ _ _ _ _ _ r h => by simp [cambiumref16_Same.l0] at h, fun _ _ _ _ _ _ _ _ _ _ _ _ _ _ _ _ _ _ _ _ _ _ _ r h => by simp [cambiumref16_Same.l1] at h, fun _ _ _ _ _ _ _ _ _ _ _ _ _ _ _ _ _ _ _ _ _ _ _ r h => by simp [cambiumref16_Same.l2] at h⟩
 | k + 1 => by
  obtain ⟨ih0, ih1, ih2, ih3⟩ := cambiumref16_Same.mono_l k
  refine ⟨?_, ?_, ?_, ?_⟩
  ·intro y0 y1 y2 y3 y4 y5 y6 y7 y8 y9 y10 y11 y12 y13 y14 y15 y16 y17 y18 y19 y20 y21 y22
   unfold cambiumref16_Same.j0
   repeat' first
   | (with_reducible exact ih0 _ _ _ _ _ _ _ _ _ _ _ _ _ _ _ _ _ _ _ _ _ _ _)
   | (with_reducible exact ih1 _ _ _ _ _ _ _ _ _ _ _ _ _ _ _ _ _ _ _ _ _ _ _)
   | (with_reducible exact ih2 _ _ _ _ _ _ _ _ _ _ _ _ _ _ _ _ _ _ _ _ _ _ _)
   | (with_reducible exact ih3 _ _ _ _ _ _ _ _ _ _ _ _ _ _ _ _ _ _ _ _ _ _ _)
   | (with_reducible exact LeO.refl _)
   | (with_reducible exact LeO.none _)
   | (with_reducible refine LeO.ite ?_ ?_)
   | (with_reducible refine LeO.bind ?_ (fun _ => ?_))
   | exact ih0 _ _ _ _ _ _ _ _ _ _ _ _ _ _ _ _ _ _ _ _ _ _ _
   | exact ih1 _ _ _ _ _ _ _ _ _ _ _ _ _ _ _ _ _ _ _ _ _ _ _
   | exact ih2 _ _ _ _ _ _ _ _ _ _ _ _ _ _ _ _ _ _ _ _ _ _ _
   | exact ih3 _ _ _ _ _ _ _ _ _ _ _ _ _ _ _ _ _ _ _ _ _ _ _
   | exact LeO.none _
   | refine LeO.ite ?_ ?_
   | refine LeO.bind ?_ (fun _ => ?_)
  ·intro y0 y1 y2 y3 y4 y5 y6 y7 y8 y9 y10 y11 y12 y13 y14 y15 y16 y17 y18 y19 y20 y21 y22
   unfold cambiumref16_Same.l0
   repeat' first
   | (with_reducible exact ih0 _ _ _ _ _ _ _ _ _ _ _ _ _ _ _ _ _ _ _ _ _ _ _)
   | (with_reducible exact ih1 _ _ _ _ _ _ _ _ _ _ _ _ _ _ _ _ _ _ _ _ _ _ _)
   | (with_reducible exact ih2 _ _ _ _ _ _ _ _ _ _ _ _ _ _ _ _ _ _ _ _ _ _ _)
   | (with_reducible exact ih3 _ _ _ _ _ _ _ _ _ _ _ _ _ _ _ _ _ _ _ _ _ _ _)
   | (with_reducible exact LeO.refl _)
   | (with_reducible exact LeO.none _)
   | (with_reducible refine LeO.ite ?_ ?_)
   | (with_reducible refine LeO.bind ?_ (fun _ => ?_))
   | exact ih0 _ _ _ _ _ _ _ _ _ _ _ _ _ _ _ _ _ _ _ _ _ _ _
   | exact ih1 _ _ _ _ _ _ _ _ _ _ _ _ _ _ _ _ _ _ _ _ _ _ _
   | exact ih2 _ _ _ _ _ _ _ _ _ _ _ _ _ _ _ _ _ _ _ _ _ _ _
   | exact ih3 _ _ _ _ _ _ _ _ _ _ _ _ _ _ _ _ _ _ _ _ _ _ _
   | exact LeO.none _
   | refine LeO.ite ?_ ?_
   | refine LeO.bind ?_ (fun _ => ?_)
  ·intro y0 y1 y2 y3 y4 y5 y6 y7 y8 y9 y10 y11 y12 y13 y14 y15 y16 y17 y18 y19 y20 y21 y22
   unfold cambiumref16_Same.l1
   repeat' first
   | (with_reducible exact ih0 _ _ _ _ _ _ _ _ _ _ _ _ _ _ _ _ _ _ _ _ _ _ _)
   | (with_reducible exact ih1 _ _ _ _ _ _ _ _ _ _ _ _ _ _ _ _ _ _ _ _ _ _ _)
   | (with_reducible exact ih2 _ _ _ _ _ _ _ _ _ _ _ _ _ _ _ _ _ _ _ _ _ _ _)
   | (with_reducible exact ih3 _ _ _ _ _ _ _ _ _ _ _ _ _ _ _ _ _ _ _ _ _ _ _)
   | (with_reducible exact LeO.refl _)
   | (with_reducible exact LeO.none _)
   | (with_reducible refine LeO.ite ?_ ?_)
   | (with_reducible refine LeO.bind ?_ (fun _ => ?_))
   | exact ih0 _ _ _ _ _ _ _ _ _ _ _ _ _ _ _ _ _ _ _ _ _ _ _
   | exact ih1 _ _ _ _ _ _ _ _ _ _ _ _ _ _ _ _ _ _ _ _ _ _ _
   | exact ih2 _ _ _ _ _ _ _ _ _ _ _ _ _ _ _ _ _ _ _ _ _ _ _
   | exact ih3 _ _ _ _ _ _ _ _ _ _ _ _ _ _ _ _ _ _ _ _ _ _ _
   | exact LeO.none _
   | refine LeO.ite ?_ ?_
   | refine LeO.bind ?_ (fun _ => ?_)
  ·intro y0 y1 y2 y3 y4 y5 y6 y7 y8 y9 y10 y11 y12 y13 y14 y15 y16 y17 y18 y19 y20 y21 y22
   unfold cambiumref16_Same.l2
   repeat' first
   | (with_reducible exact ih0 _ _ _ _ _ _ _ _ _ _ _ _ _ _ _ _ _ _ _ _ _ _ _)
   | (with_reducible exact ih1 _ _ _ _ _ _ _ _ _ _ _ _ _ _ _ _ _ _ _ _ _ _ _)
   | (with_reducible exact ih2 _ _ _ _ _ _ _ _ _ _ _ _ _ _ _ _ _ _ _ _ _ _ _)
   | (with_reducible exact ih3 _ _ _ _ _ _ _ _ _ _ _ _ _ _ _ _ _ _ _ _ _ _ _)
   | (with_reducible exact LeO.refl _)
   | (with_reducible exact LeO.none _)
   | (with_reducible refine LeO.ite ?_ ?_)
   | (with_reducible refine LeO.bind ?_ (fun _ => ?_))
   | exact ih0 _ _ _ _ _ _ _ _ _ _ _ _ _ _ _ _ _ _ _ _ _ _ _
   | exact ih1 _ _ _ _ _ _ _ _ _ _ _ _ _ _ _ _ _ _ _ _ _ _ _
   | exact ih2 _ _ _ _ _ _ _ _ _ _ _ _ _ _ _ _ _ _ _ _ _ _ _
   | exact ih3 _ _ _ _ _ _ _ _ _ _ _ _ _ _ _ _ _ _ _ _ _ _ _
   | exact LeO.none _
   | refine LeO.ite ?_ ?_
   | refine LeO.bind ?_ (fun _ => ?_)
theorem cambiumref16_Same.mono : ∀ a0 a1 a2 a3 a4 a5 a6 a7 a8 a9 a10 a11 a12 a13 a14 a15 a16 a17 a18 a19 a20 a21 k, LeO (cambiumref16_Same.f k a0 a1 a2 a3 a4 a5 a6 a7 a8 a9 a10 a11 a12 a13 a14 a15 a16 a17 a18 a19 a20 a21) (cambiumref16_Same.f (k + 1) a0 a1 a2 a3 a4 a5 a6 a7 a8 a9 a10 a11 a12 a13 a14 a15 a16 a17 a18 a19 a20 a21) := by
 intro a0 a1 a2 a3 a4 a5 a6 a7 a8 a9 a10 a11 a12 a13 a14 a15 a16 a17 a18 a19 a20 a21 k
 obtain ⟨ih0, ih1, ih2, ih3⟩ := cambiumref16_Same.mono_l k
 unfold cambiumref16_Same.f
 repeat' first
   | (with_reducible exact ih0 _ _ _ _ _ _ _ _ _ _ _ _ _ _ _ _ _ _ _ _ _ _ _)
   | (with_reducible exact ih1 _ _ _ _ _ _ _ _ _ _ _ _ _ _ _ _ _ _ _ _ _ _ _)
   | (with_reducible exact ih2 _ _ _ _ _ _ _ _ _ _ _ _ _ _ _ _ _ _ _ _ _ _ _)
   | (with_reducible exact ih3 _ _ _ _ _ _ _ _ _ _ _ _ _ _ _ _ _ _ _ _ _ _ _)
   | (with_reducible exact LeO.refl _)
   | (with_reducible exact LeO.none _)
   | (with_reducible refine LeO.ite ?_ ?_)
   | (with_reducible refine LeO.bind ?_ (fun _ => ?_))
   | exact ih0 _ _ _ _ _ _ _ _ _ _ _ _ _ _ _ _ _ _ _ _ _ _ _
   | exact ih1 _ _ _ _ _ _ _ _ _ _ _ _ _ _ _ _ _ _ _ _ _ _ _
   | exact ih2 _ _ _ _ _ _ _ _ _ _ _ _ _ _ _ _ _ _ _ _ _ _ _
   | exact ih3 _ _ _ _ _ _ _ _ _ _ _ _ _ _ _ _ _ _ _ _ _ _ _
   | exact LeO.none _
   | refine LeO.ite ?_ ?_
   | refine LeO.bind ?_ (fun _ => ?_)
set_option maxHeartbeats 8000000 in
set_option maxRecDepth 100000 in
theorem cambiumref16_Same.calls (k : Nat) (a0_0 : Int) (a0_1 : Int) (a0_2 : Int) (a0_3 : ByteArray) (a0_4 : ByteArray) (a0_5 : Int) (a0_6 : Int) (a0_7 : Int) (A0_8 : Option Addr) (c0_8 : Nat) (l0_8 : List (S53)) (A0_9 : Option Addr) (c0_9 : Nat) (l0_9 : List (S55)) (A0_10 : Option Addr) (c0_10 : Nat) (l0_10 : List (S68)) (a1_0 : Int) (a1_1 : Int) (a1_2 : Int) (a1_3 : ByteArray) (a1_4 : ByteArray) (a1_5 : Int) (a1_6 : Int) (a1_7 : Int) (A1_8 : Option Addr) (c1_8 : Nat) (l1_8 : List (S53)) (A1_9 : Option Addr) (c1_9 : Nat) (l1_9 : List (S55)) (A1_10 : Option Addr) (c1_10 : Nat) (l1_10 : List (S68)) (r : Bool) (w : World) (hr0_8 : Kd.C k53 w A0_8 l0_8.length l0_8) (hc0_8 : l0_8.length ≤ c0_8) (hr0_9 : Kd.C k55 w A0_9 l0_9.length l0_9) (hc0_9 : l0_9.length ≤ c0_9) (hr0_10 : Kd.C k68 w A0_10 l0_10.length l0_10) (hc0_10 : l0_10.length ≤ c0_10) (hr1_8 : Kd.C k53 w A1_8 l1_8.length l1_8) (hc1_8 : l1_8.length ≤ c1_8) (hr1_9 : Kd.C k55 w A1_9 l1_9.length l1_9) (hc1_9 : l1_9.length ≤ c1_9) (hr1_10 : Kd.C k68 w A1_10 l1_10.length l1_10) (hc1_10 : l1_10.length ≤ c1_10) (h : cambiumref16_Same.f k a0_0 a0_1 a0_2 a0_3 a0_4 a0_5 a0_6 a0_7 l0_8 l0_9 l0_10 a1_0 a1_1 a1_2 a1_3 a1_4 a1_5 a1_6 a1_7 l1_8 l1_9 l1_10 = some r) :
  Calls Tryd.prog 15 #[.agg #[.int .u64 a0_0, .int .u64 a0_1, .int .u64 a0_2, .string a0_3, .string a0_4, .int .i64 a0_5, .int .i64 a0_6, .int .i64 a0_7, .slice A0_8 l0_8.length c0_8, .slice A0_9 l0_9.length c0_9, .slice A0_10 l0_10.length c0_10], .agg #[.int .u64 a1_0, .int .u64 a1_1, .int .u64 a1_2, .string a1_3, .string a1_4, .int .i64 a1_5, .int .i64 a1_6, .int .i64 a1_7, .slice A1_8 l1_8.length c1_8, .slice A1_9 l1_9.length c1_9, .slice A1_10 l1_10.length c1_10]] w fun e w' => e = .returned (.bool r) ∧ Below w.heap.size w w' := by
 have hu27 := Tryd.underlying27
 have hu53 := Tryd.underlying53
 have hu55 := Tryd.underlying55
 have hu68 := Tryd.underlying68
 have HR0_8 := Aside0.mk hr0_8
 have HC0_8 := Aside0.mk hc0_8
 clear hr0_8 hc0_8
 have HR0_9 := Aside0.mk hr0_9
 have HC0_9 := Aside0.mk hc0_9
 clear hr0_9 hc0_9
 have HR0_10 := Aside0.mk hr0_10
 have HC0_10 := Aside0.mk hc0_10
 clear hr0_10 hc0_10
 have HR1_8 := Aside0.mk hr1_8
 have HC1_8 := Aside0.mk hc1_8
 clear hr1_8 hc1_8
 have HR1_9 := Aside0.mk hr1_9
 have HC1_9 := Aside0.mk hc1_9
 clear hr1_9 hc1_9
 have HR1_10 := Aside0.mk hr1_10
 have HC1_10 := Aside0.mk hc1_10
 clear hr1_10 hc1_10
 have HB := Aside0.mk (Below.refl w.heap.size w)
 have H : (if a0_0 = a1_0 then (if a0_1 = a1_1 then (if a0_2 = a1_2 then (if a0_3.toList = a1_3.toList then (if a0_4.toList = a1_4.toList then (if a0_5 = a1_5 then (if a0_6 = a1_6 then (if a0_7 = a1_7 then (if (l0_8.length : Int) = (l1_8.length : Int) then (if (l0_9.length : Int) = (l1_9.length : Int) then (cambiumref16_Same.j0 k ((l0_10.length : Int) != (l1_10.length : Int)) a0_0 a0_1 a0_2 a0_3 a0_4 a0_5 a0_6 a0_7 l0_8 l0_9 l0_10 a1_0 a1_1 a1_2 a1_3 a1_4 a1_5 a1_6 a1_7 l1_8 l1_9 l1_10) else (cambiumref16_Same.j0 k true a0_0 a0_1 a0_2 a0_3 a0_4 a0_5 a0_6 a0_7 l0_8 l0_9 l0_10 a1_0 a1_1 a1_2 a1_3 a1_4 a1_5 a1_6 a1_7 l1_8 l1_9 l1_10)) else (cambiumref16_Same.j0 k true a0_0 a0_1 a0_2 a0_3 a0_4 a0_5 a0_6 a0_7 l0_8 l0_9 l0_10 a1_0 a1_1 a1_2 a1_3 a1_4 a1_5 a1_6 a1_7 l1_8 l1_9 l1_10)) else (cambiumref16_Same.j0 k true a0_0 a0_1 a0_2 a0_3 a0_4 a0_5 a0_6 a0_7 l0_8 l0_9 l0_10 a1_0 a1_1 a1_2 a1_3 a1_4 a1_5 a1_6 a1_7 l1_8 l1_9 l1_10)) else (cambiumref16_Same.j0 k true a0_0 a0_1 a0_2 a0_3 a0_4 a0_5 a0_6 a0_7 l0_8 l0_9 l0_10 a1_0 a1_1 a1_2 a1_3 a1_4 a1_5 a1_6 a1_7 l1_8 l1_9 l1_10)) else (cambiumref16_Same.j0 k true a0_0 a0_1 a0_2 a0_3 a0_4 a0_5 a0_6 a0_7 l0_8 l0_9 l0_10 a1_0 a1_1 a1_2 a1_3 a1_4 a1_5 a1_6 a1_7 l1_8 l1_9 l1_10)) else (cambiumref16_Same.j0 k true a0_0 a0_1 a0_2 a0_3 a0_4 a0_5 a0_6 a0_7 l0_8 l0_9 l0_10 a1_0 a1_1 a1_2 a1_3 a1_4 a1_5 a1_6 a1_7 l1_8 l1_9 l1_10)) else (cambiumref16_Same.j0 k true a0_0 a0_1 a0_2 a0_3 a0_4 a0_5 a0_6 a0_7 l0_8 l0_9 l0_10 a1_0 a1_1 a1_2 a1_3 a1_4 a1_5 a1_6 a1_7 l1_8 l1_9 l1_10)) else (cambiumref16_Same.j0 k true a0_0 a0_1 a0_2 a0_3 a0_4 a0_5 a0_6 a0_7 l0_8 l0_9 l0_10 a1_0 a1_1 a1_2 a1_3 a1_4 a1_5 a1_6 a1_7 l1_8 l1_9 l1_10)) else (cambiumref16_Same.j0 k true a0_0 a0_1 a0_2 a0_3 a0_4 a0_5 a0_6 a0_7 l0_8 l0_9 l0_10 a1_0 a1_1 a1_2 a1_3 a1_4 a1_5 a1_6 a1_7 l1_8 l1_9 l1_10)) else (cambiumref16_Same.j0 k true a0_0 a0_1 a0_2 a0_3 a0_4 a0_5 a0_6 a0_7 l0_8 l0_9 l0_10 a1_0 a1_1 a1_2 a1_3 a1_4 a1_5 a1_6 a1_7 l1_8 l1_9 l1_10)) = some r := h
 clear h
 have HC3 := Aside0.mk H
 clear H
 go_enter Tryd.func15, Tryd.ntmps15
 go_upto_region 1 with (first | ((with_reducible refine gate_dst (N := 2) rfl ?_); (try (refine gate_guard (by rfl) ?_; dsimp only)); refine box_event ?hg (N := 2) ?hd (cs := #[.int .u64 a0_0, .int .u64 a0_1, .int .u64 a0_2, .string a0_3, .string a0_4, .int .i64 a0_5, .int .i64 a0_6, .int .i64 a0_7, .slice A0_8 l0_8.length c0_8, .slice A0_9 l0_9.length c0_9, .slice A0_10 l0_10.length c0_10]) (t := 27) ?hr ?_; (case hd => rfl); (case hg => rfl); (case hr => first | (go_simp; done) | (go_simp; rfl)); intro gb148 hg w4 hbox hb; have BK148 := Aside0.mk (hbox); have GW148 := Aside0.mk ((by rw [hg]; exact (below_size q8y2) : w.heap.size ≤ gb148)); have GE148 := GW148; replace HB := Aside0.mk (below_step q8y2 hb); clear hb hbox hg) | ((with_reducible refine gate_dst (N := 3) rfl ?_); (try (refine gate_guard (by rfl) ?_; dsimp only)); refine box_event ?hg (N := 3) ?hd (cs := #[.int .u64 a1_0, .int .u64 a1_1, .int .u64 a1_2, .string a1_3, .string a1_4, .int .i64 a1_5, .int .i64 a1_6, .int .i64 a1_7, .slice A1_8 l1_8.length c1_8, .slice A1_9 l1_9.length c1_9, .slice A1_10 l1_10.length c1_10]) (t := 27) ?hr ?_; (case hd => rfl); (case hg => rfl); (case hr => first | (go_simp; done) | (go_simp; rfl)); intro gb149 hg w5 hbox hb; have BK149 := Aside0.mk (hbox); have GW149 := Aside0.mk ((by rw [hg]; exact (below_size q8y0) : w.heap.size ≤ gb149)); have GE149 := GW149; have NB148_149 := Aside0.mk ((by rw [hg]; exact Nat.ne_of_lt (blk_lt q8y3) : gb148 ≠ gb149)); have NB149_148 := Aside0.mk ((by rw [hg]; exact Nat.ne_of_gt (blk_lt q8y3) : gb149 ≠ gb148)); replace BK148 := Aside0.mk (blk_below q8y3 hb); replace HB := Aside0.mk (below_step q8y0 hb); clear hb hbox hg))
 repeat (go_quiet (first | ((with_reducible refine gate_dst (N := 2) rfl ?_); (try (refine gate_guard (by rfl) ?_; dsimp only)); refine box_event ?hg (N := 2) ?hd (cs := #[.int .u64 a0_0, .int .u64 a0_1, .int .u64 a0_2, .string a0_3, .string a0_4, .int .i64 a0_5, .int .i64 a0_6, .int .i64 a0_7, .slice A0_8 l0_8.length c0_8, .slice A0_9 l0_9.length c0_9, .slice A0_10 l0_10.length c0_10]) (t := 27) ?hr ?_; (case hd => rfl); (case hg => rfl); (case hr => first | (go_simp; done) | (go_simp; rfl)); intro gb148 hg w4 hbox hb; have BK148 := Aside0.mk (hbox); have GW148 := Aside0.mk ((by rw [hg]; exact (below_size q8y2) : w.heap.size ≤ gb148)); have GE148 := GW148; replace HB := Aside0.mk (below_step q8y2 hb); clear hb hbox hg) | ((with_reducible refine gate_dst (N := 3) rfl ?_); (try (refine gate_guard (by rfl) ?_; dsimp only)); refine box_event ?hg (N := 3) ?hd (cs := #[.int .u64 a1_0, .int .u64 a1_1, .int .u64 a1_2, .string a1_3, .string a1_4, .int .i64 a1_5, .int .i64 a1_6, .int .i64 a1_7, .slice A1_8 l1_8.length c1_8, .slice A1_9 l1_9.length c1_9, .slice A1_10 l1_10.length c1_10]) (t := 27) ?hr ?_; (case hd => rfl); (case hg => rfl); (case hr => first | (go_simp; done) | (go_simp; rfl)); intro gb149 hg w5 hbox hb; have BK149 := Aside0.mk (hbox); have GW149 := Aside0.mk ((by rw [hg]; exact (below_size q8y0) : w.heap.size ≤ gb149)); have GE149 := GW149; have NB148_149 := Aside0.mk ((by rw [hg]; exact Nat.ne_of_lt (blk_lt q8y3) : gb148 ≠ gb149)); have NB149_148 := Aside0.mk ((by rw [hg]; exact Nat.ne_of_gt (blk_lt q8y3) : gb149 ≠ gb148)); replace BK148 := Aside0.mk (blk_below q8y3 hb); replace HB := Aside0.mk (below_step q8y0 hb); clear hb hbox hg)); go_upto_region 1 with (first | ((with_reducible refine gate_dst (N := 2) rfl ?_); (try (refine gate_guard (by rfl) ?_; dsimp only)); refine box_event ?hg (N := 2) ?hd (cs := #[.int .u64 a0_0, .int .u64 a0_1, .int .u64 a0_2, .string a0_3, .string a0_4, .int .i64 a0_5, .int .i64 a0_6, .int .i64 a0_7, .slice A0_8 l0_8.length c0_8, .slice A0_9 l0_9.length c0_9, .slice A0_10 l0_10.length c0_10]) (t := 27) ?hr ?_; (case hd => rfl); (case hg => rfl); (case hr => first | (go_simp; done) | (go_simp; rfl)); intro gb148 hg w4 hbox hb; have BK148 := Aside0.mk (hbox); have GW148 := Aside0.mk ((by rw [hg]; exact (below_size q8y2) : w.heap.size ≤ gb148)); have GE148 := GW148; replace HB := Aside0.mk (below_step q8y2 hb); clear hb hbox hg) | ((with_reducible refine gate_dst (N := 3) rfl ?_); (try (refine gate_guard (by rfl) ?_; dsimp only)); refine box_event ?hg (N := 3) ?hd (cs := #[.int .u64 a1_0, .int .u64 a1_1, .int .u64 a1_2, .string a1_3, .string a1_4, .int .i64 a1_5, .int .i64 a1_6, .int .i64 a1_7, .slice A1_8 l1_8.length c1_8, .slice A1_9 l1_9.length c1_9, .slice A1_10 l1_10.length c1_10]) (t := 27) ?hr ?_; (case hd => rfl); (case hg => rfl); (case hr => first | (go_simp; done) | (go_simp; rfl)); intro gb149 hg w5 hbox hb; have BK149 := Aside0.mk (hbox); have GW149 := Aside0.mk ((by rw [hg]; exact (below_size q8y0) : w.heap.size ≤ gb149)); have GE149 := GW149; have NB148_149 := Aside0.mk ((by rw [hg]; exact Nat.ne_of_lt (blk_lt q8y3) : gb148 ≠ gb149)); have NB149_148 := Aside0.mk ((by rw [hg]; exact Nat.ne_of_gt (blk_lt q8y3) : gb149 ≠ gb148)); replace BK148 := Aside0.mk (blk_below q8y3 hb); replace HB := Aside0.mk (below_step q8y0 hb); clear hb hbox hg)))
 (try simp only [Act.put, q8a, q8b, q8c])
 go_cut [88] (fun v88 wc => ∃ (kq : Nat) (x88_2 : Bool), v88 = .bool x88_2 ∧ Aside0 (cambiumref16_Same.j0 kq x88_2 a0_0 a0_1 a0_2 a0_3 a0_4 a0_5 a0_6 a0_7 l0_8 l0_9 l0_10 a1_0 a1_1 a1_2 a1_3 a1_4 a1_5 a1_6 a1_7 l1_8 l1_9 l1_10 = some r) ∧ Aside0 (kq ≤ k) ∧ Aside0 (wc.heap[gb148]? = some (.cells #[.int .u64 a0_0, .int .u64 a0_1, .int .u64 a0_2, .string a0_3, .string a0_4, .int .i64 a0_5, .int .i64 a0_6, .int .i64 a0_7, (.slice A0_8 l0_8.length c0_8), (.slice A0_9 l0_9.length c0_9), (.slice A0_10 l0_10.length c0_10)] 27 (0, 0))) ∧ Aside0 (wc.heap[gb149]? = some (.cells #[.int .u64 a1_0, .int .u64 a1_1, .int .u64 a1_2, .string a1_3, .string a1_4, .int .i64 a1_5, .int .i64 a1_6, .int .i64 a1_7, (.slice A1_8 l1_8.length c1_8), (.slice A1_9 l1_9.length c1_9), (.slice A1_10 l1_10.length c1_10)] 27 (0, 0))) ∧ Aside0 (Below w.heap.size w wc))
 case first =>
  have H := HC3.out
  clear HC3
  by_cases c6 : a0_0 = a1_0
  rotate_left
  ·rw [if_neg c6] at H
   have c6b0 : (a0_0 == a1_0) = false := beq_eq_false_iff_ne.mpr c6
   have c6b1 : (a0_0 != a1_0) = true := bne_iff_ne.mpr c6
   (first | rw [c6b0] | (simp only [i64_w, i32_w]; rw [c6b0]) | skip)
   have H' := Aside0.mk H
   clear H
   have hnb46 := NB148_149.out
   have hnc46 := NB149_148.out
   obtain ⟨hcz47_0, hcz47_1, hcz47_2, hcz47_3, hcz47_4, hcz47_5, hcz47_6, hcz47_7, hcz47_8, hcz47_9, hcz47_10, hfz47_0, hfz47_1, hfz47_2, hfz47_3, hfz47_4, hfz47_5, hfz47_6, hfz47_7, hfz47_8, hfz47_9, hfz47_10⟩ := q8cb11 BK148.out
   obtain ⟨hcz48_0, hcz48_1, hcz48_2, hcz48_3, hcz48_4, hcz48_5, hcz48_6, hcz48_7, hcz48_8, hcz48_9, hcz48_10, hfz48_0, hfz48_1, hfz48_2, hfz48_3, hfz48_4, hfz48_5, hfz48_6, hfz48_7, hfz48_8, hfz48_9, hfz48_10⟩ := q8cb11 BK149.out
   go_wp2
   repeat (go_quiet (fail); try go_wp2)
   go_meet
   case rel => exact ⟨_, (true), q8y4, H', ⟨by first | omega | exact Nat.le_refl _⟩, ⟨by (with_reducible repeat (first | refine blk_drewN ?_ _ | refine blk_drew ?_ | refine blk_alloc ?_ _)); exact BK148.out⟩, ⟨by (with_reducible repeat (first | refine blk_drewN ?_ _ | refine blk_drew ?_ | refine blk_alloc ?_ _)); exact BK149.out⟩, ⟨by repeat (first | (with_reducible first | exact HB.out | apply below_alloc | apply pw_below_drewN | apply below_drew1 | refine below_set ?_ GE148.out | refine below_set ?_ GE149.out) | exact HB.out)⟩⟩
  rw [if_pos c6] at H
  have c6b0 : (a0_0 == a1_0) = true := beq_iff_eq.mpr c6
  have c6b1 : (a0_0 != a1_0) = false := bne_eq_false_iff_eq.mpr c6
  clear c6
  (first | rw [c6b0] | (simp only [i64_w, i32_w]; rw [c6b0]) | skip)
  by_cases c7 : a0_1 = a1_1
  rotate_left
  ·rw [if_neg c7] at H
   have c7b0 : (a0_1 == a1_1) = false := beq_eq_false_iff_ne.mpr c7
   have c7b1 : (a0_1 != a1_1) = true := bne_iff_ne.mpr c7
   have H' := Aside0.mk H
   clear H
   have hnb43 := NB148_149.out
   have hnc43 := NB149_148.out
   obtain ⟨hcz44_0, hcz44_1, hcz44_2, hcz44_3, hcz44_4, hcz44_5, hcz44_6, hcz44_7, hcz44_8, hcz44_9, hcz44_10, hfz44_0, hfz44_1, hfz44_2, hfz44_3, hfz44_4, hfz44_5, hfz44_6, hfz44_7, hfz44_8, hfz44_9, hfz44_10⟩ := q8cb11 BK148.out
   obtain ⟨hcz45_0, hcz45_1, hcz45_2, hcz45_3, hcz45_4, hcz45_5, hcz45_6, hcz45_7, hcz45_8, hcz45_9, hcz45_10, hfz45_0, hfz45_1, hfz45_2, hfz45_3, hfz45_4, hfz45_5, hfz45_6, hfz45_7, hfz45_8, hfz45_9, hfz45_10⟩ := q8cb11 BK149.out
   go_wp2
   repeat (go_quiet (fail); try go_wp2)
   go_meet
   case rel => exact ⟨_, (true), q8y4, H', ⟨by first | omega | exact Nat.le_refl _⟩, ⟨by (with_reducible repeat (first | refine blk_drewN ?_ _ | refine blk_drew ?_ | refine blk_alloc ?_ _)); exact BK148.out⟩, ⟨by (with_reducible repeat (first | refine blk_drewN ?_ _ | refine blk_drew ?_ | refine blk_alloc ?_ _)); exact BK149.out⟩, ⟨by repeat (first | (with_reducible first | exact HB.out | apply below_alloc | apply pw_below_drewN | apply below_drew1 | refine below_set ?_ GE148.out | refine below_set ?_ GE149.out) | exact HB.out)⟩⟩
  rw [if_pos c7] at H
  have c7b0 : (a0_1 == a1_1) = true := beq_iff_eq.mpr c7
  have c7b1 : (a0_1 != a1_1) = false := bne_eq_false_iff_eq.mpr c7
  clear c7
  by_cases c8 : a0_2 = a1_2
  rotate_left
  ·rw [if_neg c8] at H
   have c8b0 : (a0_2 == a1_2) = false := beq_eq_false_iff_ne.mpr c8
   have c8b1 : (a0_2 != a1_2) = true := bne_iff_ne.mpr c8
   have H' := Aside0.mk H
   clear H
   have hnb40 := NB148_149.out
   have hnc40 := NB149_148.out
   obtain ⟨hcz41_0, hcz41_1, hcz41_2, hcz41_3, hcz41_4, hcz41_5, hcz41_6, hcz41_7, hcz41_8, hcz41_9, hcz41_10, hfz41_0, hfz41_1, hfz41_2, hfz41_3, hfz41_4, hfz41_5, hfz41_6, hfz41_7, hfz41_8, hfz41_9, hfz41_10⟩ := q8cb11 BK148.out
   obtain ⟨hcz42_0, hcz42_1, hcz42_2, hcz42_3, hcz42_4, hcz42_5, hcz42_6, hcz42_7, hcz42_8, hcz42_9, hcz42_10, hfz42_0, hfz42_1, hfz42_2, hfz42_3, hfz42_4, hfz42_5, hfz42_6, hfz42_7, hfz42_8, hfz42_9, hfz42_10⟩ := q8cb11 BK149.out
   go_wp2
   repeat (go_quiet (fail); try go_wp2)
   go_meet
   case rel => exact ⟨_, (true), q8y4, H', ⟨by first | omega | exact Nat.le_refl _⟩, ⟨by (with_reducible repeat (first | refine blk_drewN ?_ _ | refine blk_drew ?_ | refine blk_alloc ?_ _)); exact BK148.out⟩, ⟨by (with_reducible repeat (first | refine blk_drewN ?_ _ | refine blk_drew ?_ | refine blk_alloc ?_ _)); exact BK149.out⟩, ⟨by repeat (first | (with_reducible first | exact HB.out | apply below_alloc | apply pw_below_drewN | apply below_drew1 | refine below_set ?_ GE148.out | refine below_set ?_ GE149.out) | exact HB.out)⟩⟩
  rw [if_pos c8] at H
  have c8b0 : (a0_2 == a1_2) = true := beq_iff_eq.mpr c8
  have c8b1 : (a0_2 != a1_2) = false := bne_eq_false_iff_eq.mpr c8
  clear c8
  by_cases c9 : a0_3.toList = a1_3.toList
  rotate_left
  ·rw [if_neg c9] at H
   have c9b0 : (a0_3.toList == a1_3.toList) = false := beq_eq_false_iff_ne.mpr c9
   have c9b1 : (a0_3.toList != a1_3.toList) = true := bne_iff_ne.mpr c9
   have H' := Aside0.mk H
   clear H
   have hnb37 := NB148_149.out
   have hnc37 := NB149_148.out
   obtain ⟨hcz38_0, hcz38_1, hcz38_2, hcz38_3, hcz38_4, hcz38_5, hcz38_6, hcz38_7, hcz38_8, hcz38_9, hcz38_10, hfz38_0, hfz38_1, hfz38_2, hfz38_3, hfz38_4, hfz38_5, hfz38_6, hfz38_7, hfz38_8, hfz38_9, hfz38_10⟩ := q8cb11 BK148.out
   obtain ⟨hcz39_0, hcz39_1, hcz39_2, hcz39_3, hcz39_4, hcz39_5, hcz39_6, hcz39_7, hcz39_8, hcz39_9, hcz39_10, hfz39_0, hfz39_1, hfz39_2, hfz39_3, hfz39_4, hfz39_5, hfz39_6, hfz39_7, hfz39_8, hfz39_9, hfz39_10⟩ := q8cb11 BK149.out
   go_wp2
   repeat (go_quiet (fail); try go_wp2)
   go_meet
   case rel => exact ⟨_, (true), q8y4, H', ⟨by first | omega | exact Nat.le_refl _⟩, ⟨by (with_reducible repeat (first | refine blk_drewN ?_ _ | refine blk_drew ?_ | refine blk_alloc ?_ _)); exact BK148.out⟩, ⟨by (with_reducible repeat (first | refine blk_drewN ?_ _ | refine blk_drew ?_ | refine blk_alloc ?_ _)); exact BK149.out⟩, ⟨by repeat (first | (with_reducible first | exact HB.out | apply below_alloc | apply pw_below_drewN | apply below_drew1 | refine below_set ?_ GE148.out | refine below_set ?_ GE149.out) | exact HB.out)⟩⟩
  rw [if_pos c9] at H
  have c9b0 : (a0_3.toList == a1_3.toList) = true := beq_iff_eq.mpr c9
  have c9b1 : (a0_3.toList != a1_3.toList) = false := bne_eq_false_iff_eq.mpr c9
  clear c9
  by_cases c10 : a0_4.toList = a1_4.toList
  rotate_left
  ·rw [if_neg c10] at H
   have c10b0 : (a0_4.toList == a1_4.toList) = false := beq_eq_false_iff_ne.mpr c10
   have c10b1 : (a0_4.toList != a1_4.toList) = true := bne_iff_ne.mpr c10
   have H' := Aside0.mk H
   clear H
   have hnb34 := NB148_149.out
   have hnc34 := NB149_148.out
   obtain ⟨hcz35_0, hcz35_1, hcz35_2, hcz35_3, hcz35_4, hcz35_5, hcz35_6, hcz35_7, hcz35_8, hcz35_9, hcz35_10, hfz35_0, hfz35_1, hfz35_2, hfz35_3, hfz35_4, hfz35_5, hfz35_6, hfz35_7, hfz35_8, hfz35_9, hfz35_10⟩ := q8cb11 BK148.out
   obtain ⟨hcz36_0, hcz36_1, hcz36_2, hcz36_3, hcz36_4, hcz36_5, hcz36_6, hcz36_7, hcz36_8, hcz36_9, hcz36_10, hfz36_0, hfz36_1, hfz36_2, hfz36_3, hfz36_4, hfz36_5, hfz36_6, hfz36_7, hfz36_8, hfz36_9, hfz36_10⟩ := q8cb11 BK149.out
   go_wp2
   repeat (go_quiet (fail); try go_wp2)
   go_meet
   case rel => exact ⟨_, (true), q8y4, H', ⟨by first | omega | exact Nat.le_refl _⟩, ⟨by (with_reducible repeat (first | refine blk_drewN ?_ _ | refine blk_drew ?_ | refine blk_alloc ?_ _)); exact BK148.out⟩, ⟨by (with_reducible repeat (first | refine blk_drewN ?_ _ | refine blk_drew ?_ | refine blk_alloc ?_ _)); exact BK149.out⟩, ⟨by repeat (first | (with_reducible first | exact HB.out | apply below_alloc | apply pw_below_drewN | apply below_drew1 | refine below_set ?_ GE148.out | refine below_set ?_ GE149.out) | exact HB.out)⟩⟩
  rw [if_pos c10] at H
  have c10b0 : (a0_4.toList == a1_4.toList) = true := beq_iff_eq.mpr c10
  have c10b1 : (a0_4.toList != a1_4.toList) = false := bne_eq_false_iff_eq.mpr c10
  clear c10
  by_cases c11 : a0_5 = a1_5
  rotate_left
  ·rw [if_neg c11] at H
   have c11b0 : (a0_5 == a1_5) = false := beq_eq_false_iff_ne.mpr c11
   have c11b1 : (a0_5 != a1_5) = true := bne_iff_ne.mpr c11
   have H' := Aside0.mk H
   clear H
   have hnb31 := NB148_149.out
   have hnc31 := NB149_148.out
   obtain ⟨hcz32_0, hcz32_1, hcz32_2, hcz32_3, hcz32_4, hcz32_5, hcz32_6, hcz32_7, hcz32_8, hcz32_9, hcz32_10, hfz32_0, hfz32_1, hfz32_2, hfz32_3, hfz32_4, hfz32_5, hfz32_6, hfz32_7, hfz32_8, hfz32_9, hfz32_10⟩ := q8cb11 BK148.out
   obtain ⟨hcz33_0, hcz33_1, hcz33_2, hcz33_3, hcz33_4, hcz33_5, hcz33_6, hcz33_7, hcz33_8, hcz33_9, hcz33_10, hfz33_0, hfz33_1, hfz33_2, hfz33_3, hfz33_4, hfz33_5, hfz33_6, hfz33_7, hfz33_8, hfz33_9, hfz33_10⟩ := q8cb11 BK149.out
   go_wp2
   repeat (go_quiet (fail); try go_wp2)
   go_meet
   case rel => exact ⟨_, (true), q8y4, H', ⟨by first | omega | exact Nat.le_refl _⟩, ⟨by (with_reducible repeat (first | refine blk_drewN ?_ _ | refine blk_drew ?_ | refine blk_alloc ?_ _)); exact BK148.out⟩, ⟨by (with_reducible repeat (first | refine blk_drewN ?_ _ | refine blk_drew ?_ | refine blk_alloc ?_ _)); exact BK149.out⟩, ⟨by repeat (first | (with_reducible first | exact HB.out | apply below_alloc | apply pw_below_drewN | apply below_drew1 | refine below_set ?_ GE148.out | refine below_set ?_ GE149.out) | exact HB.out)⟩⟩
  rw [if_pos c11] at H
  have c11b0 : (a0_5 == a1_5) = true := beq_iff_eq.mpr c11
  have c11b1 : (a0_5 != a1_5) = false := bne_eq_false_iff_eq.mpr c11
  clear c11
  by_cases c12 : a0_6 = a1_6
  rotate_left
  ·rw [if_neg c12] at H
   have c12b0 : (a0_6 == a1_6) = false := beq_eq_false_iff_ne.mpr c12
   have c12b1 : (a0_6 != a1_6) = true := bne_iff_ne.mpr c12
   have H' := Aside0.mk H
   clear H
   have hnb28 := NB148_149.out
   have hnc28 := NB149_148.out
   obtain ⟨hcz29_0, hcz29_1, hcz29_2, hcz29_3, hcz29_4, hcz29_5, hcz29_6, hcz29_7, hcz29_8, hcz29_9, hcz29_10, hfz29_0, hfz29_1, hfz29_2, hfz29_3, hfz29_4, hfz29_5, hfz29_6, hfz29_7, hfz29_8, hfz29_9, hfz29_10⟩ := q8cb11 BK148.out
   obtain ⟨hcz30_0, hcz30_1, hcz30_2, hcz30_3, hcz30_4, hcz30_5, hcz30_6, hcz30_7, hcz30_8, hcz30_9, hcz30_10, hfz30_0, hfz30_1, hfz30_2, hfz30_3, hfz30_4, hfz30_5, hfz30_6, hfz30_7, hfz30_8, hfz30_9, hfz30_10⟩ := q8cb11 BK149.out
   go_wp2
   repeat (go_quiet (fail); try go_wp2)
   go_meet
   case rel => exact ⟨_, (true), q8y4, H', ⟨by first | omega | exact Nat.le_refl _⟩, ⟨by (with_reducible repeat (first | refine blk_drewN ?_ _ | refine blk_drew ?_ | refine blk_alloc ?_ _)); exact BK148.out⟩, ⟨by (with_reducible repeat (first | refine blk_drewN ?_ _ | refine blk_drew ?_ | refine blk_alloc ?_ _)); exact BK149.out⟩, ⟨by repeat (first | (with_reducible first | exact HB.out | apply below_alloc | apply pw_below_drewN | apply below_drew1 | refine below_set ?_ GE148.out | refine below_set ?_ GE149.out) | exact HB.out)⟩⟩
  rw [if_pos c12] at H
  have c12b0 : (a0_6 == a1_6) = true := beq_iff_eq.mpr c12
  have c12b1 : (a0_6 != a1_6) = false := bne_eq_false_iff_eq.mpr c12
  clear c12
  by_cases c13 : a0_7 = a1_7
  rotate_left
  ·rw [if_neg c13] at H
   have c13b0 : (a0_7 == a1_7) = false := beq_eq_false_iff_ne.mpr c13
   have c13b1 : (a0_7 != a1_7) = true := bne_iff_ne.mpr c13
   have H' := Aside0.mk H
   clear H
   have hnb25 := NB148_149.out
   have hnc25 := NB149_148.out
   obtain ⟨hcz26_0, hcz26_1, hcz26_2, hcz26_3, hcz26_4, hcz26_5, hcz26_6, hcz26_7, hcz26_8, hcz26_9, hcz26_10, hfz26_0, hfz26_1, hfz26_2, hfz26_3, hfz26_4, hfz26_5, hfz26_6, hfz26_7, hfz26_8, hfz26_9, hfz26_10⟩ := q8cb11 BK148.out
   obtain ⟨hcz27_0, hcz27_1, hcz27_2, hcz27_3, hcz27_4, hcz27_5, hcz27_6, hcz27_7, hcz27_8, hcz27_9, hcz27_10, hfz27_0, hfz27_1, hfz27_2, hfz27_3, hfz27_4, hfz27_5, hfz27_6, hfz27_7, hfz27_8, hfz27_9, hfz27_10⟩ := q8cb11 BK149.out
   go_wp2
   repeat (go_quiet (fail); try go_wp2)
   go_meet
   case rel => exact ⟨_, (true), q8y4, H', ⟨by first | omega | exact Nat.le_refl _⟩, ⟨by (with_reducible repeat (first | refine blk_drewN ?_ _ | refine blk_drew ?_ | refine blk_alloc ?_ _)); exact BK148.out⟩, ⟨by (with_reducible repeat (first | refine blk_drewN ?_ _ | refine blk_drew ?_ | refine blk_alloc ?_ _)); exact BK149.out⟩, ⟨by repeat (first | (with_reducible first | exact HB.out | apply below_alloc | apply pw_below_drewN | apply below_drew1 | refine below_set ?_ GE148.out | refine below_set ?_ GE149.out) | exact HB.out)⟩⟩
  rw [if_pos c13] at H
  have c13b0 : (a0_7 == a1_7) = true := beq_iff_eq.mpr c13
  have c13b1 : (a0_7 != a1_7) = false := bne_eq_false_iff_eq.mpr c13
  clear c13
  by_cases c14 : (l0_8.length : Int) = (l1_8.length : Int)
  rotate_left
  ·rw [if_neg c14] at H
   have c14b0 : ((l0_8.length : Int) == (l1_8.length : Int)) = false := beq_eq_false_iff_ne.mpr c14
   have c14b1 : ((l0_8.length : Int) != (l1_8.length : Int)) = true := bne_iff_ne.mpr c14
   have c14b2 : (l0_8.length == l1_8.length) = false := by first | simpa using c14 | (simp at c14 ⊢; omega)
   have H' := Aside0.mk H
   clear H
   have hnb22 := NB148_149.out
   have hnc22 := NB149_148.out
   obtain ⟨hcz23_0, hcz23_1, hcz23_2, hcz23_3, hcz23_4, hcz23_5, hcz23_6, hcz23_7, hcz23_8, hcz23_9, hcz23_10, hfz23_0, hfz23_1, hfz23_2, hfz23_3, hfz23_4, hfz23_5, hfz23_6, hfz23_7, hfz23_8, hfz23_9, hfz23_10⟩ := q8cb11 BK148.out
   obtain ⟨hcz24_0, hcz24_1, hcz24_2, hcz24_3, hcz24_4, hcz24_5, hcz24_6, hcz24_7, hcz24_8, hcz24_9, hcz24_10, hfz24_0, hfz24_1, hfz24_2, hfz24_3, hfz24_4, hfz24_5, hfz24_6, hfz24_7, hfz24_8, hfz24_9, hfz24_10⟩ := q8cb11 BK149.out
   go_wp2
   repeat (go_quiet (fail); try go_wp2)
   go_meet
   case rel => exact ⟨_, (true), q8y4, H', ⟨by first | omega | exact Nat.le_refl _⟩, ⟨by (with_reducible repeat (first | refine blk_drewN ?_ _ | refine blk_drew ?_ | refine blk_alloc ?_ _)); exact BK148.out⟩, ⟨by (with_reducible repeat (first | refine blk_drewN ?_ _ | refine blk_drew ?_ | refine blk_alloc ?_ _)); exact BK149.out⟩, ⟨by repeat (first | (with_reducible first | exact HB.out | apply below_alloc | apply pw_below_drewN | apply below_drew1 | refine below_set ?_ GE148.out | refine below_set ?_ GE149.out) | exact HB.out)⟩⟩
  rw [if_pos c14] at H
  have c14b0 : ((l0_8.length : Int) == (l1_8.length : Int)) = true := beq_iff_eq.mpr c14
  have c14b1 : ((l0_8.length : Int) != (l1_8.length : Int)) = false := bne_eq_false_iff_eq.mpr c14
  have c14b2 : (l0_8.length == l1_8.length) = true := by first | simpa using c14 | (simp at c14 ⊢; omega)
  clear c14
  by_cases c15 : (l0_9.length : Int) = (l1_9.length : Int)
  rotate_left
  ·rw [if_neg c15] at H
   have c15b0 : ((l0_9.length : Int) == (l1_9.length : Int)) = false := beq_eq_false_iff_ne.mpr c15
   have c15b1 : ((l0_9.length : Int) != (l1_9.length : Int)) = true := bne_iff_ne.mpr c15
   have c15b2 : (l0_9.length == l1_9.length) = false := by first | simpa using c15 | (simp at c15 ⊢; omega)
   have H' := Aside0.mk H
   clear H
   have hnb19 := NB148_149.out
   have hnc19 := NB149_148.out
   obtain ⟨hcz20_0, hcz20_1, hcz20_2, hcz20_3, hcz20_4, hcz20_5, hcz20_6, hcz20_7, hcz20_8, hcz20_9, hcz20_10, hfz20_0, hfz20_1, hfz20_2, hfz20_3, hfz20_4, hfz20_5, hfz20_6, hfz20_7, hfz20_8, hfz20_9, hfz20_10⟩ := q8cb11 BK148.out
   obtain ⟨hcz21_0, hcz21_1, hcz21_2, hcz21_3, hcz21_4, hcz21_5, hcz21_6, hcz21_7, hcz21_8, hcz21_9, hcz21_10, hfz21_0, hfz21_1, hfz21_2, hfz21_3, hfz21_4, hfz21_5, hfz21_6, hfz21_7, hfz21_8, hfz21_9, hfz21_10⟩ := q8cb11 BK149.out
   go_wp2
   repeat (go_quiet (fail); try go_wp2)
   go_meet
   case rel => exact ⟨_, (true), q8y4, H', ⟨by first | omega | exact Nat.le_refl _⟩, ⟨by (with_reducible repeat (first | refine blk_drewN ?_ _ | refine blk_drew ?_ | refine blk_alloc ?_ _)); exact BK148.out⟩, ⟨by (with_reducible repeat (first | refine blk_drewN ?_ _ | refine blk_drew ?_ | refine blk_alloc ?_ _)); exact BK149.out⟩, ⟨by repeat (first | (with_reducible first | exact HB.out | apply below_alloc | apply pw_below_drewN | apply below_drew1 | refine below_set ?_ GE148.out | refine below_set ?_ GE149.out) | exact HB.out)⟩⟩
  rw [if_pos c15] at H
  have c15b0 : ((l0_9.length : Int) == (l1_9.length : Int)) = true := beq_iff_eq.mpr c15
  have c15b1 : ((l0_9.length : Int) != (l1_9.length : Int)) = false := bne_eq_false_iff_eq.mpr c15
  have c15b2 : (l0_9.length == l1_9.length) = true := by first | simpa using c15 | (simp at c15 ⊢; omega)
  clear c15
  have H' := Aside0.mk H
  clear H
  have hnb16 := NB148_149.out
  have hnc16 := NB149_148.out
  obtain ⟨hcz17_0, hcz17_1, hcz17_2, hcz17_3, hcz17_4, hcz17_5, hcz17_6, hcz17_7, hcz17_8, hcz17_9, hcz17_10, hfz17_0, hfz17_1, hfz17_2, hfz17_3, hfz17_4, hfz17_5, hfz17_6, hfz17_7, hfz17_8, hfz17_9, hfz17_10⟩ := q8cb11 BK148.out
  obtain ⟨hcz18_0, hcz18_1, hcz18_2, hcz18_3, hcz18_4, hcz18_5, hcz18_6, hcz18_7, hcz18_8, hcz18_9, hcz18_10, hfz18_0, hfz18_1, hfz18_2, hfz18_3, hfz18_4, hfz18_5, hfz18_6, hfz18_7, hfz18_8, hfz18_9, hfz18_10⟩ := q8cb11 BK149.out
  go_wp2
  repeat (go_quiet (fail); try go_wp2)
  go_meet
  case rel => exact ⟨_, (((l0_10.length : Int) != (l1_10.length : Int))), q8y4, H', ⟨by first | omega | exact Nat.le_refl _⟩, ⟨by (with_reducible repeat (first | refine blk_drewN ?_ _ | refine blk_drew ?_ | refine blk_alloc ?_ _)); exact BK148.out⟩, ⟨by (with_reducible repeat (first | refine blk_drewN ?_ _ | refine blk_drew ?_ | refine blk_alloc ?_ _)); exact BK149.out⟩, ⟨by repeat (first | (with_reducible first | exact HB.out | apply below_alloc | apply pw_below_drewN | apply below_drew1 | refine below_set ?_ GE148.out | refine below_set ?_ GE149.out) | exact HB.out)⟩⟩
 case rest =>
  clear HC3
  try clear c1
  try clear c2
  try clear p2
  try clear c3
  try clear c4
  try clear c6
  try clear c6b0
  try clear c6b1
  try clear c7
  try clear c7b0
  try clear c7b1
  try clear c8
  try clear c8b0
  try clear c8b1
  try clear c9
  try clear c9b0
  try clear c9b1
  try clear c10
  try clear c10b0
  try clear c10b1
  try clear c11
  try clear c11b0
  try clear c11b1
  try clear c12
  try clear c12b0
  try clear c12b1
  try clear c13
  try clear c13b0
  try clear c13b1
  try clear c14
  try clear c14b0
  try clear c14b1
  try clear c14b2
  try clear c15
  try clear c15b0
  try clear c15b1
  try clear c15b2
  try clear c19
  try clear c22
  try clear c25
  try clear c28
  try clear c31
  try clear c34
  try clear c37
  try clear c40
  try clear c43
  try clear c46
  try clear hcz17_10 hcz17_3 hcz17_4 hcz17_5 hcz17_6 hcz17_7 hcz17_8 hcz17_9
  try clear hcz18_0 hcz18_1 hcz18_10 hcz18_2 hcz18_3 hcz18_4 hcz18_5 hcz18_6 hcz18_7 hcz18_8 hcz18_9
  try clear hcz20_0 hcz20_1 hcz20_10 hcz20_2 hcz20_3 hcz20_4 hcz20_5 hcz20_6 hcz20_7 hcz20_8 hcz20_9
  try clear hcz21_0 hcz21_1 hcz21_10 hcz21_2 hcz21_3 hcz21_4 hcz21_5 hcz21_6 hcz21_7 hcz21_8 hcz21_9
  try clear hcz23_0 hcz23_1 hcz23_10 hcz23_2 hcz23_3 hcz23_4 hcz23_5 hcz23_6 hcz23_7 hcz23_8 hcz23_9
  try clear hcz24_0 hcz24_1 hcz24_10 hcz24_2 hcz24_3 hcz24_4 hcz24_5 hcz24_6 hcz24_7 hcz24_8 hcz24_9
  try clear hcz26_0 hcz26_1 hcz26_10 hcz26_2 hcz26_3 hcz26_4 hcz26_5 hcz26_6 hcz26_7 hcz26_8 hcz26_9
  try clear hcz27_0 hcz27_1 hcz27_10 hcz27_2 hcz27_3 hcz27_4 hcz27_5 hcz27_6 hcz27_7 hcz27_8 hcz27_9
  try clear hcz29_0 hcz29_1 hcz29_10 hcz29_2 hcz29_3 hcz29_4 hcz29_5 hcz29_6 hcz29_7 hcz29_8 hcz29_9
  try clear hcz30_0 hcz30_1 hcz30_10 hcz30_2 hcz30_3 hcz30_4 hcz30_5 hcz30_6 hcz30_7 hcz30_8 hcz30_9
  try clear hcz32_0 hcz32_1 hcz32_10 hcz32_2 hcz32_3 hcz32_4 hcz32_5 hcz32_6 hcz32_7 hcz32_8 hcz32_9
  try clear hcz33_0 hcz33_1 hcz33_10 hcz33_2 hcz33_3 hcz33_4 hcz33_5 hcz33_6 hcz33_7 hcz33_8 hcz33_9
  try clear hcz35_0 hcz35_1 hcz35_10 hcz35_2 hcz35_3 hcz35_4 hcz35_5 hcz35_6 hcz35_7 hcz35_8 hcz35_9
  try clear hcz36_0 hcz36_1 hcz36_10 hcz36_2 hcz36_3 hcz36_4 hcz36_5 hcz36_6 hcz36_7 hcz36_8 hcz36_9
  try clear hcz38_0 hcz38_1 hcz38_10 hcz38_2 hcz38_3 hcz38_4 hcz38_5 hcz38_6 hcz38_7 hcz38_8 hcz38_9
  try clear hcz39_0 hcz39_1 hcz39_10 hcz39_2 hcz39_3 hcz39_4 hcz39_5 hcz39_6 hcz39_7 hcz39_8 hcz39_9
  try clear hcz41_0 hcz41_1 hcz41_10 hcz41_2 hcz41_3 hcz41_4 hcz41_5 hcz41_6 hcz41_7 hcz41_8 hcz41_9
  try clear hcz42_0 hcz42_1 hcz42_10 hcz42_2 hcz42_3 hcz42_4 hcz42_5 hcz42_6 hcz42_7 hcz42_8 hcz42_9
  try clear hcz44_0 hcz44_1 hcz44_10 hcz44_2 hcz44_3 hcz44_4 hcz44_5 hcz44_6 hcz44_7 hcz44_8 hcz44_9
  try clear hcz45_0 hcz45_1 hcz45_10 hcz45_2 hcz45_3 hcz45_4 hcz45_5 hcz45_6 hcz45_7 hcz45_8 hcz45_9
  try clear hcz47_0 hcz47_1 hcz47_10 hcz47_2 hcz47_3 hcz47_4 hcz47_5 hcz47_6 hcz47_7 hcz47_8 hcz47_9
  try clear hcz48_0 hcz48_1 hcz48_10 hcz48_2 hcz48_3 hcz48_4 hcz48_5 hcz48_6 hcz48_7 hcz48_8 hcz48_9
  try clear hfz17_0 hfz17_1 hfz17_10 hfz17_2 hfz17_3 hfz17_4 hfz17_5 hfz17_6 hfz17_7 hfz17_8 hfz17_9
  try clear hfz18_0 hfz18_1 hfz18_10 hfz18_2 hfz18_3 hfz18_4 hfz18_5 hfz18_6 hfz18_7 hfz18_8 hfz18_9
  try clear hfz20_0 hfz20_1 hfz20_10 hfz20_2 hfz20_3 hfz20_4 hfz20_5 hfz20_6 hfz20_7 hfz20_8 hfz20_9
  try clear hfz21_0 hfz21_1 hfz21_10 hfz21_2 hfz21_3 hfz21_4 hfz21_5 hfz21_6 hfz21_7 hfz21_8 hfz21_9
  try clear hfz23_0 hfz23_1 hfz23_10 hfz23_2 hfz23_3 hfz23_4 hfz23_5 hfz23_6 hfz23_7 hfz23_8 hfz23_9
  try clear hfz24_0 hfz24_1 hfz24_10 hfz24_2 hfz24_3 hfz24_4 hfz24_5 hfz24_6 hfz24_7 hfz24_8 hfz24_9
  try clear hfz26_0 hfz26_1 hfz26_10 hfz26_2 hfz26_3 hfz26_4 hfz26_5 hfz26_6 hfz26_7 hfz26_8 hfz26_9
  try clear hfz27_0 hfz27_1 hfz27_10 hfz27_2 hfz27_3 hfz27_4 hfz27_5 hfz27_6 hfz27_7 hfz27_8 hfz27_9
  try clear hfz29_0 hfz29_1 hfz29_10 hfz29_2 hfz29_3 hfz29_4 hfz29_5 hfz29_6 hfz29_7 hfz29_8 hfz29_9
  try clear hfz30_0 hfz30_1 hfz30_10 hfz30_2 hfz30_3 hfz30_4 hfz30_5 hfz30_6 hfz30_7 hfz30_8 hfz30_9
  try clear hfz32_0 hfz32_1 hfz32_10 hfz32_2 hfz32_3 hfz32_4 hfz32_5 hfz32_6 hfz32_7 hfz32_8 hfz32_9
  try clear hfz33_0 hfz33_1 hfz33_10 hfz33_2 hfz33_3 hfz33_4 hfz33_5 hfz33_6 hfz33_7 hfz33_8 hfz33_9
  try clear hfz35_0 hfz35_1 hfz35_10 hfz35_2 hfz35_3 hfz35_4 hfz35_5 hfz35_6 hfz35_7 hfz35_8 hfz35_9
  try clear hfz36_0 hfz36_1 hfz36_10 hfz36_2 hfz36_3 hfz36_4 hfz36_5 hfz36_6 hfz36_7 hfz36_8 hfz36_9
  try clear hfz38_0 hfz38_1 hfz38_10 hfz38_2 hfz38_3 hfz38_4 hfz38_5 hfz38_6 hfz38_7 hfz38_8 hfz38_9
  try clear hfz39_0 hfz39_1 hfz39_10 hfz39_2 hfz39_3 hfz39_4 hfz39_5 hfz39_6 hfz39_7 hfz39_8 hfz39_9
  try clear hfz41_0 hfz41_1 hfz41_10 hfz41_2 hfz41_3 hfz41_4 hfz41_5 hfz41_6 hfz41_7 hfz41_8 hfz41_9
  try clear hfz42_0 hfz42_1 hfz42_10 hfz42_2 hfz42_3 hfz42_4 hfz42_5 hfz42_6 hfz42_7 hfz42_8 hfz42_9
  try clear hfz44_0 hfz44_1 hfz44_10 hfz44_2 hfz44_3 hfz44_4 hfz44_5 hfz44_6 hfz44_7 hfz44_8 hfz44_9
  try clear hfz45_0 hfz45_1 hfz45_10 hfz45_2 hfz45_3 hfz45_4 hfz45_5 hfz45_6 hfz45_7 hfz45_8 hfz45_9
  try clear hfz47_0 hfz47_1 hfz47_10 hfz47_2 hfz47_3 hfz47_4 hfz47_5 hfz47_6 hfz47_7 hfz47_8 hfz47_9
  try clear hfz48_0 hfz48_1 hfz48_10 hfz48_2 hfz48_3 hfz48_4 hfz48_5 hfz48_6 hfz48_7 hfz48_8 hfz48_9
  obtain ⟨kq, x88_2, rfl, HA, HJ2, BK148, BK149, HB⟩ := hcut
  cases kq with
  | zero => exact absurd HA.out (by simp [cambiumref16_Same.j0])
  | succ kj2 =>
   have H := HA.out
   clear HA
   simp only [cambiumref16_Same.j0] at H
   by_cases c49 : x88_2 = true
   ·subst c49
    have H1 : (some false) = some r := by rw [if_pos rfl] at H; exact H
    clear H
    have H := H1
    clear H1
    obtain rfl := Option.some.inj H
    go_wp2
    repeat (go_quiet (fail); try go_wp2)
    go_ret
    exact ⟨by first | rfl | (simp [errW_none, errW_some] <;> rfl) | (simp [*, errW_none, errW_some] <;> rfl), by repeat (first | (with_reducible first | exact HB.out | apply below_alloc | apply pw_below_drewN | apply below_drew1 | refine below_set ?_ GE148.out | refine below_set ?_ GE149.out) | exact HB.out)⟩
   replace c49 := Bool.eq_false_iff.mpr c49
   subst c49
   have H1 : (cambiumref16_Same.l0 kj2 0 a0_0 a0_1 a0_2 a0_3 a0_4 a0_5 a0_6 a0_7 l0_8 l0_9 l0_10 a1_0 a1_1 a1_2 a1_3 a1_4 a1_5 a1_6 a1_7 l1_8 l1_9 l1_10) = some r := by rw [if_neg (show ¬ (false = true) by decide)] at H; exact H
   clear H
   have H := H1
   clear H1
   have H' := Aside0.mk H
   clear H
   go_wp2
   repeat (go_quiet (fail); try go_wp2)
   go_loopg [5] kj2 (fun kq v5 w' => ∃ (x5_2 : Int), v5 = .int .i64 x5_2 ∧ Aside0 (cambiumref16_Same.l0 kq x5_2 a0_0 a0_1 a0_2 a0_3 a0_4 a0_5 a0_6 a0_7 l0_8 l0_9 l0_10 a1_0 a1_1 a1_2 a1_3 a1_4 a1_5 a1_6 a1_7 l1_8 l1_9 l1_10 = some r) ∧ Aside0 (kq ≤ kj2) ∧ Aside0 (w'.heap[gb148]? = some (.cells #[.int .u64 a0_0, .int .u64 a0_1, .int .u64 a0_2, .string a0_3, .string a0_4, .int .i64 a0_5, .int .i64 a0_6, .int .i64 a0_7, (.slice A0_8 l0_8.length c0_8), (.slice A0_9 l0_9.length c0_9), (.slice A0_10 l0_10.length c0_10)] 27 (0, 0))) ∧ Aside0 (w'.heap[gb149]? = some (.cells #[.int .u64 a1_0, .int .u64 a1_1, .int .u64 a1_2, .string a1_3, .string a1_4, .int .i64 a1_5, .int .i64 a1_6, .int .i64 a1_7, (.slice A1_8 l1_8.length c1_8), (.slice A1_9 l1_9.length c1_9), (.slice A1_10 l1_10.length c1_10)] 27 (0, 0))) ∧ Aside0 (Below w.heap.size w w'))
   case atStart => exact ⟨(0), q8y4, H', ⟨Nat.le_refl _⟩, ⟨by (with_reducible repeat (first | refine blk_drewN ?_ _ | refine blk_drew ?_ | refine blk_alloc ?_ _)); exact BK148.out⟩, ⟨by (with_reducible repeat (first | refine blk_drewN ?_ _ | refine blk_drew ?_ | refine blk_alloc ?_ _)); exact BK149.out⟩, ⟨by repeat (first | (with_reducible first | exact HB.out | apply below_alloc | apply pw_below_drewN | apply below_drew1 | refine below_set ?_ GE148.out | refine below_set ?_ GE149.out) | exact HB.out)⟩⟩
   case round =>
    clear H'
    try clear c1
    try clear c2
    try clear p2
    try clear c3
    try clear c4
    try clear c6
    try clear c6b0
    try clear c6b1
    try clear c7
    try clear c7b0
    try clear c7b1
    try clear c8
    try clear c8b0
    try clear c8b1
    try clear c9
    try clear c9b0
    try clear c9b1
    try clear c10
    try clear c10b0
    try clear c10b1
    try clear c11
    try clear c11b0
    try clear c11b1
    try clear c12
    try clear c12b0
    try clear c12b1
    try clear c13
    try clear c13b0
    try clear c13b1
    try clear c14
    try clear c14b0
    try clear c14b1
    try clear c14b2
    try clear c15
    try clear c15b0
    try clear c15b1
    try clear c15b2
    try clear c19
    try clear c22
    try clear c25
    try clear c28
    try clear c31
    try clear c34
    try clear c37
    try clear c40
    try clear c43
    try clear c46
    try clear c49
    try clear hcz17_10 hcz17_3 hcz17_4 hcz17_5 hcz17_6 hcz17_7 hcz17_8 hcz17_9
    try clear hcz18_0 hcz18_1 hcz18_10 hcz18_2 hcz18_3 hcz18_4 hcz18_5 hcz18_6 hcz18_7 hcz18_8 hcz18_9
    try clear hcz20_0 hcz20_1 hcz20_10 hcz20_2 hcz20_3 hcz20_4 hcz20_5 hcz20_6 hcz20_7 hcz20_8 hcz20_9
    try clear hcz21_0 hcz21_1 hcz21_10 hcz21_2 hcz21_3 hcz21_4 hcz21_5 hcz21_6 hcz21_7 hcz21_8 hcz21_9
    try clear hcz23_0 hcz23_1 hcz23_10 hcz23_2 hcz23_3 hcz23_4 hcz23_5 hcz23_6 hcz23_7 hcz23_8 hcz23_9
    try clear hcz24_0 hcz24_1 hcz24_10 hcz24_2 hcz24_3 hcz24_4 hcz24_5 hcz24_6 hcz24_7 hcz24_8 hcz24_9
    try clear hcz26_0 hcz26_1 hcz26_10 hcz26_2 hcz26_3 hcz26_4 hcz26_5 hcz26_6 hcz26_7 hcz26_8 hcz26_9
    try clear hcz27_0 hcz27_1 hcz27_10 hcz27_2 hcz27_3 hcz27_4 hcz27_5 hcz27_6 hcz27_7 hcz27_8 hcz27_9
    try clear hcz29_0 hcz29_1 hcz29_10 hcz29_2 hcz29_3 hcz29_4 hcz29_5 hcz29_6 hcz29_7 hcz29_8 hcz29_9
    try clear hcz30_0 hcz30_1 hcz30_10 hcz30_2 hcz30_3 hcz30_4 hcz30_5 hcz30_6 hcz30_7 hcz30_8 hcz30_9
    try clear hcz32_0 hcz32_1 hcz32_10 hcz32_2 hcz32_3 hcz32_4 hcz32_5 hcz32_6 hcz32_7 hcz32_8 hcz32_9
    try clear hcz33_0 hcz33_1 hcz33_10 hcz33_2 hcz33_3 hcz33_4 hcz33_5 hcz33_6 hcz33_7 hcz33_8 hcz33_9
    try clear hcz35_0 hcz35_1 hcz35_10 hcz35_2 hcz35_3 hcz35_4 hcz35_5 hcz35_6 hcz35_7 hcz35_8 hcz35_9
    try clear hcz36_0 hcz36_1 hcz36_10 hcz36_2 hcz36_3 hcz36_4 hcz36_5 hcz36_6 hcz36_7 hcz36_8 hcz36_9
    try clear hcz38_0 hcz38_1 hcz38_10 hcz38_2 hcz38_3 hcz38_4 hcz38_5 hcz38_6 hcz38_7 hcz38_8 hcz38_9
    try clear hcz39_0 hcz39_1 hcz39_10 hcz39_2 hcz39_3 hcz39_4 hcz39_5 hcz39_6 hcz39_7 hcz39_8 hcz39_9
    try clear hcz41_0 hcz41_1 hcz41_10 hcz41_2 hcz41_3 hcz41_4 hcz41_5 hcz41_6 hcz41_7 hcz41_8 hcz41_9
    try clear hcz42_0 hcz42_1 hcz42_10 hcz42_2 hcz42_3 hcz42_4 hcz42_5 hcz42_6 hcz42_7 hcz42_8 hcz42_9
    try clear hcz44_0 hcz44_1 hcz44_10 hcz44_2 hcz44_3 hcz44_4 hcz44_5 hcz44_6 hcz44_7 hcz44_8 hcz44_9
    try clear hcz45_0 hcz45_1 hcz45_10 hcz45_2 hcz45_3 hcz45_4 hcz45_5 hcz45_6 hcz45_7 hcz45_8 hcz45_9
    try clear hcz47_0 hcz47_1 hcz47_10 hcz47_2 hcz47_3 hcz47_4 hcz47_5 hcz47_6 hcz47_7 hcz47_8 hcz47_9
    try clear hcz48_0 hcz48_1 hcz48_10 hcz48_2 hcz48_3 hcz48_4 hcz48_5 hcz48_6 hcz48_7 hcz48_8 hcz48_9
    try clear hfz17_0 hfz17_1 hfz17_10 hfz17_2 hfz17_3 hfz17_4 hfz17_5 hfz17_6 hfz17_7 hfz17_8 hfz17_9
    try clear hfz18_0 hfz18_1 hfz18_10 hfz18_2 hfz18_3 hfz18_4 hfz18_5 hfz18_6 hfz18_7 hfz18_8 hfz18_9
    try clear hfz20_0 hfz20_1 hfz20_10 hfz20_2 hfz20_3 hfz20_4 hfz20_5 hfz20_6 hfz20_7 hfz20_8 hfz20_9
    try clear hfz21_0 hfz21_1 hfz21_10 hfz21_2 hfz21_3 hfz21_4 hfz21_5 hfz21_6 hfz21_7 hfz21_8 hfz21_9
    try clear hfz23_0 hfz23_1 hfz23_10 hfz23_2 hfz23_3 hfz23_4 hfz23_5 hfz23_6 hfz23_7 hfz23_8 hfz23_9
    try clear hfz24_0 hfz24_1 hfz24_10 hfz24_2 hfz24_3 hfz24_4 hfz24_5 hfz24_6 hfz24_7 hfz24_8 hfz24_9
    try clear hfz26_0 hfz26_1 hfz26_10 hfz26_2 hfz26_3 hfz26_4 hfz26_5 hfz26_6 hfz26_7 hfz26_8 hfz26_9
    try clear hfz27_0 hfz27_1 hfz27_10 hfz27_2 hfz27_3 hfz27_4 hfz27_5 hfz27_6 hfz27_7 hfz27_8 hfz27_9
    try clear hfz29_0 hfz29_1 hfz29_10 hfz29_2 hfz29_3 hfz29_4 hfz29_5 hfz29_6 hfz29_7 hfz29_8 hfz29_9
    try clear hfz30_0 hfz30_1 hfz30_10 hfz30_2 hfz30_3 hfz30_4 hfz30_5 hfz30_6 hfz30_7 hfz30_8 hfz30_9
    try clear hfz32_0 hfz32_1 hfz32_10 hfz32_2 hfz32_3 hfz32_4 hfz32_5 hfz32_6 hfz32_7 hfz32_8 hfz32_9
    try clear hfz33_0 hfz33_1 hfz33_10 hfz33_2 hfz33_3 hfz33_4 hfz33_5 hfz33_6 hfz33_7 hfz33_8 hfz33_9
    try clear hfz35_0 hfz35_1 hfz35_10 hfz35_2 hfz35_3 hfz35_4 hfz35_5 hfz35_6 hfz35_7 hfz35_8 hfz35_9
    try clear hfz36_0 hfz36_1 hfz36_10 hfz36_2 hfz36_3 hfz36_4 hfz36_5 hfz36_6 hfz36_7 hfz36_8 hfz36_9
    try clear hfz38_0 hfz38_1 hfz38_10 hfz38_2 hfz38_3 hfz38_4 hfz38_5 hfz38_6 hfz38_7 hfz38_8 hfz38_9
    try clear hfz39_0 hfz39_1 hfz39_10 hfz39_2 hfz39_3 hfz39_4 hfz39_5 hfz39_6 hfz39_7 hfz39_8 hfz39_9
    try clear hfz41_0 hfz41_1 hfz41_10 hfz41_2 hfz41_3 hfz41_4 hfz41_5 hfz41_6 hfz41_7 hfz41_8 hfz41_9
    try clear hfz42_0 hfz42_1 hfz42_10 hfz42_2 hfz42_3 hfz42_4 hfz42_5 hfz42_6 hfz42_7 hfz42_8 hfz42_9
    try clear hfz44_0 hfz44_1 hfz44_10 hfz44_2 hfz44_3 hfz44_4 hfz44_5 hfz44_6 hfz44_7 hfz44_8 hfz44_9
    try clear hfz45_0 hfz45_1 hfz45_10 hfz45_2 hfz45_3 hfz45_4 hfz45_5 hfz45_6 hfz45_7 hfz45_8 hfz45_9
    try clear hfz47_0 hfz47_1 hfz47_10 hfz47_2 hfz47_3 hfz47_4 hfz47_5 hfz47_6 hfz47_7 hfz47_8 hfz47_9
    try clear hfz48_0 hfz48_1 hfz48_10 hfz48_2 hfz48_3 hfz48_4 hfz48_5 hfz48_6 hfz48_7 hfz48_8 hfz48_9
    try clear p2
    obtain ⟨x5_2, rfl, HA, HK2, BK148, BK149, HB⟩ := hrel
    cases gk with
    | zero => exact absurd HA.out (by simp [cambiumref16_Same.l0])
    | succ k2 =>
     have H := HA.out
     clear HA
     simp only [cambiumref16_Same.l0] at H
     by_cases c50 : x5_2 < (l0_8.length : Int)
     ·rw [if_pos c50] at H
      have c50b0 : decide (x5_2 < (l0_8.length : Int)) = true := decide_eq_true c50
      clear c50
      by_cases c51 : 0 ≤ x5_2
      rotate_left
      ·rw [if_neg c51] at H
       exact absurd H (by simp)
      rw [if_pos c51] at H
      have c51b0 : decide (0 ≤ x5_2) = true := decide_eq_true c51
      clear c51
      by_cases c52 : x5_2 < (l1_8.length : Int)
      rotate_left
      ·rw [if_neg c52] at H
       exact absurd H (by simp)
      rw [if_pos c52] at H
      have c52b0 : decide (x5_2 < (l1_8.length : Int)) = true := decide_eq_true c52
      clear c52
      by_cases c53 : (!((((rd_T53 l0_8 x5_2).f0).toList) == (((rd_T53 l1_8 x5_2).f0).toList)) || ((!(((rd_T53 l0_8 x5_2).f1.f0) == ((rd_T53 l1_8 x5_2).f1.f0)) || (!((((rd_T53 l0_8 x5_2).f1.f1).toList) == (((rd_T53 l1_8 x5_2).f1.f1).toList)) || (!(((rd_T53 l0_8 x5_2).f1.f2) == ((rd_T53 l1_8 x5_2).f1.f2)) || (!(((rd_T53 l0_8 x5_2).f1.f3) == ((rd_T53 l1_8 x5_2).f1.f3)))))))) = true
      ·rw [if_pos c53] at H
       have c53b0 : (!((((rd_T53 l0_8 x5_2).f0).toList) == (((rd_T53 l1_8 x5_2).f0).toList)) || ((!(((rd_T53 l0_8 x5_2).f1.f0) == ((rd_T53 l1_8 x5_2).f1.f0)) || (!((((rd_T53 l0_8 x5_2).f1.f1).toList) == (((rd_T53 l1_8 x5_2).f1.f1).toList)) || (!(((rd_T53 l0_8 x5_2).f1.f2) == ((rd_T53 l1_8 x5_2).f1.f2)) || (!(((rd_T53 l0_8 x5_2).f1.f3) == ((rd_T53 l1_8 x5_2).f1.f3)))))))) = true := c53
       clear c53
       obtain rfl := Option.some.inj H
       have hnb54 := NB148_149.out
       have hnc54 := NB149_148.out
       obtain ⟨hcz55_0, hcz55_1, hcz55_2, hcz55_3, hcz55_4, hcz55_5, hcz55_6, hcz55_7, hcz55_8, hcz55_9, hcz55_10, hfz55_0, hfz55_1, hfz55_2, hfz55_3, hfz55_4, hfz55_5, hfz55_6, hfz55_7, hfz55_8, hfz55_9, hfz55_10⟩ := q8cb11 BK148.out
       have p150 : 0 ≤ (x5_2 : Int) := of_decide_eq_true q8y1
       have q150 : x5_2 < (l0_8.length : Int) := of_decide_eq_true q8y1
       obtain ⟨ad150, e150, hx150_0, hx150_1, hx150_2, hx150_3, hx150_4⟩ := at_T53 HR0_8.out x5_2 p150 q150
       cases e150
       replace hx150_0 := (HB.out.cell (World.block_lt_of_cell? w _ hx150_0)).trans hx150_0
       replace hx150_1 := (HB.out.cell (World.block_lt_of_cell? w _ hx150_1)).trans hx150_1
       replace hx150_2 := (HB.out.cell (World.block_lt_of_cell? w _ hx150_2)).trans hx150_2
       replace hx150_3 := (HB.out.cell (World.block_lt_of_cell? w _ hx150_3)).trans hx150_3
       replace hx150_4 := (HB.out.cell (World.block_lt_of_cell? w _ hx150_4)).trans hx150_4
       replace p150 := eq_true p150
       replace q150 := eq_true q150
       obtain ⟨hcz56_0, hcz56_1, hcz56_2, hcz56_3, hcz56_4, hcz56_5, hcz56_6, hcz56_7, hcz56_8, hcz56_9, hcz56_10, hfz56_0, hfz56_1, hfz56_2, hfz56_3, hfz56_4, hfz56_5, hfz56_6, hfz56_7, hfz56_8, hfz56_9, hfz56_10⟩ := q8cb11 BK149.out
       have p151 : 0 ≤ (x5_2 : Int) := of_decide_eq_true q8y1
       have q151 : x5_2 < (l1_8.length : Int) := of_decide_eq_true q8y1
       obtain ⟨ad151, e151, hx151_0, hx151_1, hx151_2, hx151_3, hx151_4⟩ := at_T53 HR1_8.out x5_2 p151 q151
       cases e151
       replace hx151_0 := (HB.out.cell (World.block_lt_of_cell? w _ hx151_0)).trans hx151_0
       replace hx151_1 := (HB.out.cell (World.block_lt_of_cell? w _ hx151_1)).trans hx151_1
       replace hx151_2 := (HB.out.cell (World.block_lt_of_cell? w _ hx151_2)).trans hx151_2
       replace hx151_3 := (HB.out.cell (World.block_lt_of_cell? w _ hx151_3)).trans hx151_3
       replace hx151_4 := (HB.out.cell (World.block_lt_of_cell? w _ hx151_4)).trans hx151_4
       replace p151 := eq_true p151
       replace q151 := eq_true q151
       go_wp2
       repeat (go_quiet (fail); try go_wp2)
       go_ret
       exact ⟨by first | rfl | (simp [errW_none, errW_some] <;> rfl) | (simp [*, errW_none, errW_some] <;> rfl), by repeat (first | (with_reducible first | exact HB.out | apply below_alloc | apply pw_below_drewN | apply below_drew1 | refine below_set ?_ GE148.out | refine below_set ?_ GE149.out) | exact HB.out)⟩
      rw [if_neg c53] at H
      have c53b0 : (!((((rd_T53 l0_8 x5_2).f0).toList) == (((rd_T53 l1_8 x5_2).f0).toList)) || ((!(((rd_T53 l0_8 x5_2).f1.f0) == ((rd_T53 l1_8 x5_2).f1.f0)) || (!((((rd_T53 l0_8 x5_2).f1.f1).toList) == (((rd_T53 l1_8 x5_2).f1.f1).toList)) || (!(((rd_T53 l0_8 x5_2).f1.f2) == ((rd_T53 l1_8 x5_2).f1.f2)) || (!(((rd_T53 l0_8 x5_2).f1.f3) == ((rd_T53 l1_8 x5_2).f1.f3)))))))) = false := by simpa using c53
      clear c53
      have H' := Aside0.mk H
      clear H
      have hnb57 := NB148_149.out
      have hnc57 := NB149_148.out
      obtain ⟨hcz58_0, hcz58_1, hcz58_2, hcz58_3, hcz58_4, hcz58_5, hcz58_6, hcz58_7, hcz58_8, hcz58_9, hcz58_10, hfz58_0, hfz58_1, hfz58_2, hfz58_3, hfz58_4, hfz58_5, hfz58_6, hfz58_7, hfz58_8, hfz58_9, hfz58_10⟩ := q8cb11 BK148.out
      have p150 : 0 ≤ (x5_2 : Int) := of_decide_eq_true q8y1
      have q150 : x5_2 < (l0_8.length : Int) := of_decide_eq_true q8y1
      obtain ⟨ad150, e150, hx150_0, hx150_1, hx150_2, hx150_3, hx150_4⟩ := at_T53 HR0_8.out x5_2 p150 q150
      cases e150
      replace hx150_0 := (HB.out.cell (World.block_lt_of_cell? w _ hx150_0)).trans hx150_0
      replace hx150_1 := (HB.out.cell (World.block_lt_of_cell? w _ hx150_1)).trans hx150_1
      replace hx150_2 := (HB.out.cell (World.block_lt_of_cell? w _ hx150_2)).trans hx150_2
      replace hx150_3 := (HB.out.cell (World.block_lt_of_cell? w _ hx150_3)).trans hx150_3
      replace hx150_4 := (HB.out.cell (World.block_lt_of_cell? w _ hx150_4)).trans hx150_4
      replace p150 := eq_true p150
      replace q150 := eq_true q150
      obtain ⟨hcz59_0, hcz59_1, hcz59_2, hcz59_3, hcz59_4, hcz59_5, hcz59_6, hcz59_7, hcz59_8, hcz59_9, hcz59_10, hfz59_0, hfz59_1, hfz59_2, hfz59_3, hfz59_4, hfz59_5, hfz59_6, hfz59_7, hfz59_8, hfz59_9, hfz59_10⟩ := q8cb11 BK149.out
      have p151 : 0 ≤ (x5_2 : Int) := of_decide_eq_true q8y1
      have q151 : x5_2 < (l1_8.length : Int) := of_decide_eq_true q8y1
      obtain ⟨ad151, e151, hx151_0, hx151_1, hx151_2, hx151_3, hx151_4⟩ := at_T53 HR1_8.out x5_2 p151 q151
      cases e151
      replace hx151_0 := (HB.out.cell (World.block_lt_of_cell? w _ hx151_0)).trans hx151_0
      replace hx151_1 := (HB.out.cell (World.block_lt_of_cell? w _ hx151_1)).trans hx151_1
      replace hx151_2 := (HB.out.cell (World.block_lt_of_cell? w _ hx151_2)).trans hx151_2
      replace hx151_3 := (HB.out.cell (World.block_lt_of_cell? w _ hx151_3)).trans hx151_3
      replace hx151_4 := (HB.out.cell (World.block_lt_of_cell? w _ hx151_4)).trans hx151_4
      replace p151 := eq_true p151
      replace q151 := eq_true q151
      go_wp2
      repeat (go_quiet (fail); try go_wp2)
      go_roundg k2
      case measure => have := HJ2.out; have := HK2.out; omega
      case rel => exact ⟨(wrap64 (x5_2 + 1)), q8y4, H', ⟨by have := HJ2.out; have := HK2.out; omega⟩, ⟨by (with_reducible repeat (first | refine blk_drewN ?_ _ | refine blk_drew ?_ | refine blk_alloc ?_ _)); exact BK148.out⟩, ⟨by (with_reducible repeat (first | refine blk_drewN ?_ _ | refine blk_drew ?_ | refine blk_alloc ?_ _)); exact BK149.out⟩, ⟨by repeat (first | (with_reducible first | exact HB.out | apply below_alloc | apply pw_below_drewN | apply below_drew1 | refine below_set ?_ GE148.out | refine below_set ?_ GE149.out) | exact HB.out)⟩⟩
     rw [if_neg c50] at H
     have c50b0 : decide (x5_2 < (l0_8.length : Int)) = false := decide_eq_false c50
     clear c50
     have H' := Aside0.mk H
     clear H
     have hnb60 := NB148_149.out
     have hnc60 := NB149_148.out
     obtain ⟨hcz61_0, hcz61_1, hcz61_2, hcz61_3, hcz61_4, hcz61_5, hcz61_6, hcz61_7, hcz61_8, hcz61_9, hcz61_10, hfz61_0, hfz61_1, hfz61_2, hfz61_3, hfz61_4, hfz61_5, hfz61_6, hfz61_7, hfz61_8, hfz61_9, hfz61_10⟩ := q8cb11 BK148.out
     go_wp2
     repeat (go_quiet (fail); try go_wp2)
     go_loopg [6] k2 (fun kq v6 w' => ∃ (x6_3 : Int), v6 = .int .i64 x6_3 ∧ Aside0 (cambiumref16_Same.l1 kq x6_3 a0_0 a0_1 a0_2 a0_3 a0_4 a0_5 a0_6 a0_7 l0_8 l0_9 l0_10 a1_0 a1_1 a1_2 a1_3 a1_4 a1_5 a1_6 a1_7 l1_8 l1_9 l1_10 = some r) ∧ Aside0 (kq ≤ k2) ∧ Aside0 (w'.heap[gb148]? = some (.cells #[.int .u64 a0_0, .int .u64 a0_1, .int .u64 a0_2, .string a0_3, .string a0_4, .int .i64 a0_5, .int .i64 a0_6, .int .i64 a0_7, (.slice A0_8 l0_8.length c0_8), (.slice A0_9 l0_9.length c0_9), (.slice A0_10 l0_10.length c0_10)] 27 (0, 0))) ∧ Aside0 (w'.heap[gb149]? = some (.cells #[.int .u64 a1_0, .int .u64 a1_1, .int .u64 a1_2, .string a1_3, .string a1_4, .int .i64 a1_5, .int .i64 a1_6, .int .i64 a1_7, (.slice A1_8 l1_8.length c1_8), (.slice A1_9 l1_9.length c1_9), (.slice A1_10 l1_10.length c1_10)] 27 (0, 0))) ∧ Aside0 (Below w.heap.size w w'))
     case atStart => exact ⟨(0), q8y4, H', ⟨Nat.le_refl _⟩, ⟨by (with_reducible repeat (first | refine blk_drewN ?_ _ | refine blk_drew ?_ | refine blk_alloc ?_ _)); exact BK148.out⟩, ⟨by (with_reducible repeat (first | refine blk_drewN ?_ _ | refine blk_drew ?_ | refine blk_alloc ?_ _)); exact BK149.out⟩, ⟨by repeat (first | (with_reducible first | exact HB.out | apply below_alloc | apply pw_below_drewN | apply below_drew1 | refine below_set ?_ GE148.out | refine below_set ?_ GE149.out) | exact HB.out)⟩⟩
     case round =>
      clear H'
      try clear c1
      try clear p1
      try clear q1
      try clear hx1
      try clear p2
      try clear c5
      try clear c6
      try clear p6
      try clear p15
      try clear q15
      try clear hx15
      try clear c50
      try clear c50b0
      try clear c51
      try clear c51b0
      try clear c52
      try clear c52b0
      try clear c53
      try clear c53b0
      try clear c54
      try clear c57
      try clear c60
      try clear hcz29_9
      try clear hcz30_0 hcz30_1 hcz30_10 hcz30_2 hcz30_3 hcz30_4 hcz30_5 hcz30_6 hcz30_7 hcz30_8 hcz30_9
      try clear hcz32_0 hcz32_1 hcz32_10 hcz32_2 hcz32_3 hcz32_4 hcz32_5 hcz32_6 hcz32_7 hcz32_8 hcz32_9
      try clear hcz33_0 hcz33_1 hcz33_10 hcz33_2 hcz33_3 hcz33_4 hcz33_5 hcz33_6 hcz33_7 hcz33_8 hcz33_9
      try clear hcz35_0 hcz35_1 hcz35_10 hcz35_2 hcz35_3 hcz35_4 hcz35_5 hcz35_6 hcz35_7 hcz35_8 hcz35_9
      try clear hcz36_0 hcz36_1 hcz36_10 hcz36_2 hcz36_3 hcz36_4 hcz36_5 hcz36_6 hcz36_7 hcz36_8 hcz36_9
      try clear hcz38_0 hcz38_1 hcz38_10 hcz38_2 hcz38_3 hcz38_4 hcz38_5 hcz38_6 hcz38_7 hcz38_8 hcz38_9
      try clear hcz39_0 hcz39_1 hcz39_10 hcz39_2 hcz39_3 hcz39_4 hcz39_5 hcz39_6 hcz39_7 hcz39_8 hcz39_9
      try clear hcz41_0 hcz41_1 hcz41_10 hcz41_2 hcz41_3 hcz41_4 hcz41_5 hcz41_6 hcz41_7 hcz41_8 hcz41_9
      try clear hcz42_0 hcz42_1 hcz42_10 hcz42_2 hcz42_3 hcz42_4 hcz42_5 hcz42_6 hcz42_7 hcz42_8 hcz42_9
      try clear hcz44_0 hcz44_1 hcz44_10 hcz44_2 hcz44_3 hcz44_4 hcz44_5 hcz44_6 hcz44_7 hcz44_8 hcz44_9
      try clear hcz45_0 hcz45_1 hcz45_10 hcz45_2 hcz45_3 hcz45_4 hcz45_5 hcz45_6 hcz45_7 hcz45_8 hcz45_9
      try clear hcz47_0 hcz47_1 hcz47_10 hcz47_2 hcz47_3 hcz47_4 hcz47_5 hcz47_6 hcz47_7 hcz47_8 hcz47_9
      try clear hcz48_0 hcz48_1 hcz48_10 hcz48_2 hcz48_3 hcz48_4 hcz48_5 hcz48_6 hcz48_7 hcz48_8 hcz48_9
      try clear hcz55_0 hcz55_1 hcz55_10 hcz55_2 hcz55_3 hcz55_4 hcz55_5 hcz55_6 hcz55_7 hcz55_8 hcz55_9
      try clear hcz56_0 hcz56_1 hcz56_10 hcz56_2 hcz56_3 hcz56_4 hcz56_5 hcz56_6 hcz56_7 hcz56_8 hcz56_9
      try clear hcz58_0 hcz58_1 hcz58_10 hcz58_2 hcz58_3 hcz58_4 hcz58_5 hcz58_6 hcz58_7 hcz58_8 hcz58_9
      try clear hcz59_0 hcz59_1 hcz59_10 hcz59_2 hcz59_3 hcz59_4 hcz59_5 hcz59_6 hcz59_7 hcz59_8 hcz59_9
      try clear hcz61_0 hcz61_1 hcz61_10 hcz61_2 hcz61_3 hcz61_4 hcz61_5 hcz61_6 hcz61_7 hcz61_8 hcz61_9
      try clear hfz17_0 hfz17_1 hfz17_10 hfz17_2 hfz17_3 hfz17_4 hfz17_5 hfz17_6 hfz17_7 hfz17_8 hfz17_9
      try clear hfz18_0 hfz18_1 hfz18_10 hfz18_2 hfz18_3 hfz18_4 hfz18_5 hfz18_6 hfz18_7 hfz18_8 hfz18_9
      try clear hfz20_0 hfz20_1 hfz20_10 hfz20_2 hfz20_3 hfz20_4 hfz20_5 hfz20_6 hfz20_7 hfz20_8 hfz20_9
      try clear hfz21_0 hfz21_1 hfz21_10 hfz21_2 hfz21_3 hfz21_4 hfz21_5 hfz21_6 hfz21_7 hfz21_8 hfz21_9
      try clear hfz23_0 hfz23_1 hfz23_10 hfz23_2 hfz23_3 hfz23_4 hfz23_5 hfz23_6 hfz23_7 hfz23_8 hfz23_9
      try clear hfz24_0 hfz24_1 hfz24_10 hfz24_2 hfz24_3 hfz24_4 hfz24_5 hfz24_6 hfz24_7 hfz24_8 hfz24_9
      try clear hfz26_0 hfz26_1 hfz26_10 hfz26_2 hfz26_3 hfz26_4 hfz26_5 hfz26_6 hfz26_7 hfz26_8 hfz26_9
      try clear hfz27_0 hfz27_1 hfz27_10 hfz27_2 hfz27_3 hfz27_4 hfz27_5 hfz27_6 hfz27_7 hfz27_8 hfz27_9
      try clear hfz29_0 hfz29_1 hfz29_10 hfz29_2 hfz29_3 hfz29_4 hfz29_5 hfz29_6 hfz29_7 hfz29_8 hfz29_9
      try clear hfz30_0 hfz30_1 hfz30_10 hfz30_2 hfz30_3 hfz30_4 hfz30_5 hfz30_6 hfz30_7 hfz30_8 hfz30_9
      try clear hfz32_0 hfz32_1 hfz32_10 hfz32_2 hfz32_3 hfz32_4 hfz32_5 hfz32_6 hfz32_7 hfz32_8 hfz32_9
      try clear hfz33_0 hfz33_1 hfz33_10 hfz33_2 hfz33_3 hfz33_4 hfz33_5 hfz33_6 hfz33_7 hfz33_8 hfz33_9
      try clear hfz35_0 hfz35_1 hfz35_10 hfz35_2 hfz35_3 hfz35_4 hfz35_5 hfz35_6 hfz35_7 hfz35_8 hfz35_9
      try clear hfz36_0 hfz36_1 hfz36_10 hfz36_2 hfz36_3 hfz36_4 hfz36_5 hfz36_6 hfz36_7 hfz36_8 hfz36_9
      try clear hfz38_0 hfz38_1 hfz38_10 hfz38_2 hfz38_3 hfz38_4 hfz38_5 hfz38_6 hfz38_7 hfz38_8 hfz38_9
      try clear hfz39_0 hfz39_1 hfz39_10 hfz39_2 hfz39_3 hfz39_4 hfz39_5 hfz39_6 hfz39_7 hfz39_8 hfz39_9
      try clear hfz41_0 hfz41_1 hfz41_10 hfz41_2 hfz41_3 hfz41_4 hfz41_5 hfz41_6 hfz41_7 hfz41_8 hfz41_9
      try clear hfz42_0 hfz42_1 hfz42_10 hfz42_2 hfz42_3 hfz42_4 hfz42_5 hfz42_6 hfz42_7 hfz42_8 hfz42_9
      try clear hfz44_0 hfz44_1 hfz44_10 hfz44_2 hfz44_3 hfz44_4 hfz44_5 hfz44_6 hfz44_7 hfz44_8 hfz44_9
      try clear hfz45_0 hfz45_1 hfz45_10 hfz45_2 hfz45_3 hfz45_4 hfz45_5 hfz45_6 hfz45_7 hfz45_8 hfz45_9
      try clear hfz47_0 hfz47_1 hfz47_10 hfz47_2 hfz47_3 hfz47_4 hfz47_5 hfz47_6 hfz47_7 hfz47_8 hfz47_9
      try clear hfz48_0 hfz48_1 hfz48_10 hfz48_2 hfz48_3 hfz48_4 hfz48_5 hfz48_6 hfz48_7 hfz48_8 hfz48_9
      try clear hfz55_0 hfz55_1 hfz55_10 hfz55_2 hfz55_3 hfz55_4 hfz55_5 hfz55_6 hfz55_7 hfz55_8 hfz55_9
      try clear hfz56_0 hfz56_1 hfz56_10 hfz56_2 hfz56_3 hfz56_4 hfz56_5 hfz56_6 hfz56_7 hfz56_8 hfz56_9
      try clear hfz58_0 hfz58_1 hfz58_10 hfz58_2 hfz58_3 hfz58_4 hfz58_5 hfz58_6 hfz58_7 hfz58_8 hfz58_9
      try clear hfz59_0 hfz59_1 hfz59_10 hfz59_2 hfz59_3 hfz59_4 hfz59_5 hfz59_6 hfz59_7 hfz59_8 hfz59_9
      try clear hfz61_0 hfz61_1 hfz61_10 hfz61_2 hfz61_3 hfz61_4 hfz61_5 hfz61_6 hfz61_7 hfz61_8 hfz61_9
      try clear hx150_0
      try clear hx150_1
      try clear hx150_2
      try clear hx150_3
      try clear hx150_4
      try clear hx151_0
      try clear hx151_1
      try clear hx151_2
      try clear hx151_3
      try clear hx151_4
      try clear p150
      try clear p151
      try clear p2
      try clear q150
      try clear q151
      obtain ⟨x6_3, rfl, HA, HK3, BK148, BK149, HB⟩ := hrel
      cases gk with
      | zero => exact absurd HA.out (by simp [cambiumref16_Same.l1])
      | succ k3 =>
       have H := HA.out
       clear HA
       simp only [cambiumref16_Same.l1] at H
       by_cases c62 : x6_3 < (l0_9.length : Int)
       ·rw [if_pos c62] at H
        have c62b0 : decide (x6_3 < (l0_9.length : Int)) = true := decide_eq_true c62
        clear c62
        by_cases c63 : 0 ≤ x6_3
        rotate_left
        ·rw [if_neg c63] at H
         exact absurd H (by simp)
        rw [if_pos c63] at H
        have c63b0 : decide (0 ≤ x6_3) = true := decide_eq_true c63
        clear c63
        by_cases c64 : x6_3 < (l1_9.length : Int)
        rotate_left
        ·rw [if_neg c64] at H
         exact absurd H (by simp)
        rw [if_pos c64] at H
        have c64b0 : decide (x6_3 < (l1_9.length : Int)) = true := decide_eq_true c64
        clear c64
        by_cases c65 : (!(((rd_T55 l0_9 x6_3).f0) == ((rd_T55 l1_9 x6_3).f0)) || (!((((rd_T55 l0_9 x6_3).f1).toList) == (((rd_T55 l1_9 x6_3).f1).toList)))) = true
        ·rw [if_pos c65] at H
         have c65b0 : (!(((rd_T55 l0_9 x6_3).f0) == ((rd_T55 l1_9 x6_3).f0)) || (!((((rd_T55 l0_9 x6_3).f1).toList) == (((rd_T55 l1_9 x6_3).f1).toList)))) = true := c65
         clear c65
         obtain rfl := Option.some.inj H
         have hnb66 := NB148_149.out
         have hnc66 := NB149_148.out
         obtain ⟨hcz67_0, hcz67_1, hcz67_2, hcz67_3, hcz67_4, hcz67_5, hcz67_6, hcz67_7, hcz67_8, hcz67_9, hcz67_10, hfz67_0, hfz67_1, hfz67_2, hfz67_3, hfz67_4, hfz67_5, hfz67_6, hfz67_7, hfz67_8, hfz67_9, hfz67_10⟩ := q8cb11 BK148.out
         have p152 : 0 ≤ (x6_3 : Int) := of_decide_eq_true q8y1
         have q152 : x6_3 < (l0_9.length : Int) := of_decide_eq_true q8y1
         obtain ⟨ad152, e152, hx152_0, hx152_1⟩ := at_T55 HR0_9.out x6_3 p152 q152
         cases e152
         replace hx152_0 := (HB.out.cell (World.block_lt_of_cell? w _ hx152_0)).trans hx152_0
         replace hx152_1 := (HB.out.cell (World.block_lt_of_cell? w _ hx152_1)).trans hx152_1
         replace p152 := eq_true p152
         replace q152 := eq_true q152
         obtain ⟨hcz68_0, hcz68_1, hcz68_2, hcz68_3, hcz68_4, hcz68_5, hcz68_6, hcz68_7, hcz68_8, hcz68_9, hcz68_10, hfz68_0, hfz68_1, hfz68_2, hfz68_3, hfz68_4, hfz68_5, hfz68_6, hfz68_7, hfz68_8, hfz68_9, hfz68_10⟩ := q8cb11 BK149.out
         have p153 : 0 ≤ (x6_3 : Int) := of_decide_eq_true q8y1
         have q153 : x6_3 < (l1_9.length : Int) := of_decide_eq_true q8y1
         obtain ⟨ad153, e153, hx153_0, hx153_1⟩ := at_T55 HR1_9.out x6_3 p153 q153
         cases e153
         replace hx153_0 := (HB.out.cell (World.block_lt_of_cell? w _ hx153_0)).trans hx153_0
         replace hx153_1 := (HB.out.cell (World.block_lt_of_cell? w _ hx153_1)).trans hx153_1
         replace p153 := eq_true p153
         replace q153 := eq_true q153
         go_wp2
         repeat (go_quiet (fail); try go_wp2)
         go_ret
         exact ⟨by first | rfl | (simp [errW_none, errW_some] <;> rfl) | (simp [*, errW_none, errW_some] <;> rfl), by repeat (first | (with_reducible first | exact HB.out | apply below_alloc | apply pw_below_drewN | apply below_drew1 | refine below_set ?_ GE148.out | refine below_set ?_ GE149.out) | exact HB.out)⟩
        rw [if_neg c65] at H
        have c65b0 : (!(((rd_T55 l0_9 x6_3).f0) == ((rd_T55 l1_9 x6_3).f0)) || (!((((rd_T55 l0_9 x6_3).f1).toList) == (((rd_T55 l1_9 x6_3).f1).toList)))) = false := by simpa using c65
        clear c65
        have H' := Aside0.mk H
        clear H
        have hnb69 := NB148_149.out
        have hnc69 := NB149_148.out
        obtain ⟨hcz70_0, hcz70_1, hcz70_2, hcz70_3, hcz70_4, hcz70_5, hcz70_6, hcz70_7, hcz70_8, hcz70_9, hcz70_10, hfz70_0, hfz70_1, hfz70_2, hfz70_3, hfz70_4, hfz70_5, hfz70_6, hfz70_7, hfz70_8, hfz70_9, hfz70_10⟩ := q8cb11 BK148.out
        have p152 : 0 ≤ (x6_3 : Int) := of_decide_eq_true q8y1
        have q152 : x6_3 < (l0_9.length : Int) := of_decide_eq_true q8y1
        obtain ⟨ad152, e152, hx152_0, hx152_1⟩ := at_T55 HR0_9.out x6_3 p152 q152
        cases e152
        replace hx152_0 := (HB.out.cell (World.block_lt_of_cell? w _ hx152_0)).trans hx152_0
        replace hx152_1 := (HB.out.cell (World.block_lt_of_cell? w _ hx152_1)).trans hx152_1
        replace p152 := eq_true p152
        replace q152 := eq_true q152
        obtain ⟨hcz71_0, hcz71_1, hcz71_2, hcz71_3, hcz71_4, hcz71_5, hcz71_6, hcz71_7, hcz71_8, hcz71_9, hcz71_10, hfz71_0, hfz71_1, hfz71_2, hfz71_3, hfz71_4, hfz71_5, hfz71_6, hfz71_7, hfz71_8, hfz71_9, hfz71_10⟩ := q8cb11 BK149.out
        have p153 : 0 ≤ (x6_3 : Int) := of_decide_eq_true q8y1
        have q153 : x6_3 < (l1_9.length : Int) := of_decide_eq_true q8y1
        obtain ⟨ad153, e153, hx153_0, hx153_1⟩ := at_T55 HR1_9.out x6_3 p153 q153
        cases e153
        replace hx153_0 := (HB.out.cell (World.block_lt_of_cell? w _ hx153_0)).trans hx153_0
        replace hx153_1 := (HB.out.cell (World.block_lt_of_cell? w _ hx153_1)).trans hx153_1
        replace p153 := eq_true p153
        replace q153 := eq_true q153
        go_wp2
        repeat (go_quiet (fail); try go_wp2)
        go_roundg k3
        case measure => have := HJ2.out; have := HK2.out; have := HK3.out; omega
        case rel => exact ⟨(wrap64 (x6_3 + 1)), q8y4, H', ⟨by have := HJ2.out; have := HK2.out; have := HK3.out; omega⟩, ⟨by (with_reducible repeat (first | refine blk_drewN ?_ _ | refine blk_drew ?_ | refine blk_alloc ?_ _)); exact BK148.out⟩, ⟨by (with_reducible repeat (first | refine blk_drewN ?_ _ | refine blk_drew ?_ | refine blk_alloc ?_ _)); exact BK149.out⟩, ⟨by repeat (first | (with_reducible first | exact HB.out | apply below_alloc | apply pw_below_drewN | apply below_drew1 | refine below_set ?_ GE148.out | refine below_set ?_ GE149.out) | exact HB.out)⟩⟩
       rw [if_neg c62] at H
       have c62b0 : decide (x6_3 < (l0_9.length : Int)) = false := decide_eq_false c62
       clear c62
       have H' := Aside0.mk H
       clear H
       have hnb72 := NB148_149.out
       have hnc72 := NB149_148.out
       obtain ⟨hcz73_0, hcz73_1, hcz73_2, hcz73_3, hcz73_4, hcz73_5, hcz73_6, hcz73_7, hcz73_8, hcz73_9, hcz73_10, hfz73_0, hfz73_1, hfz73_2, hfz73_3, hfz73_4, hfz73_5, hfz73_6, hfz73_7, hfz73_8, hfz73_9, hfz73_10⟩ := q8cb11 BK148.out
       go_wp2
       repeat (go_quiet (fail); try go_wp2)
       go_loopg [7] k3 (fun kq v7 w' => ∃ (x7_4 : Int), v7 = .int .i64 x7_4 ∧ Aside0 (cambiumref16_Same.l2 kq x7_4 a0_0 a0_1 a0_2 a0_3 a0_4 a0_5 a0_6 a0_7 l0_8 l0_9 l0_10 a1_0 a1_1 a1_2 a1_3 a1_4 a1_5 a1_6 a1_7 l1_8 l1_9 l1_10 = some r) ∧ Aside0 (kq ≤ k3) ∧ Aside0 (w'.heap[gb148]? = some (.cells #[.int .u64 a0_0, .int .u64 a0_1, .int .u64 a0_2, .string a0_3, .string a0_4, .int .i64 a0_5, .int .i64 a0_6, .int .i64 a0_7, (.slice A0_8 l0_8.length c0_8), (.slice A0_9 l0_9.length c0_9), (.slice A0_10 l0_10.length c0_10)] 27 (0, 0))) ∧ Aside0 (w'.heap[gb149]? = some (.cells #[.int .u64 a1_0, .int .u64 a1_1, .int .u64 a1_2, .string a1_3, .string a1_4, .int .i64 a1_5, .int .i64 a1_6, .int .i64 a1_7, (.slice A1_8 l1_8.length c1_8), (.slice A1_9 l1_9.length c1_9), (.slice A1_10 l1_10.length c1_10)] 27 (0, 0))) ∧ Aside0 (Below w.heap.size w w'))
       case atStart => exact ⟨(0), q8y4, H', ⟨Nat.le_refl _⟩, ⟨by (with_reducible repeat (first | refine blk_drewN ?_ _ | refine blk_drew ?_ | refine blk_alloc ?_ _)); exact BK148.out⟩, ⟨by (with_reducible repeat (first | refine blk_drewN ?_ _ | refine blk_drew ?_ | refine blk_alloc ?_ _)); exact BK149.out⟩, ⟨by repeat (first | (with_reducible first | exact HB.out | apply below_alloc | apply pw_below_drewN | apply below_drew1 | refine below_set ?_ GE148.out | refine below_set ?_ GE149.out) | exact HB.out)⟩⟩
       case round =>
        clear H'
        try clear c1
        try clear p1
        try clear q1
        try clear hx1
        try clear p2
        try clear c6
        try clear p6
        try clear c7
        try clear p15
        try clear q15
        try clear hx15
        try clear c62
        try clear c62b0
        try clear c63
        try clear c63b0
        try clear c64
        try clear c64b0
        try clear p64
        try clear c65
        try clear c65b0
        try clear c66
        try clear c69
        try clear c72
        try clear hcz45_1 hcz45_10 hcz45_2 hcz45_3 hcz45_4 hcz45_5 hcz45_6 hcz45_7 hcz45_8 hcz45_9
        try clear hcz47_0 hcz47_1 hcz47_10 hcz47_2 hcz47_3 hcz47_4 hcz47_5 hcz47_6 hcz47_7 hcz47_8 hcz47_9
        try clear hcz48_0 hcz48_1 hcz48_10 hcz48_2 hcz48_3 hcz48_4 hcz48_5 hcz48_6 hcz48_7 hcz48_8 hcz48_9
        try clear hcz55_0 hcz55_1 hcz55_10 hcz55_2 hcz55_3 hcz55_4 hcz55_5 hcz55_6 hcz55_7 hcz55_8 hcz55_9
        try clear hcz56_0 hcz56_1 hcz56_10 hcz56_2 hcz56_3 hcz56_4 hcz56_5 hcz56_6 hcz56_7 hcz56_8 hcz56_9
        try clear hcz58_0 hcz58_1 hcz58_10 hcz58_2 hcz58_3 hcz58_4 hcz58_5 hcz58_6 hcz58_7 hcz58_8 hcz58_9
        try clear hcz59_0 hcz59_1 hcz59_10 hcz59_2 hcz59_3 hcz59_4 hcz59_5 hcz59_6 hcz59_7 hcz59_8 hcz59_9
        try clear hcz61_0 hcz61_1 hcz61_10 hcz61_2 hcz61_3 hcz61_4 hcz61_5 hcz61_6 hcz61_7 hcz61_8 hcz61_9
        try clear hcz67_0 hcz67_1 hcz67_10 hcz67_2 hcz67_3 hcz67_4 hcz67_5 hcz67_6 hcz67_7 hcz67_8 hcz67_9
        try clear hcz68_0 hcz68_1 hcz68_10 hcz68_2 hcz68_3 hcz68_4 hcz68_5 hcz68_6 hcz68_7 hcz68_8 hcz68_9
        try clear hcz70_0 hcz70_1 hcz70_10 hcz70_2 hcz70_3 hcz70_4 hcz70_5 hcz70_6 hcz70_7 hcz70_8 hcz70_9
        try clear hcz71_0 hcz71_1 hcz71_10 hcz71_2 hcz71_3 hcz71_4 hcz71_5 hcz71_6 hcz71_7 hcz71_8 hcz71_9
        try clear hcz73_0 hcz73_1 hcz73_10 hcz73_2 hcz73_3 hcz73_4 hcz73_5 hcz73_6 hcz73_7 hcz73_8 hcz73_9
        try clear hfz17_0 hfz17_1 hfz17_10 hfz17_2 hfz17_3 hfz17_4 hfz17_5 hfz17_6 hfz17_7 hfz17_8 hfz17_9
        try clear hfz18_0 hfz18_1 hfz18_10 hfz18_2 hfz18_3 hfz18_4 hfz18_5 hfz18_6 hfz18_7 hfz18_8 hfz18_9
        try clear hfz20_0 hfz20_1 hfz20_10 hfz20_2 hfz20_3 hfz20_4 hfz20_5 hfz20_6 hfz20_7 hfz20_8 hfz20_9
        try clear hfz21_0 hfz21_1 hfz21_10 hfz21_2 hfz21_3 hfz21_4 hfz21_5 hfz21_6 hfz21_7 hfz21_8 hfz21_9
        try clear hfz23_0 hfz23_1 hfz23_10 hfz23_2 hfz23_3 hfz23_4 hfz23_5 hfz23_6 hfz23_7 hfz23_8 hfz23_9
        try clear hfz24_0 hfz24_1 hfz24_10 hfz24_2 hfz24_3 hfz24_4 hfz24_5 hfz24_6 hfz24_7 hfz24_8 hfz24_9
        try clear hfz26_0 hfz26_1 hfz26_10 hfz26_2 hfz26_3 hfz26_4 hfz26_5 hfz26_6 hfz26_7 hfz26_8 hfz26_9
        try clear hfz27_0 hfz27_1 hfz27_10 hfz27_2 hfz27_3 hfz27_4 hfz27_5 hfz27_6 hfz27_7 hfz27_8 hfz27_9
        try clear hfz29_0 hfz29_1 hfz29_10 hfz29_2 hfz29_3 hfz29_4 hfz29_5 hfz29_6 hfz29_7 hfz29_8 hfz29_9
        try clear hfz30_0 hfz30_1 hfz30_10 hfz30_2 hfz30_3 hfz30_4 hfz30_5 hfz30_6 hfz30_7 hfz30_8 hfz30_9
        try clear hfz32_0 hfz32_1 hfz32_10 hfz32_2 hfz32_3 hfz32_4 hfz32_5 hfz32_6 hfz32_7 hfz32_8 hfz32_9
        try clear hfz33_0 hfz33_1 hfz33_10 hfz33_2 hfz33_3 hfz33_4 hfz33_5 hfz33_6 hfz33_7 hfz33_8 hfz33_9
        try clear hfz35_0 hfz35_1 hfz35_10 hfz35_2 hfz35_3 hfz35_4 hfz35_5 hfz35_6 hfz35_7 hfz35_8 hfz35_9
        try clear hfz36_0 hfz36_1 hfz36_10 hfz36_2 hfz36_3 hfz36_4 hfz36_5 hfz36_6 hfz36_7 hfz36_8 hfz36_9
        try clear hfz38_0 hfz38_1 hfz38_10 hfz38_2 hfz38_3 hfz38_4 hfz38_5 hfz38_6 hfz38_7 hfz38_8 hfz38_9
        try clear hfz39_0 hfz39_1 hfz39_10 hfz39_2 hfz39_3 hfz39_4 hfz39_5 hfz39_6 hfz39_7 hfz39_8 hfz39_9
        try clear hfz41_0 hfz41_1 hfz41_10 hfz41_2 hfz41_3 hfz41_4 hfz41_5 hfz41_6 hfz41_7 hfz41_8 hfz41_9
        try clear hfz42_0 hfz42_1 hfz42_10 hfz42_2 hfz42_3 hfz42_4 hfz42_5 hfz42_6 hfz42_7 hfz42_8 hfz42_9
        try clear hfz44_0 hfz44_1 hfz44_10 hfz44_2 hfz44_3 hfz44_4 hfz44_5 hfz44_6 hfz44_7 hfz44_8 hfz44_9
        try clear hfz45_0 hfz45_1 hfz45_10 hfz45_2 hfz45_3 hfz45_4 hfz45_5 hfz45_6 hfz45_7 hfz45_8 hfz45_9
        try clear hfz47_0 hfz47_1 hfz47_10 hfz47_2 hfz47_3 hfz47_4 hfz47_5 hfz47_6 hfz47_7 hfz47_8 hfz47_9
        try clear hfz48_0 hfz48_1 hfz48_10 hfz48_2 hfz48_3 hfz48_4 hfz48_5 hfz48_6 hfz48_7 hfz48_8 hfz48_9
        try clear hfz55_0 hfz55_1 hfz55_10 hfz55_2 hfz55_3 hfz55_4 hfz55_5 hfz55_6 hfz55_7 hfz55_8 hfz55_9
        try clear hfz56_0 hfz56_1 hfz56_10 hfz56_2 hfz56_3 hfz56_4 hfz56_5 hfz56_6 hfz56_7 hfz56_8 hfz56_9
        try clear hfz58_0 hfz58_1 hfz58_10 hfz58_2 hfz58_3 hfz58_4 hfz58_5 hfz58_6 hfz58_7 hfz58_8 hfz58_9
        try clear hfz59_0 hfz59_1 hfz59_10 hfz59_2 hfz59_3 hfz59_4 hfz59_5 hfz59_6 hfz59_7 hfz59_8 hfz59_9
        try clear hfz61_0 hfz61_1 hfz61_10 hfz61_2 hfz61_3 hfz61_4 hfz61_5 hfz61_6 hfz61_7 hfz61_8 hfz61_9
        try clear hfz67_0 hfz67_1 hfz67_10 hfz67_2 hfz67_3 hfz67_4 hfz67_5 hfz67_6 hfz67_7 hfz67_8 hfz67_9
        try clear hfz68_0 hfz68_1 hfz68_10 hfz68_2 hfz68_3 hfz68_4 hfz68_5 hfz68_6 hfz68_7 hfz68_8 hfz68_9
        try clear hfz70_0 hfz70_1 hfz70_10 hfz70_2 hfz70_3 hfz70_4 hfz70_5 hfz70_6 hfz70_7 hfz70_8 hfz70_9
        try clear hfz71_0 hfz71_1 hfz71_10 hfz71_2 hfz71_3 hfz71_4 hfz71_5 hfz71_6 hfz71_7 hfz71_8 hfz71_9
        try clear hfz73_0 hfz73_1 hfz73_10 hfz73_2 hfz73_3 hfz73_4 hfz73_5 hfz73_6 hfz73_7 hfz73_8 hfz73_9
        try clear hx150_0
        try clear hx150_1
        try clear hx150_2
        try clear hx150_3
        try clear hx150_4
        try clear hx151_0
        try clear hx151_1
        try clear hx151_2
        try clear hx151_3
        try clear hx151_4
        try clear hx152_0
        try clear hx152_1
        try clear hx153_0
        try clear hx153_1
        try clear p150
        try clear p151
        try clear p152
        try clear p153
        try clear p2
        try clear q150
        try clear q151
        try clear q152
        try clear q153
        obtain ⟨x7_4, rfl, HA, HK4, BK148, BK149, HB⟩ := hrel
        cases gk with
        | zero => exact absurd HA.out (by simp [cambiumref16_Same.l2])
        | succ k4 =>
         have H := HA.out
         clear HA
         simp only [cambiumref16_Same.l2] at H
         by_cases c74 : x7_4 < (l0_10.length : Int)
         rotate_left
         ·rw [if_neg c74] at H
          have c74b0 : decide (x7_4 < (l0_10.length : Int)) = false := decide_eq_false c74
          clear c74
          obtain rfl := Option.some.inj H
          have hnb84 := NB148_149.out
          have hnc84 := NB149_148.out
          obtain ⟨hcz85_0, hcz85_1, hcz85_2, hcz85_3, hcz85_4, hcz85_5, hcz85_6, hcz85_7, hcz85_8, hcz85_9, hcz85_10, hfz85_0, hfz85_1, hfz85_2, hfz85_3, hfz85_4, hfz85_5, hfz85_6, hfz85_7, hfz85_8, hfz85_9, hfz85_10⟩ := q8cb11 BK148.out
          go_wp2
          repeat (go_quiet (fail); try go_wp2)
          go_ret
          exact ⟨by first | rfl | (simp [errW_none, errW_some] <;> rfl) | (simp [*, errW_none, errW_some] <;> rfl), by repeat (first | (with_reducible first | exact HB.out | apply below_alloc | apply pw_below_drewN | apply below_drew1 | refine below_set ?_ GE148.out | refine below_set ?_ GE149.out) | exact HB.out)⟩

         rw [if_pos c74] at H
         have c74b0 : decide (x7_4 < (l0_10.length : Int)) = true := decide_eq_true c74
         clear c74
         by_cases c75 : 0 ≤ x7_4
         rotate_left
         ·rw [if_neg c75] at H
          exact absurd H (by simp)
         rw [if_pos c75] at H
         have c75b0 : decide (0 ≤ x7_4) = true := decide_eq_true c75
         clear c75
         by_cases c76 : x7_4 < (l1_10.length : Int)
         rotate_left
         ·rw [if_neg c76] at H
          exact absurd H (by simp)
         rw [if_pos c76] at H
         have c76b0 : decide (x7_4 < (l1_10.length : Int)) = true := decide_eq_true c76
         clear c76
         by_cases c77 : (!(((rd_T68 l0_10 x7_4).f0) == ((rd_T68 l1_10 x7_4).f0)) || (!(((rd_T68 l0_10 x7_4).f1) == ((rd_T68 l1_10 x7_4).f1)))) = true
         ·rw [if_pos c77] at H
          have c77b0 : (!(((rd_T68 l0_10 x7_4).f0) == ((rd_T68 l1_10 x7_4).f0)) || (!(((rd_T68 l0_10 x7_4).f1) == ((rd_T68 l1_10 x7_4).f1)))) = true := c77
          clear c77
          obtain rfl := Option.some.inj H
          have hnb78 := NB148_149.out
          have hnc78 := NB149_148.out
          obtain ⟨hcz79_0, hcz79_1, hcz79_2, hcz79_3, hcz79_4, hcz79_5, hcz79_6, hcz79_7, hcz79_8, hcz79_9, hcz79_10, hfz79_0, hfz79_1, hfz79_2, hfz79_3, hfz79_4, hfz79_5, hfz79_6, hfz79_7, hfz79_8, hfz79_9, hfz79_10⟩ := q8cb11 BK148.out
          have p154 : 0 ≤ (x7_4 : Int) := of_decide_eq_true q8y1
          have q154 : x7_4 < (l0_10.length : Int) := of_decide_eq_true q8y1
          obtain ⟨ad154, e154, hx154_0, hx154_1⟩ := at_T68 HR0_10.out x7_4 p154 q154
          cases e154
          replace hx154_0 := (HB.out.cell (World.block_lt_of_cell? w _ hx154_0)).trans hx154_0
          replace hx154_1 := (HB.out.cell (World.block_lt_of_cell? w _ hx154_1)).trans hx154_1
          replace p154 := eq_true p154
          replace q154 := eq_true q154
          obtain ⟨hcz80_0, hcz80_1, hcz80_2, hcz80_3, hcz80_4, hcz80_5, hcz80_6, hcz80_7, hcz80_8, hcz80_9, hcz80_10, hfz80_0, hfz80_1, hfz80_2, hfz80_3, hfz80_4, hfz80_5, hfz80_6, hfz80_7, hfz80_8, hfz80_9, hfz80_10⟩ := q8cb11 BK149.out
          have p155 : 0 ≤ (x7_4 : Int) := of_decide_eq_true q8y1
          have q155 : x7_4 < (l1_10.length : Int) := of_decide_eq_true q8y1
          obtain ⟨ad155, e155, hx155_0, hx155_1⟩ := at_T68 HR1_10.out x7_4 p155 q155
          cases e155
          replace hx155_0 := (HB.out.cell (World.block_lt_of_cell? w _ hx155_0)).trans hx155_0
          replace hx155_1 := (HB.out.cell (World.block_lt_of_cell? w _ hx155_1)).trans hx155_1
          replace p155 := eq_true p155
          replace q155 := eq_true q155
          go_wp2
          repeat (go_quiet (fail); try go_wp2)
          go_ret
          exact ⟨by first | rfl | (simp [errW_none, errW_some] <;> rfl) | (simp [*, errW_none, errW_some] <;> rfl), by repeat (first | (with_reducible first | exact HB.out | apply below_alloc | apply pw_below_drewN | apply below_drew1 | refine below_set ?_ GE148.out | refine below_set ?_ GE149.out) | exact HB.out)⟩
         rw [if_neg c77] at H
         have c77b0 : (!(((rd_T68 l0_10 x7_4).f0) == ((rd_T68 l1_10 x7_4).f0)) || (!(((rd_T68 l0_10 x7_4).f1) == ((rd_T68 l1_10 x7_4).f1)))) = false := by simpa using c77
         clear c77
         have H' := Aside0.mk H
         clear H
         have hnb81 := NB148_149.out
         have hnc81 := NB149_148.out
         obtain ⟨hcz82_0, hcz82_1, hcz82_2, hcz82_3, hcz82_4, hcz82_5, hcz82_6, hcz82_7, hcz82_8, hcz82_9, hcz82_10, hfz82_0, hfz82_1, hfz82_2, hfz82_3, hfz82_4, hfz82_5, hfz82_6, hfz82_7, hfz82_8, hfz82_9, hfz82_10⟩ := q8cb11 BK148.out
         have p154 : 0 ≤ (x7_4 : Int) := of_decide_eq_true q8y1
         have q154 : x7_4 < (l0_10.length : Int) := of_decide_eq_true q8y1
         obtain ⟨ad154, e154, hx154_0, hx154_1⟩ := at_T68 HR0_10.out x7_4 p154 q154
         cases e154
         replace hx154_0 := (HB.out.cell (World.block_lt_of_cell? w _ hx154_0)).trans hx154_0
         replace hx154_1 := (HB.out.cell (World.block_lt_of_cell? w _ hx154_1)).trans hx154_1
         replace p154 := eq_true p154
         replace q154 := eq_true q154
         obtain ⟨hcz83_0, hcz83_1, hcz83_2, hcz83_3, hcz83_4, hcz83_5, hcz83_6, hcz83_7, hcz83_8, hcz83_9, hcz83_10, hfz83_0, hfz83_1, hfz83_2, hfz83_3, hfz83_4, hfz83_5, hfz83_6, hfz83_7, hfz83_8, hfz83_9, hfz83_10⟩ := q8cb11 BK149.out
         have p155 : 0 ≤ (x7_4 : Int) := of_decide_eq_true q8y1
         have q155 : x7_4 < (l1_10.length : Int) := of_decide_eq_true q8y1
         obtain ⟨ad155, e155, hx155_0, hx155_1⟩ := at_T68 HR1_10.out x7_4 p155 q155
         cases e155
         replace hx155_0 := (HB.out.cell (World.block_lt_of_cell? w _ hx155_0)).trans hx155_0
         replace hx155_1 := (HB.out.cell (World.block_lt_of_cell? w _ hx155_1)).trans hx155_1
         replace p155 := eq_true p155
         replace q155 := eq_true q155
         go_wp2
         repeat (go_quiet (fail); try go_wp2)
         go_roundg k4
         case measure => have := HJ2.out; have := HK2.out; have := HK3.out; have := HK4.out; omega
         case rel => exact ⟨(wrap64 (x7_4 + 1)), q8y4, H', ⟨by have := HJ2.out; have := HK2.out; have := HK3.out; have := HK4.out; omega⟩, ⟨by (with_reducible repeat (first | refine blk_drewN ?_ _ | refine blk_drew ?_ | refine blk_alloc ?_ _)); exact BK148.out⟩, ⟨by (with_reducible repeat (first | refine blk_drewN ?_ _ | refine blk_drew ?_ | refine blk_alloc ?_ _)); exact BK149.out⟩, ⟨by repeat (first | (with_reducible first | exact HB.out | apply below_alloc | apply pw_below_drewN | apply below_drew1 | refine below_set ?_ GE148.out | refine below_set ?_ GE149.out) | exact HB.out)⟩⟩
end Go.Proofs.YtkgpnfjmahjlcaaDoor.PAll
