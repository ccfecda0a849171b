-- Written by a program: the kit's print.py, driven for several laws at once. Not trusted: Lean checks it.
import Derived.Test.YtkgpnfjmahjlcaaDoorPAllx0
import Derived.Test.YtkgpnfjmahjlcaaDoorPAllx13
import Derived.Test.YtkgpnfjmahjlcaaDoorPAllx14
import Derived.Test.YtkgpnfjmahjlcaaDoorWiCut
namespace Go.Proofs.YtkgpnfjmahjlcaaDoor.PAll
open Go.RowKit Go.Proofs.YtkgpnfjmahjlcaaDoorW.PrintWords Go.Proofs.YtkgpnfjmahjlcaaDoorW.PrintLast Go.Proofs.YtkgpnfjmahjlcaaDoorW.PrintMore
attribute [local go_sem] max2_int min2_int max_two min_two max_three min_three max_four min_four   -- for this text's walks alone
set_option linter.unusedVariables false
set_option linter.unusedSimpArgs false

/-! ### cambiumref16_May: function 13 -/
theorem q15cb11 {w : World} {g : Nat} {t : TypeId} {x0 x1 x2 x3 x4 x5 x6 x7 x8 x9 x10 : Value} (h : w.heap[g]? = some (.cells #[x0, x1, x2, x3, x4, x5, x6, x7, x8, x9, x10] t (0, 0))) : w.cell? ⟨g, 0, none⟩ = some x0 ∧ w.cell? ⟨g, 1, none⟩ = some x1 ∧ w.cell? ⟨g, 2, none⟩ = some x2 ∧ w.cell? ⟨g, 3, none⟩ = some x3 ∧ w.cell? ⟨g, 4, none⟩ = some x4 ∧ w.cell? ⟨g, 5, none⟩ = some x5 ∧ w.cell? ⟨g, 6, none⟩ = some x6 ∧ w.cell? ⟨g, 7, none⟩ = some x7 ∧ w.cell? ⟨g, 8, none⟩ = some x8 ∧ w.cell? ⟨g, 9, none⟩ = some x9 ∧ w.cell? ⟨g, 10, none⟩ = some x10 ∧ w.frozen? ⟨g, 0, none⟩ = false ∧ w.frozen? ⟨g, 1, none⟩ = false ∧ w.frozen? ⟨g, 2, none⟩ = false ∧ w.frozen? ⟨g, 3, none⟩ = false ∧ w.frozen? ⟨g, 4, none⟩ = false ∧ w.frozen? ⟨g, 5, none⟩ = false ∧ w.frozen? ⟨g, 6, none⟩ = false ∧ w.frozen? ⟨g, 7, none⟩ = false ∧ w.frozen? ⟨g, 8, none⟩ = false ∧ w.frozen? ⟨g, 9, none⟩ = false ∧ w.frozen? ⟨g, 10, none⟩ = false :=
  ⟨(blk_cell h 0).trans rfl, (blk_cell h 1).trans rfl, (blk_cell h 2).trans rfl, (blk_cell h 3).trans rfl, (blk_cell h 4).trans rfl, (blk_cell h 5).trans rfl, (blk_cell h 6).trans rfl, (blk_cell h 7).trans rfl, (blk_cell h 8).trans rfl, (blk_cell h 9).trans rfl, (blk_cell h 10).trans rfl, blk_frozen h 0, blk_frozen h 1, blk_frozen h 2, blk_frozen h 3, blk_frozen h 4, blk_frozen h 5, blk_frozen h 6, blk_frozen h 7, blk_frozen h 8, blk_frozen h 9, blk_frozen h 10⟩
def q15m (n m : Nat) : Array Bool := ((List.range n).map (Nat.testBit m)).toArray
theorem q15a {α : Type} (xs : List α) (i : Nat) (x : α) : xs.toArray.setIfInBounds i x = (xs.set i x).toArray := List.setIfInBounds_toArray ..
theorem q15b {α : Type} (x y : α) (xs : List α) : (x :: xs).set 0 y = y :: xs := List.set_cons_zero ..
theorem q15c {α : Type} (x y : α) (xs : List α) (n : Nat) : (x :: xs).set (n + 1) y = x :: xs.set n y := List.set_cons_succ ..
theorem q15h {w w' : World} {p : Addr} {v : Value} (h : Below w.heap.size w w') (x : w.cell? p = some v) : w'.cell? p = some v := (h.cell (World.block_lt_of_cell? w _ x)).trans x
theorem q15p {P : Program} {md : Region.Mode} {ops : Array Oper} {Q : Exit → Act → World → Prop} {S : World → Prop} {ds : List Nat} {T : Bool × List (List Nat × List Nat)} {i : Nat} {N : Option Tmp} {oi : Oper} {v : Value} {fuel : Nat} {l : Array Bool} {a : Act} {w : World} (l' : Array Bool) (hT : rtab md ops = T) {a' : Act}
    (h : wpAnyLast P md ops Q S ds fuel l' a' w) (hi : ops[i]? = some oi := by rfl) (hN : oi.dst = N := by rfl) (hc : anyT T l.toList l'.toList i = true := by kernel_rfl) (hQ : ∀ c a w, Q (.panic c) (a.put oi.dst v) w → Q (.panic c) a w := by exact fun _ _ _ h => h)
    (hw : Region.wanted oi (yielded ops a.tmps) = true := by rfl) (hy : ∀ w', (execOp a.eval oi).run P w' = .ok (.value v) w' := by intro w'; go_simp; with_reducible rfl) (ha : a.put N v = a' := by simp only [Act.put, q15a, q15b, q15c, i64_w, i32_w]; rfl) :
    wpAnyLast P md ops Q S ds (fuel + 1) l a w := pure_ l' hi hN (any_of hT hc) hQ (Or.inl ⟨hw, hy⟩) ha h
theorem q15u {P : Program} {md : Region.Mode} {ops : Array Oper} {Q : Exit → Act → World → Prop} {S : World → Prop} {ds : List Nat} {T : Bool × List (List Nat × List Nat)} {i : Nat} {N : Option Tmp} {oi : Oper} {fuel : Nat} {l : Array Bool} {a : Act} {w : World} (l' : Array Bool) (hT : rtab md ops = T) {a' : Act}
    (h : wpAnyLast P md ops Q S ds fuel l' a' w) (hi : ops[i]? = some oi := by rfl) (hN : oi.dst = N := by rfl) (hc : anyT T l.toList l'.toList i = true := by kernel_rfl) (hQ : ∀ c a w, Q (.panic c) (a.put oi.dst undef) w → Q (.panic c) a w := by exact fun _ _ _ h => h)
    (hw : Region.wanted oi (yielded ops a.tmps) = false := by rfl) (ha : a.put N undef = a' := by simp only [Act.put, q15a, q15b, q15c, i64_w, i32_w]; rfl) :
    wpAnyLast P md ops Q S ds (fuel + 1) l a w := pure_ l' hi hN (any_of hT hc) hQ (Or.inr ⟨hw, rfl⟩) ha h
theorem q15k {w : World} {g : Nat} {cs : Array Value} {t : TypeId} (h : w.heap[g]? = some (.cells cs t (0, 0))) (i : Nat) {v : Value} (e : cs[i]? = some v := by rfl) : w.cell? ⟨g, i, none⟩ = some v := (blk_cell h i).trans e
theorem q15y0 {P : Prop} (h : P := by repeat (first | (with_reducible first | exact HB.out | apply below_alloc | apply pw_below_drewN | apply below_drew1 | refine below_set ?_ GE217.out) | exact HB.out)) : P := h
theorem q15y1 {P : Prop} (h : P := by (with_reducible repeat (first | refine blk_drewN ?_ _ | refine blk_drew ?_ | refine blk_alloc ?_ _)); exact BK217.out) : P := h
theorem q15y2 {P : Prop} (h : P := by first | (with_reducible assumption) | assumption) : P := h
theorem q15y3 {P : Prop} (h : P := by (try simp only [List.map_toArray, List.map_cons, List.map_nil]); first | done | rfl | (simp only [List.length_drop, List.length_take]; rfl)) : P := h
theorem q15y4 {P : Prop} (h : P := by first | rfl | (simp; done) | (simp [*]; done)) : P := h
theorem q15y5 {P : Prop} (h : P := by (with_reducible repeat (first | apply Kd.V_alloc | apply Kd.V_drewN | apply Kd.V_drew)); exact HO233.out) : P := h
theorem q15y6 {P : Prop} (h : P := by (with_reducible repeat (first | apply Kd.V_alloc | apply Kd.V_drewN | apply Kd.V_drew)); exact HO229.out) : P := h
theorem q15y7 {P : Prop} (h : P := by repeat (first | (with_reducible first | exact HB.out | apply below_alloc | apply pw_below_drewN | apply below_drew1) | exact HB.out)) : P := h
theorem q15y8 {P : Prop} (h : P := by first | decide | exact of_decide_eq_true q15y2) : P := h

mutual
def cambiumref16_May.j0 : Nat → Bool → Int → Int → Int → ByteArray → ByteArray → Int → Int → Int → List (S53) → List (S55) → List (S68) → Option (Bool)
 | 0, _, _, _, _, _, _, _, _, _, _, _, _ => none
 | k + 1, x54, x218000, x218001, x218002, x218003, x218004, x218005, x218006, x218007, x218008, x218009, x218010 => if x54 = true then (some false) else (if (x218008.length : Int) > 16 then (cambiumref16_May.j1 k true x218000 x218001 x218002 x218003 x218004 x218005 x218006 x218007 x218008 x218009 x218010) else (if (x218009.length : Int) > 16 then (cambiumref16_May.j1 k true x218000 x218001 x218002 x218003 x218004 x218005 x218006 x218007 x218008 x218009 x218010) else (cambiumref16_May.j1 k (decide ((x218010.length : Int) > 16)) x218000 x218001 x218002 x218003 x218004 x218005 x218006 x218007 x218008 x218009 x218010)))
def cambiumref16_May.j1 : Nat → Bool → Int → Int → Int → ByteArray → ByteArray → Int → Int → Int → List (S53) → List (S55) → List (S68) → Option (Bool)
 | 0, _, _, _, _, _, _, _, _, _, _, _, _ => none
 | k + 1, x70, x218000, x218001, x218002, x218003, x218004, x218005, x218006, x218007, x218008, x218009, x218010 => if x70 = true then (some false) else (cambiumref16_May.l0 k 0 x218000 x218001 x218002 x218003 x218004 x218005 x218006 x218007 x218008 x218009 x218010)
def cambiumref16_May.l0 : Nat → Int → Int → Int → Int → ByteArray → ByteArray → Int → Int → Int → List (S53) → List (S55) → List (S68) → Option (Bool)
 | 0, _, _, _, _, _, _, _, _, _, _, _, _ => none
 | k + 1, x3, x218000, x218001, x218002, x218003, x218004, x218005, x218006, x218007, x218008, x218009, x218010 => if x3 < (x218008.length : Int) then (if 0 ≤ x3 then ((cambiumref16_Name.f k ((rd_T53 x218008 x3).f0)).bind fun t223 => (if t223 = true then ((cambiumref16_Value.f k ((rd_T53 x218008 x3).f1.f0) ((rd_T53 x218008 x3).f1.f1) ((rd_T53 x218008 x3).f1.f2) ((rd_T53 x218008 x3).f1.f3)).bind fun t225 => (if t225 = true then (if x3 > 0 then (if 0 ≤ (wrap64 (x3 - 1)) then (if (wrap64 (x3 - 1)) < (x218008.length : Int) then (if (((rd_T53 x218008 (wrap64 (x3 - 1))).f0).size : Int) ≤ 140737488355328 then (if (((rd_T53 x218008 x3).f0).size : Int) ≤ 140737488355328 then ((cambiumref01_Less.f k (bytesOf ((rd_T53 x218008 (wrap64 (x3 - 1))).f0)) (bytesOf ((rd_T53 x218008 x3).f0))).bind fun t234 => (if t234 = true then (cambiumref16_May.l0 k (wrap64 (x3 + 1)) x218000 x218001 x218002 x218003 x218004 x218005 x218006 x218007 x218008 x218009 x218010) else (some false))) else (none)) else (none)) else (none)) else (none)) else (cambiumref16_May.l0 k (wrap64 (x3 + 1)) x218000 x218001 x218002 x218003 x218004 x218005 x218006 x218007 x218008 x218009 x218010)) else (some false))) else (some false))) else (none)) else (cambiumref16_May.l1 k 0 x218000 x218001 x218002 x218003 x218004 x218005 x218006 x218007 x218008 x218009 x218010)
def cambiumref16_May.l1 : Nat → Int → Int → Int → Int → ByteArray → ByteArray → Int → Int → Int → List (S53) → List (S55) → List (S68) → Option (Bool)
 | 0, _, _, _, _, _, _, _, _, _, _, _, _ => none
 | k + 1, x4, x218000, x218001, x218002, x218003, x218004, x218005, x218006, x218007, x218008, x218009, x218010 => if x4 < (x218009.length : Int) then (if 0 ≤ x4 then ((cambiumref16_time.f ((rd_T55 x218009 x4).f0)).bind fun t236 => (if t236 = true then ((cambiumref16_Name.f k ((rd_T55 x218009 x4).f1)).bind fun t238 => (if t238 = true then (cambiumref16_May.l1 k (wrap64 (x4 + 1)) x218000 x218001 x218002 x218003 x218004 x218005 x218006 x218007 x218008 x218009 x218010) else (some false))) else (some false))) else (none)) else (cambiumref16_May.l2 k 0 x218000 x218001 x218002 x218003 x218004 x218005 x218006 x218007 x218008 x218009 x218010)
def cambiumref16_May.l2 : Nat → Int → Int → Int → Int → ByteArray → ByteArray → Int → Int → Int → List (S53) → List (S55) → List (S68) → Option (Bool)
 | 0, _, _, _, _, _, _, _, _, _, _, _, _ => none
 | k + 1, x5, x218000, x218001, x218002, x218003, x218004, x218005, x218006, x218007, x218008, x218009, x218010 => if x5 < (x218010.length : Int) then (if 0 ≤ x5 then (if ((rd_T68 x218010 x5).f0) = 0 then (some false) else (if ((rd_T68 x218010 x5).f1) = 0 then (some false) else (cambiumref16_May.l2 k (wrap64 (x5 + 1)) x218000 x218001 x218002 x218003 x218004 x218005 x218006 x218007 x218008 x218009 x218010))) else (none)) else (some true)
end
def cambiumref16_May.f (k : Nat) (a0_0 : Int) (a0_1 : Int) (a0_2 : Int) (a0_3 : ByteArray) (a0_4 : ByteArray) (a0_5 : Int) (a0_6 : Int) (a0_7 : Int) (l0_8 : List (S53)) (l0_9 : List (S55)) (l0_10 : List (S68)) : Option (Bool) := if a0_0 = 0 then (cambiumref16_May.j0 k true a0_0 a0_1 a0_2 a0_3 a0_4 a0_5 a0_6 a0_7 l0_8 l0_9 l0_10) else (if a0_1 = 0 then (cambiumref16_May.j0 k true a0_0 a0_1 a0_2 a0_3 a0_4 a0_5 a0_6 a0_7 l0_8 l0_9 l0_10) else (if a0_2 = a0_1 then (cambiumref16_May.j0 k true a0_0 a0_1 a0_2 a0_3 a0_4 a0_5 a0_6 a0_7 l0_8 l0_9 l0_10) else ((cambiumref16_Name.f k a0_3).bind fun t218 => (if t218 = true then ((cambiumref16_Name.f k a0_4).bind fun t219 => (if t219 = true then ((cambiumref16_time.f a0_5).bind fun t220 => (if t220 = true then ((cambiumref16_time.f a0_6).bind fun t221 => (if t221 = true then (if a0_7 < 0 then (cambiumref16_May.j0 k true a0_0 a0_1 a0_2 a0_3 a0_4 a0_5 a0_6 a0_7 l0_8 l0_9 l0_10) else (cambiumref16_May.j0 k (decide (a0_7 > 2)) a0_0 a0_1 a0_2 a0_3 a0_4 a0_5 a0_6 a0_7 l0_8 l0_9 l0_10)) else (cambiumref16_May.j0 k true a0_0 a0_1 a0_2 a0_3 a0_4 a0_5 a0_6 a0_7 l0_8 l0_9 l0_10))) else (cambiumref16_May.j0 k true a0_0 a0_1 a0_2 a0_3 a0_4 a0_5 a0_6 a0_7 l0_8 l0_9 l0_10))) else (cambiumref16_May.j0 k true a0_0 a0_1 a0_2 a0_3 a0_4 a0_5 a0_6 a0_7 l0_8 l0_9 l0_10))) else (cambiumref16_May.j0 k true a0_0 a0_1 a0_2 a0_3 a0_4 a0_5 a0_6 a0_7 l0_8 l0_9 l0_10)))))
theorem cambiumref16_May.mono_l : ∀ k, (∀ y0 y1 y2 y3 y4 y5 y6 y7 y8 y9 y10 y11, LeO (cambiumref16_May.j0 k y0 y1 y2 y3 y4 y5 y6 y7 y8 y9 y10 y11) (cambiumref16_May.j0 (k + 1) y0 y1 y2 y3 y4 y5 y6 y7 y8 y9 y10 y11)) ∧ (∀ y0 y1 y2 y3 y4 y5 y6 y7 y8 y9 y10 y11, LeO (cambiumref16_May.j1 k y0 y1 y2 y3 y4 y5 y6 y7 y8 y9 y10 y11) (cambiumref16_May.j1 (k + 1) y0 y1 y2 y3 y4 y5 y6 y7 y8 y9 y10 y11)) ∧ (∀ y0 y1 y2 y3 y4 y5 y6 y7 y8 y9 y10 y11, LeO (cambiumref16_May.l0 k y0 y1 y2 y3 y4 y5 y6 y7 y8 y9 y10 y11) (cambiumref16_May.l0 (k + 1) y0 y1 y2 y3 y4 y5 y6 y7 y8 y9 y10 y11)) ∧ (∀ y0 y1 y2 y3 y4 y5 y6 y7 y8 y9 y10 y11, LeO (cambiumref16_May.l1 k y0 y1 y2 y3 y4 y5 y6 y7 y8 y9 y10 y11) (cambiumref16_May.l1 (k + 1) y0 y1 y2 y3 y4 y5 y6 y7 y8 y9 y10 y11)) ∧ (∀ y0 y1 y2 y3 y4 y5 y6 y7 y8 y9 y10 y11, LeO (cambiumref16_May.l2 k y0 y1 y2 y3 y4 y5 y6 y7 y8 y9 y10 y11) (cambiumref16_May.l2 (k + 1) y0 y1 y2 y3 y4 y5 y6 y7 y8 y9 y10 y11))
 | 0 => ⟨fun _ _ _ _ _ _ _ _ _ _ _ _ r h => by simp [cambiumref16_May.j0] at h, fun _ _ _ _ _ _ _ _ _ _ _ _ r h => by simp [cambiumref16_May.j1] at h, fun _ _ _ _ _ _ _ _ _ _ _ _ r h => by simp [cambiumref16_May.l0] at h, fun _ _ _ _ _ _ _ _ _ _ _ _ r h => by simp [cambiumref16_May.l1] at h, fun _ _ _ _ _ _ _ _ _ _ _ _ r h => by simp [cambiumref16_May.l2] at h⟩
 | k + 1 => by
  obtain ⟨ih0, ih1, ih2, ih3, ih4⟩ := cambiumref16_May.mono_l k
  refine ⟨?_, ?_, ?_, ?_, ?_⟩
  ·intro y0 y1 y2 y3 y4 y5 y6 y7 y8 y9 y10 y11
   unfold cambiumref16_May.j0
   repeat' first
   | (with_reducible exact ih0 _ _ _ _ _ _ _ _ _ _ _ _)
   | (with_reducible exact ih1 _ _ _ _ _ _ _ _ _ _ _ _)
   | (with_reducible exact ih2 _ _ _ _ _ _ _ _ _ _ _ _)
   | (with_reducible exact ih3 _ _ _ _ _ _ _ _ _ _ _ _)
   | (with_reducible exact ih4 _ _ _ _ _ _ _ _ _ _ _ _)
   | (with_reducible exact cambiumref01_Less.mono _ _ _)
   | (with_reducible exact cambiumref16_Name.mono _ _)
   | (with_reducible exact cambiumref16_Value.mono _ _ _ _ _)
   | (with_reducible exact LeO.refl _)
   | (with_reducible exact LeO.none _)
   | (with_reducible refine LeO.ite ?_ ?_)
   | (with_reducible refine LeO.bind ?_ (fun _ => ?_))
   | exact ih0 _ _ _ _ _ _ _ _ _ _ _ _
   | exact ih1 _ _ _ _ _ _ _ _ _ _ _ _
   | exact ih2 _ _ _ _ _ _ _ _ _ _ _ _
   | exact ih3 _ _ _ _ _ _ _ _ _ _ _ _
   | exact ih4 _ _ _ _ _ _ _ _ _ _ _ _
   | exact cambiumref01_Less.mono _ _ _
   | exact cambiumref16_Name.mono _ _
   | exact cambiumref16_Value.mono _ _ _ _ _
   | exact LeO.none _
   | refine LeO.ite ?_ ?_
   | refine LeO.bind ?_ (fun _ => ?_)
  ·intro y0 y1 y2 y3 y4 y5 y6 y7 y8 y9 y10 y11
   unfold cambiumref16_May.j1
   repeat' first
   | (with_reducible exact ih0 _ _ _ _ _ _ _ _ _ _ _ _)
   | (with_reducible exact ih1 _ _ _ _ _ _ _ _ _ _ _ _)
   | (with_reducible exact ih2 _ _ _ _ _ _ _ _ _ _ _ _)
   | (with_reducible exact ih3 _ _ _ _ _ _ _ _ _ _ _ _)
   | (with_reducible exact ih4 _ _ _ _ _ _ _ _ _ _ _ _)
   | (with_reducible exact cambiumref01_Less.mono _ _ _)
   | (with_reducible exact cambiumref16_Name.mono _ _)
   | (with_reducible exact cambiumref16_Value.mono _ _ _ _ _)
   | (with_reducible exact LeO.refl _)
   | (with_reducible exact LeO.none _)
   | (with_reducible refine LeO.ite ?_ ?_)
   | (with_reducible refine LeO.bind ?_ (fun _ => ?_))
   | exact ih0 _ _ _ _ _ _ _ _ _ _ _ _
   | exact ih1 _ _ _ _ _ _ _ _ _ _ _ _
   | exact ih2 _ _ _ _ _ _ _ _ _ _ _ _
   | exact ih3 _ _ _ _ _ _ _ _ _ _ _ _
   | exact ih4 _ _ _ _ _ _ _ _ _ _ _ _
   | exact cambiumref01_Less.mono _ _ _
   | exact cambiumref16_Name.mono _ _
   | exact cambiumref16_Value.mono _ _ _ _ _
   | exact LeO.none _
   | refine LeO.ite ?_ ?_
   | refine LeO.bind ?_ (fun _ => ?_)
  ·intro y0 y1 y2 y3 y4 y5 y6 y7 y8 y9 y10 y11
   unfold cambiumref16_May.l0
   repeat' first
   | (with_reducible exact ih0 _ _ _ _ _ _ _ _ _ _ _ _)
   | (with_reducible exact ih1 _ _ _ _ _ _ _ _ _ _ _ _)
   | (with_reducible exact ih2 _ _ _ _ _ _ _ _ _ _ _ _)
   | (with_reducible exact ih3 _ _ _ _ _ _ _ _ _ _ _ _)
   | (with_reducible exact ih4 _ _ _ _ _ _ _ _ _ _ _ _)
   | (with_reducible exact cambiumref01_Less.mono _ _ _)
   | (with_reducible exact cambiumref16_Name.mono _ _)
   | (with_reducible exact cambiumref16_Value.mono _ _ _ _ _)
   | (with_reducible exact LeO.refl _)
   | (with_reducible exact LeO.none _)
   | (with_reducible refine LeO.ite ?_ ?_)
   | (with_reducible refine LeO.bind ?_ (fun _ => ?_))
   | exact ih0 _ _ _ _ _ _ _ _ _ _ _ _
   | exact ih1 _ _ _ _ _ _ _ _ _ _ _ _
   | exact ih2 _ _ _ _ _ _ _ _ _ _ _ _
   | exact ih3 _ _ _ _ _ _ _ _ _ _ _ _
   | exact ih4 _ _ _ _ _ _ _ _ _ _ _ _
   | exact cambiumref01_Less.mono _ _ _
   | exact cambiumref16_Name.mono _ _
   | exact cambiumref16_Value.mono _ _ _ _ _
   | exact LeO.none _
   | refine LeO.ite ?_ ?_
   | refine LeO.bind ?_ (fun _ => ?_)
  ·intro y0 y1 y2 y3 y4 y5 y6 y7 y8 y9 y10 y11
   unfold cambiumref16_May.l1
   repeat' first
   | (with_reducible exact ih0 _ _ _ _ _ _ _ _ _ _ _ _)
   | (with_reducible exact ih1 _ _ _ _ _ _ _ _ _ _ _ _)
   | (with_reducible exact ih2 _ _ _ _ _ _ _ _ _ _ _ _)
   | (with_reducible exact ih3 _ _ _ _ _ _ _ _ _ _ _ _)
   | (with_reducible exact ih4 _ _ _ _ _ _ _ _ _ _ _ _)
   | (with_reducible exact cambiumref01_Less.mono _ _ _)
   | (with_reducible exact cambiumref16_Name.mono _ _)
   | (with_reducible exact cambiumref16_Value.mono _ _ _ _ _)
   | (with_reducible exact LeO.refl _)
   | (with_reducible exact LeO.none _)
   | (with_reducible refine LeO.ite ?_ ?_)
   | (with_reducible refine LeO.bind ?_ (fun _ => ?_))
   | exact ih0 _ _ _ _ _ _ _ _ _ _ _ _
   | exact ih1 _ _ _ _ _ _ _ _ _ _ _ _
   | exact ih2 _ _ _ _ _ _ _ _ _ _ _ _
   | exact ih3 _ _ _ _ _ _ _ _ _ _ _ _
   | exact ih4 _ _ _ _ _ _ _ _ _ _ _ _
   | exact cambiumref01_Less.mono _ _ _
   | exact cambiumref16_Name.mono _ _
   | exact cambiumref16_Value.mono _ _ _ _ _
   | exact LeO.none _
   | refine LeO.ite ?_ ?_
   | refine LeO.bind ?_ (fun _ => ?_)
  ·intro y0 y1 y2 y3 y4 y5 y6 y7 y8 y9 y10 y11
   unfold cambiumref16_May.l2
   repeat' first
   | (with_reducible exact ih0 _ _ _ _ _ _ _ _ _ _ _ _)
   | (with_reducible exact ih1 _ _ _ _ _ _ _ _ _ _ _ _)
   | (with_reducible exact ih2 _ _ _ _ _ _ _ _ _ _ _ _)
   | (with_reducible exact ih3 _ _ _ _ _ _ _ _ _ _ _ _)
   | (with_reducible exact ih4 _ _ _ _ _ _ _ _ _ _ _ _)
   | (with_reducible exact cambiumref01_Less.mono _ _ _)
   | (with_reducible exact cambiumref16_Name.mono _ _)
   | (with_reducible exact cambiumref16_Value.mono _ _ _ _ _)
   | (with_reducible exact LeO.refl _)
   | (with_reducible exact LeO.none _)
   | (with_reducible refine LeO.ite ?_ ?_)
   | (with_reducible refine LeO.bind ?_ (fun _ => ?_))
   | exact ih0 _ _ _ _ _ _ _ _ _ _ _ _
   | exact ih1 _ _ _ _ _ _ _ _ _ _ _ _
   | exact ih2 _ _ _ _ _ _ _ _ _ _ _ _
   | exact ih3 _ _ _ _ _ _ _ _ _ _ _ _
   | exact ih4 _ _ _ _ _ _ _ _ _ _ _ _
   | exact cambiumref01_Less.mono _ _ _
   | exact cambiumref16_Name.mono _ _
   | exact cambiumref16_Value.mono _ _ _ _ _
   | exact LeO.none _
   | refine LeO.ite ?_ ?_
   | refine LeO.bind ?_ (fun _ => ?_)
theorem cambiumref16_May.mono : ∀ a0 a1 a2 a3 a4 a5 a6 a7 a8 a9 a10 k, LeO (cambiumref16_May.f k a0 a1 a2 a3 a4 a5 a6 a7 a8 a9 a10) (cambiumref16_May.f (k + 1) a0 a1 a2 a3 a4 a5 a6 a7 a8 a9 a10) := by
 intro a0 a1 a2 a3 a4 a5 a6 a7 a8 a9 a10 k
 obtain ⟨ih0, ih1, ih2, ih3, ih4⟩ := cambiumref16_May.mono_l k
 unfold cambiumref16_May.f
 repeat' first
   | (with_reducible exact ih0 _ _ _ _ _ _ _ _ _ _ _ _)
   | (with_reducible exact ih1 _ _ _ _ _ _ _ _ _ _ _ _)
   | (with_reducible exact ih2 _ _ _ _ _ _ _ _ _ _ _ _)
   | (with_reducible exact ih3 _ _ _ _ _ _ _ _ _ _ _ _)
   | (with_reducible exact ih4 _ _ _ _ _ _ _ _ _ _ _ _)
   | (with_reducible exact cambiumref01_Less.mono _ _ _)
   | (with_reducible exact cambiumref16_Name.mono _ _)
   | (with_reducible exact cambiumref16_Value.mono _ _ _ _ _)
   | (with_reducible exact LeO.refl _)
   | (with_reducible exact LeO.none _)
   | (with_reducible refine LeO.ite ?_ ?_)
   | (with_reducible refine LeO.bind ?_ (fun _ => ?_))
   | exact ih0 _ _ _ _ _ _ _ _ _ _ _ _
   | exact ih1 _ _ _ _ _ _ _ _ _ _ _ _
   | exact ih2 _ _ _ _ _ _ _ _ _ _ _ _
   | exact ih3 _ _ _ _ _ _ _ _ _ _ _ _
   | exact ih4 _ _ _ _ _ _ _ _ _ _ _ _
   | exact cambiumref01_Less.mono _ _ _
   | exact cambiumref16_Name.mono _ _
   | exact cambiumref16_Value.mono _ _ _ _ _
   | exact LeO.none _
   | refine LeO.ite ?_ ?_
   | refine LeO.bind ?_ (fun _ => ?_)
def cambiumref16_May.T8 : Bool × List (List Nat × List Nat) := (true, [([], []), ([0], [0]), ([], []), ([1, 2], [1, 2]), ([3], [3]), ([4], [4]), ([5], [5]), ([6], [6]), ([7, 6], [7]), ([8], [8]), ([9, 8], [8, 9]), ([8], [8]), ([10, 11, 8], [8, 10, 11]), ([12, 8], [8, 12]), ([13, 8], [8, 13]), ([14, 8, 8], [8, 14]), ([15, 8], [8, 15]), ([8, 16], [8, 16]), ([17, 15], [17]), ([18], [18]), ([19, 18], [18, 19]), ([20, 18, 18], [18, 20]), ([21], [21]), ([22, 21], [21, 22]), ([21], [21]), ([24, 21], [21, 24]), ([23, 25, 21], [21, 23, 25]), ([26, 21], [21, 26]), ([27, 21], [21, 27]), ([28, 21], [21, 28]), ([21], [21]), ([30, 21], [21, 30]), ([21], [21]), ([31, 32, 21], [21, 31, 32]), ([33, 21], [21, 33]), ([34, 21], [21, 34]), ([35, 21], [21, 35]), ([29, 36, 21, 21], [21, 29, 36]), ([37, 21], [21, 37]), ([21, 38, 18], [18, 21, 38]), ([18, 39], [18, 39])])
def cambiumref16_May.B8 : List Nat := [0, 1, 0, 7, 15, 31, 63, 127, 255, 511, 1023, 511, 4095, 8191, 16383, 32767, 65535, 131071, 262143, 524287, 1048575, 2097151, 4194303, 8388607, 4194303, 20971519, 67108863, 134217727, 268435455, 536870911, 4194303, 1077936127, 4194303, 7520387071, 16110321663, 33290190847, 67649929215, 137438953471, 274877906943, 549755813887, 1099511627775]
theorem cambiumref16_May.tab8 : rtab .any (opsOf Tryd.f13 8) = cambiumref16_May.T8 := by kernel_rfl
theorem cambiumref16_May.bits8 : waitsOk cambiumref16_May.T8.2 cambiumref16_May.B8 = true := by kernel_rfl
set_option maxHeartbeats 8000000 in
set_option maxRecDepth 100000 in
theorem cambiumref16_May.calls (k : Nat) (a0_0 : Int) (a0_1 : Int) (a0_2 : Int) (a0_3 : ByteArray) (a0_4 : ByteArray) (a0_5 : Int) (a0_6 : Int) (a0_7 : Int) (A0_8 : Option Addr) (c0_8 : Nat) (l0_8 : List (S53)) (A0_9 : Option Addr) (c0_9 : Nat) (l0_9 : List (S55)) (A0_10 : Option Addr) (c0_10 : Nat) (l0_10 : List (S68)) (r : Bool) (w : World) (hr0_8 : Kd.C k53 w A0_8 l0_8.length l0_8) (hc0_8 : l0_8.length ≤ c0_8) (hr0_9 : Kd.C k55 w A0_9 l0_9.length l0_9) (hc0_9 : l0_9.length ≤ c0_9) (hr0_10 : Kd.C k68 w A0_10 l0_10.length l0_10) (hc0_10 : l0_10.length ≤ c0_10) (h : cambiumref16_May.f k a0_0 a0_1 a0_2 a0_3 a0_4 a0_5 a0_6 a0_7 l0_8 l0_9 l0_10 = some r) :
  Calls Tryd.prog 13 #[.agg #[.int .u64 a0_0, .int .u64 a0_1, .int .u64 a0_2, .string a0_3, .string a0_4, .int .i64 a0_5, .int .i64 a0_6, .int .i64 a0_7, .slice A0_8 l0_8.length c0_8, .slice A0_9 l0_9.length c0_9, .slice A0_10 l0_10.length c0_10]] w fun e w' => e = .returned (.bool r) ∧ Below w.heap.size w w' := by
 have hu27 := Tryd.underlying27
 have hu51 := Tryd.underlying51
 have HR0_8 := Aside0.mk hr0_8
 have HC0_8 := Aside0.mk hc0_8
 clear hr0_8 hc0_8
 have HR0_9 := Aside0.mk hr0_9
 have HC0_9 := Aside0.mk hc0_9
 clear hr0_9 hc0_9
 have HR0_10 := Aside0.mk hr0_10
 have HC0_10 := Aside0.mk hc0_10
 clear hr0_10 hc0_10
 have HB := Aside0.mk (Below.refl w.heap.size w)
 have H : (if a0_0 = 0 then (cambiumref16_May.j0 k true a0_0 a0_1 a0_2 a0_3 a0_4 a0_5 a0_6 a0_7 l0_8 l0_9 l0_10) else (if a0_1 = 0 then (cambiumref16_May.j0 k true a0_0 a0_1 a0_2 a0_3 a0_4 a0_5 a0_6 a0_7 l0_8 l0_9 l0_10) else (if a0_2 = a0_1 then (cambiumref16_May.j0 k true a0_0 a0_1 a0_2 a0_3 a0_4 a0_5 a0_6 a0_7 l0_8 l0_9 l0_10) else ((cambiumref16_Name.f k a0_3).bind fun t218 => (if t218 = true then ((cambiumref16_Name.f k a0_4).bind fun t219 => (if t219 = true then ((cambiumref16_time.f a0_5).bind fun t220 => (if t220 = true then ((cambiumref16_time.f a0_6).bind fun t221 => (if t221 = true then (if a0_7 < 0 then (cambiumref16_May.j0 k true a0_0 a0_1 a0_2 a0_3 a0_4 a0_5 a0_6 a0_7 l0_8 l0_9 l0_10) else (cambiumref16_May.j0 k (decide (a0_7 > 2)) a0_0 a0_1 a0_2 a0_3 a0_4 a0_5 a0_6 a0_7 l0_8 l0_9 l0_10)) else (cambiumref16_May.j0 k true a0_0 a0_1 a0_2 a0_3 a0_4 a0_5 a0_6 a0_7 l0_8 l0_9 l0_10))) else (cambiumref16_May.j0 k true a0_0 a0_1 a0_2 a0_3 a0_4 a0_5 a0_6 a0_7 l0_8 l0_9 l0_10))) else (cambiumref16_May.j0 k true a0_0 a0_1 a0_2 a0_3 a0_4 a0_5 a0_6 a0_7 l0_8 l0_9 l0_10))) else (cambiumref16_May.j0 k true a0_0 a0_1 a0_2 a0_3 a0_4 a0_5 a0_6 a0_7 l0_8 l0_9 l0_10)))))) = some r := h
 clear h
 have HC2 := Aside0.mk H
 clear H
 go_enter Tryd.func13, Tryd.ntmps13
 go_upto_region 1 with (first | ((with_reducible refine gate_dst (N := 1) rfl ?_); (try (refine gate_guard (by rfl) ?_; dsimp only)); refine box_event ?hg (N := 1) ?hd (cs := #[.int .u64 a0_0, .int .u64 a0_1, .int .u64 a0_2, .string a0_3, .string a0_4, .int .i64 a0_5, .int .i64 a0_6, .int .i64 a0_7, .slice A0_8 l0_8.length c0_8, .slice A0_9 l0_9.length c0_9, .slice A0_10 l0_10.length c0_10]) (t := 27) ?hr ?_; (case hd => rfl); (case hg => rfl); (case hr => first | (go_simp; done) | (go_simp; rfl)); intro gb217 hg w3 hbox hb; have BK217 := Aside0.mk (hbox); have GW217 := Aside0.mk ((by rw [hg]; exact (below_size q15y7) : w.heap.size ≤ gb217)); have GE217 := GW217; replace HB := Aside0.mk (below_step q15y7 hb); clear hb hbox hg))
 (try simp only [Act.put, q15a, q15b, q15c])
 go_cut [54] (fun v54 wc => ∃ (kq : Nat) (x54_1 : Bool), v54 = .bool x54_1 ∧ Aside0 (cambiumref16_May.j0 kq x54_1 a0_0 a0_1 a0_2 a0_3 a0_4 a0_5 a0_6 a0_7 l0_8 l0_9 l0_10 = some r) ∧ Aside0 (kq ≤ k) ∧ Aside0 (wc.heap[gb217]? = some (.cells #[.int .u64 a0_0, .int .u64 a0_1, .int .u64 a0_2, .string a0_3, .string a0_4, .int .i64 a0_5, .int .i64 a0_6, .int .i64 a0_7, (.slice A0_8 l0_8.length c0_8), (.slice A0_9 l0_9.length c0_9), (.slice A0_10 l0_10.length c0_10)] 27 (0, 0))) ∧ Aside0 (Below w.heap.size w wc))
 case first =>
  have H := HC2.out
  clear HC2
  by_cases c4 : a0_0 = 0
  ·rw [if_pos c4] at H
   have c4b0 : (a0_0 == 0) = true := beq_iff_eq.mpr c4
   have c4b1 : (a0_0 != 0) = false := bne_eq_false_iff_eq.mpr c4
   clear c4
   (first | rw [c4b0] | (simp only [i64_w, i32_w]; rw [c4b0]) | skip)
   have H' := Aside0.mk H
   clear H
   obtain ⟨hcz5_0, hcz5_1, hcz5_2, hcz5_3, hcz5_4, hcz5_5, hcz5_6, hcz5_7, hcz5_8, hcz5_9, hcz5_10, hfz5_0, hfz5_1, hfz5_2, hfz5_3, hfz5_4, hfz5_5, hfz5_6, hfz5_7, hfz5_8, hfz5_9, hfz5_10⟩ := q15cb11 BK217.out
   go_wp2
   go_meet
   case rel => exact ⟨_, (true), q15y4, H', ⟨by first | omega | exact Nat.le_refl _⟩, ⟨by (with_reducible repeat (first | refine blk_drewN ?_ _ | refine blk_drew ?_ | refine blk_alloc ?_ _)); exact BK217.out⟩, ⟨by repeat (first | (with_reducible first | exact HB.out | apply below_alloc | apply pw_below_drewN | apply below_drew1 | refine below_set ?_ GE217.out) | exact HB.out)⟩⟩
  rw [if_neg c4] at H
  have c4b0 : (a0_0 == 0) = false := beq_eq_false_iff_ne.mpr c4
  have c4b1 : (a0_0 != 0) = true := bne_iff_ne.mpr c4
  (first | rw [c4b0] | (simp only [i64_w, i32_w]; rw [c4b0]) | skip)
  by_cases c6 : a0_1 = 0
  ·rw [if_pos c6] at H
   have c6b0 : (a0_1 == 0) = true := beq_iff_eq.mpr c6
   have c6b1 : (a0_1 != 0) = false := bne_eq_false_iff_eq.mpr c6
   clear c6
   have H' := Aside0.mk H
   clear H
   obtain ⟨hcz7_0, hcz7_1, hcz7_2, hcz7_3, hcz7_4, hcz7_5, hcz7_6, hcz7_7, hcz7_8, hcz7_9, hcz7_10, hfz7_0, hfz7_1, hfz7_2, hfz7_3, hfz7_4, hfz7_5, hfz7_6, hfz7_7, hfz7_8, hfz7_9, hfz7_10⟩ := q15cb11 BK217.out
   go_wp2
   go_meet
   case rel => exact ⟨_, (true), q15y4, H', ⟨by first | omega | exact Nat.le_refl _⟩, ⟨by (with_reducible repeat (first | refine blk_drewN ?_ _ | refine blk_drew ?_ | refine blk_alloc ?_ _)); exact BK217.out⟩, ⟨by repeat (first | (with_reducible first | exact HB.out | apply below_alloc | apply pw_below_drewN | apply below_drew1 | refine below_set ?_ GE217.out) | exact HB.out)⟩⟩
  rw [if_neg c6] at H
  have c6b0 : (a0_1 == 0) = false := beq_eq_false_iff_ne.mpr c6
  have c6b1 : (a0_1 != 0) = true := bne_iff_ne.mpr c6
  by_cases c8 : a0_2 = a0_1
  ·rw [if_pos c8] at H
   have c8b0 : (a0_2 == a0_1) = true := beq_iff_eq.mpr c8
   have c8b1 : (a0_2 != a0_1) = false := bne_eq_false_iff_eq.mpr c8
   clear c8
   have H' := Aside0.mk H
   clear H
   obtain ⟨hcz9_0, hcz9_1, hcz9_2, hcz9_3, hcz9_4, hcz9_5, hcz9_6, hcz9_7, hcz9_8, hcz9_9, hcz9_10, hfz9_0, hfz9_1, hfz9_2, hfz9_3, hfz9_4, hfz9_5, hfz9_6, hfz9_7, hfz9_8, hfz9_9, hfz9_10⟩ := q15cb11 BK217.out
   go_wp2
   go_meet
   case rel => exact ⟨_, (true), q15y4, H', ⟨by first | omega | exact Nat.le_refl _⟩, ⟨by (with_reducible repeat (first | refine blk_drewN ?_ _ | refine blk_drew ?_ | refine blk_alloc ?_ _)); exact BK217.out⟩, ⟨by repeat (first | (with_reducible first | exact HB.out | apply below_alloc | apply pw_below_drewN | apply below_drew1 | refine below_set ?_ GE217.out) | exact HB.out)⟩⟩
  rw [if_neg c8] at H
  have c8b0 : (a0_2 == a0_1) = false := beq_eq_false_iff_ne.mpr c8
  have c8b1 : (a0_2 != a0_1) = true := bne_iff_ne.mpr c8
  replace H := Option.bind_eq_some_iff.mp H
  obtain ⟨t218, A100, H⟩ := H
  replace H : (if t218 = true then ((cambiumref16_Name.f k a0_4).bind fun t219 => (if t219 = true then ((cambiumref16_time.f a0_5).bind fun t220 => (if t220 = true then ((cambiumref16_time.f a0_6).bind fun t221 => (if t221 = true then (if a0_7 < 0 then (cambiumref16_May.j0 k true a0_0 a0_1 a0_2 a0_3 a0_4 a0_5 a0_6 a0_7 l0_8 l0_9 l0_10) else (cambiumref16_May.j0 k (decide (a0_7 > 2)) a0_0 a0_1 a0_2 a0_3 a0_4 a0_5 a0_6 a0_7 l0_8 l0_9 l0_10)) else (cambiumref16_May.j0 k true a0_0 a0_1 a0_2 a0_3 a0_4 a0_5 a0_6 a0_7 l0_8 l0_9 l0_10))) else (cambiumref16_May.j0 k true a0_0 a0_1 a0_2 a0_3 a0_4 a0_5 a0_6 a0_7 l0_8 l0_9 l0_10))) else (cambiumref16_May.j0 k true a0_0 a0_1 a0_2 a0_3 a0_4 a0_5 a0_6 a0_7 l0_8 l0_9 l0_10))) else (cambiumref16_May.j0 k true a0_0 a0_1 a0_2 a0_3 a0_4 a0_5 a0_6 a0_7 l0_8 l0_9 l0_10)) = some r := H
  have A10 := Aside0.mk A100
  clear A100
  by_cases c11 : t218 = true
  rotate_left
  ·replace c11 := Bool.eq_false_iff.mpr c11
   subst c11
   have H1 : (cambiumref16_May.j0 k true a0_0 a0_1 a0_2 a0_3 a0_4 a0_5 a0_6 a0_7 l0_8 l0_9 l0_10) = some r := by rw [if_neg (show ¬ (false = true) by decide)] at H; exact H
   clear H
   have H := H1
   clear H1
   have H' := Aside0.mk H
   clear H
   obtain ⟨hcz43_0, hcz43_1, hcz43_2, hcz43_3, hcz43_4, hcz43_5, hcz43_6, hcz43_7, hcz43_8, hcz43_9, hcz43_10, hfz43_0, hfz43_1, hfz43_2, hfz43_3, hfz43_4, hfz43_5, hfz43_6, hfz43_7, hfz43_8, hfz43_9, hfz43_10⟩ := q15cb11 BK217.out
   go_wp2_with (first | (go_at_call 36; (with_reducible refine (cambiumref16_Name.calls k a0_3 false _ A10.out).mono ?_); rintro e w44 ⟨rfl, hb⟩; replace BK217 := Aside0.mk (blk_below q15y1 hb); replace HB := Aside0.mk (below_step q15y0 hb); (try clear hb); (try clear hb2); (try clear hk); (try clear hi)))
   go_meet
   case rel => exact ⟨_, (true), q15y4, H', ⟨by first | omega | exact Nat.le_refl _⟩, ⟨by (with_reducible repeat (first | refine blk_drewN ?_ _ | refine blk_drew ?_ | refine blk_alloc ?_ _)); exact BK217.out⟩, ⟨by repeat (first | (with_reducible first | exact HB.out | apply below_alloc | apply pw_below_drewN | apply below_drew1 | refine below_set ?_ GE217.out) | exact HB.out)⟩⟩
  subst c11
  have H1 : ((cambiumref16_Name.f k a0_4).bind fun t219 => (if t219 = true then ((cambiumref16_time.f a0_5).bind fun t220 => (if t220 = true then ((cambiumref16_time.f a0_6).bind fun t221 => (if t221 = true then (if a0_7 < 0 then (cambiumref16_May.j0 k true a0_0 a0_1 a0_2 a0_3 a0_4 a0_5 a0_6 a0_7 l0_8 l0_9 l0_10) else (cambiumref16_May.j0 k (decide (a0_7 > 2)) a0_0 a0_1 a0_2 a0_3 a0_4 a0_5 a0_6 a0_7 l0_8 l0_9 l0_10)) else (cambiumref16_May.j0 k true a0_0 a0_1 a0_2 a0_3 a0_4 a0_5 a0_6 a0_7 l0_8 l0_9 l0_10))) else (cambiumref16_May.j0 k true a0_0 a0_1 a0_2 a0_3 a0_4 a0_5 a0_6 a0_7 l0_8 l0_9 l0_10))) else (cambiumref16_May.j0 k true a0_0 a0_1 a0_2 a0_3 a0_4 a0_5 a0_6 a0_7 l0_8 l0_9 l0_10))) = some r := by rw [if_pos rfl] at H; exact H
  clear H
  have H := H1
  clear H1
  replace H := Option.bind_eq_some_iff.mp H
  obtain ⟨t219, A120, H⟩ := H
  replace H : (if t219 = true then ((cambiumref16_time.f a0_5).bind fun t220 => (if t220 = true then ((cambiumref16_time.f a0_6).bind fun t221 => (if t221 = true then (if a0_7 < 0 then (cambiumref16_May.j0 k true a0_0 a0_1 a0_2 a0_3 a0_4 a0_5 a0_6 a0_7 l0_8 l0_9 l0_10) else (cambiumref16_May.j0 k (decide (a0_7 > 2)) a0_0 a0_1 a0_2 a0_3 a0_4 a0_5 a0_6 a0_7 l0_8 l0_9 l0_10)) else (cambiumref16_May.j0 k true a0_0 a0_1 a0_2 a0_3 a0_4 a0_5 a0_6 a0_7 l0_8 l0_9 l0_10))) else (cambiumref16_May.j0 k true a0_0 a0_1 a0_2 a0_3 a0_4 a0_5 a0_6 a0_7 l0_8 l0_9 l0_10))) else (cambiumref16_May.j0 k true a0_0 a0_1 a0_2 a0_3 a0_4 a0_5 a0_6 a0_7 l0_8 l0_9 l0_10)) = some r := H
  have A12 := Aside0.mk A120
  clear A120
  by_cases c13 : t219 = true
  rotate_left
  ·replace c13 := Bool.eq_false_iff.mpr c13
   subst c13
   have H1 : (cambiumref16_May.j0 k true a0_0 a0_1 a0_2 a0_3 a0_4 a0_5 a0_6 a0_7 l0_8 l0_9 l0_10) = some r := by rw [if_neg (show ¬ (false = true) by decide)] at H; exact H
   clear H
   have H := H1
   clear H1
   have H' := Aside0.mk H
   clear H
   obtain ⟨hcz39_0, hcz39_1, hcz39_2, hcz39_3, hcz39_4, hcz39_5, hcz39_6, hcz39_7, hcz39_8, hcz39_9, hcz39_10, hfz39_0, hfz39_1, hfz39_2, hfz39_3, hfz39_4, hfz39_5, hfz39_6, hfz39_7, hfz39_8, hfz39_9, hfz39_10⟩ := q15cb11 BK217.out
   go_wp2_with (first | (go_at_call 36; (with_reducible refine (cambiumref16_Name.calls k a0_3 true _ A10.out).mono ?_); rintro e w40 ⟨rfl, hb⟩; replace BK217 := Aside0.mk (blk_below q15y1 hb); replace HB := Aside0.mk (below_step q15y0 hb); (try clear hb); (try clear hb2); (try clear hk); (try clear hi); obtain ⟨hcz41_0, hcz41_1, hcz41_2, hcz41_3, hcz41_4, hcz41_5, hcz41_6, hcz41_7, hcz41_8, hcz41_9, hcz41_10, hfz41_0, hfz41_1, hfz41_2, hfz41_3, hfz41_4, hfz41_5, hfz41_6, hfz41_7, hfz41_8, hfz41_9, hfz41_10⟩ := q15cb11 BK217.out) | (go_at_call 36; (with_reducible refine (cambiumref16_Name.calls k a0_4 false _ A12.out).mono ?_); rintro e w42 ⟨rfl, hb⟩; replace BK217 := Aside0.mk (blk_below q15y1 hb); replace HB := Aside0.mk (below_step q15y0 hb); (try clear hb); (try clear hb2); (try clear hk); (try clear hi)))
   go_meet
   case rel => exact ⟨_, (true), q15y4, H', ⟨by first | omega | exact Nat.le_refl _⟩, ⟨by (with_reducible repeat (first | refine blk_drewN ?_ _ | refine blk_drew ?_ | refine blk_alloc ?_ _)); exact BK217.out⟩, ⟨by repeat (first | (with_reducible first | exact HB.out | apply below_alloc | apply pw_below_drewN | apply below_drew1 | refine below_set ?_ GE217.out) | exact HB.out)⟩⟩
  subst c13
  have H1 : ((cambiumref16_time.f a0_5).bind fun t220 => (if t220 = true then ((cambiumref16_time.f a0_6).bind fun t221 => (if t221 = true then (if a0_7 < 0 then (cambiumref16_May.j0 k true a0_0 a0_1 a0_2 a0_3 a0_4 a0_5 a0_6 a0_7 l0_8 l0_9 l0_10) else (cambiumref16_May.j0 k (decide (a0_7 > 2)) a0_0 a0_1 a0_2 a0_3 a0_4 a0_5 a0_6 a0_7 l0_8 l0_9 l0_10)) else (cambiumref16_May.j0 k true a0_0 a0_1 a0_2 a0_3 a0_4 a0_5 a0_6 a0_7 l0_8 l0_9 l0_10))) else (cambiumref16_May.j0 k true a0_0 a0_1 a0_2 a0_3 a0_4 a0_5 a0_6 a0_7 l0_8 l0_9 l0_10))) = some r := by rw [if_pos rfl] at H; exact H
  clear H
  have H := H1
  clear H1
  replace H := Option.bind_eq_some_iff.mp H
  obtain ⟨t220, A140, H⟩ := H
  replace H : (if t220 = true then ((cambiumref16_time.f a0_6).bind fun t221 => (if t221 = true then (if a0_7 < 0 then (cambiumref16_May.j0 k true a0_0 a0_1 a0_2 a0_3 a0_4 a0_5 a0_6 a0_7 l0_8 l0_9 l0_10) else (cambiumref16_May.j0 k (decide (a0_7 > 2)) a0_0 a0_1 a0_2 a0_3 a0_4 a0_5 a0_6 a0_7 l0_8 l0_9 l0_10)) else (cambiumref16_May.j0 k true a0_0 a0_1 a0_2 a0_3 a0_4 a0_5 a0_6 a0_7 l0_8 l0_9 l0_10))) else (cambiumref16_May.j0 k true a0_0 a0_1 a0_2 a0_3 a0_4 a0_5 a0_6 a0_7 l0_8 l0_9 l0_10)) = some r := H
  have A14 := Aside0.mk A140
  clear A140
  by_cases c15 : t220 = true
  rotate_left
  ·replace c15 := Bool.eq_false_iff.mpr c15
   subst c15
   have H1 : (cambiumref16_May.j0 k true a0_0 a0_1 a0_2 a0_3 a0_4 a0_5 a0_6 a0_7 l0_8 l0_9 l0_10) = some r := by rw [if_neg (show ¬ (false = true) by decide)] at H; exact H
   clear H
   have H := H1
   clear H1
   have H' := Aside0.mk H
   clear H
   obtain ⟨hcz34_0, hcz34_1, hcz34_2, hcz34_3, hcz34_4, hcz34_5, hcz34_6, hcz34_7, hcz34_8, hcz34_9, hcz34_10, hfz34_0, hfz34_1, hfz34_2, hfz34_3, hfz34_4, hfz34_5, hfz34_6, hfz34_7, hfz34_8, hfz34_9, hfz34_10⟩ := q15cb11 BK217.out
   go_wp2_with (first | (go_at_call 36; (with_reducible refine (cambiumref16_Name.calls k a0_3 true _ A10.out).mono ?_); rintro e w35 ⟨rfl, hb⟩; replace BK217 := Aside0.mk (blk_below q15y1 hb); replace HB := Aside0.mk (below_step q15y0 hb); (try clear hb); (try clear hb2); (try clear hk); (try clear hi); obtain ⟨hcz36_0, hcz36_1, hcz36_2, hcz36_3, hcz36_4, hcz36_5, hcz36_6, hcz36_7, hcz36_8, hcz36_9, hcz36_10, hfz36_0, hfz36_1, hfz36_2, hfz36_3, hfz36_4, hfz36_5, hfz36_6, hfz36_7, hfz36_8, hfz36_9, hfz36_10⟩ := q15cb11 BK217.out) | (go_at_call 36; (with_reducible refine (cambiumref16_Name.calls k a0_4 true _ A12.out).mono ?_); rintro e w37 ⟨rfl, hb⟩; replace BK217 := Aside0.mk (blk_below q15y1 hb); replace HB := Aside0.mk (below_step q15y0 hb); (try clear hb); (try clear hb2); (try clear hk); (try clear hi); obtain ⟨hcz38_0, hcz38_1, hcz38_2, hcz38_3, hcz38_4, hcz38_5, hcz38_6, hcz38_7, hcz38_8, hcz38_9, hcz38_10, hfz38_0, hfz38_1, hfz38_2, hfz38_3, hfz38_4, hfz38_5, hfz38_6, hfz38_7, hfz38_8, hfz38_9, hfz38_10⟩ := q15cb11 BK217.out) | (go_at_call 37; (with_reducible refine (cambiumref16_time.calls a0_5 false _ A14.out).mono ?_); rintro e w' ⟨rfl, ⟨nd, rfl⟩⟩))
   go_meet
   case rel => exact ⟨_, (true), q15y4, H', ⟨by first | omega | exact Nat.le_refl _⟩, ⟨by (with_reducible repeat (first | refine blk_drewN ?_ _ | refine blk_drew ?_ | refine blk_alloc ?_ _)); exact BK217.out⟩, ⟨by repeat (first | (with_reducible first | exact HB.out | apply below_alloc | apply pw_below_drewN | apply below_drew1 | refine below_set ?_ GE217.out) | exact HB.out)⟩⟩
  subst c15
  have H1 : ((cambiumref16_time.f a0_6).bind fun t221 => (if t221 = true then (if a0_7 < 0 then (cambiumref16_May.j0 k true a0_0 a0_1 a0_2 a0_3 a0_4 a0_5 a0_6 a0_7 l0_8 l0_9 l0_10) else (cambiumref16_May.j0 k (decide (a0_7 > 2)) a0_0 a0_1 a0_2 a0_3 a0_4 a0_5 a0_6 a0_7 l0_8 l0_9 l0_10)) else (cambiumref16_May.j0 k true a0_0 a0_1 a0_2 a0_3 a0_4 a0_5 a0_6 a0_7 l0_8 l0_9 l0_10))) = some r := by rw [if_pos rfl] at H; exact H
  clear H
  have H := H1
  clear H1
  replace H := Option.bind_eq_some_iff.mp H
  obtain ⟨t221, A160, H⟩ := H
  replace H : (if t221 = true then (if a0_7 < 0 then (cambiumref16_May.j0 k true a0_0 a0_1 a0_2 a0_3 a0_4 a0_5 a0_6 a0_7 l0_8 l0_9 l0_10) else (cambiumref16_May.j0 k (decide (a0_7 > 2)) a0_0 a0_1 a0_2 a0_3 a0_4 a0_5 a0_6 a0_7 l0_8 l0_9 l0_10)) else (cambiumref16_May.j0 k true a0_0 a0_1 a0_2 a0_3 a0_4 a0_5 a0_6 a0_7 l0_8 l0_9 l0_10)) = some r := H
  have A16 := Aside0.mk A160
  clear A160
  by_cases c17 : t221 = true
  rotate_left
  ·replace c17 := Bool.eq_false_iff.mpr c17
   subst c17
   have H1 : (cambiumref16_May.j0 k true a0_0 a0_1 a0_2 a0_3 a0_4 a0_5 a0_6 a0_7 l0_8 l0_9 l0_10) = some r := by rw [if_neg (show ¬ (false = true) by decide)] at H; exact H
   clear H
   have H := H1
   clear H1
   have H' := Aside0.mk H
   clear H
   obtain ⟨hcz29_0, hcz29_1, hcz29_2, hcz29_3, hcz29_4, hcz29_5, hcz29_6, hcz29_7, hcz29_8, hcz29_9, hcz29_10, hfz29_0, hfz29_1, hfz29_2, hfz29_3, hfz29_4, hfz29_5, hfz29_6, hfz29_7, hfz29_8, hfz29_9, hfz29_10⟩ := q15cb11 BK217.out
   go_wp2_with (first | (go_at_call 36; (with_reducible refine (cambiumref16_Name.calls k a0_3 true _ A10.out).mono ?_); rintro e w30 ⟨rfl, hb⟩; replace BK217 := Aside0.mk (blk_below q15y1 hb); replace HB := Aside0.mk (below_step q15y0 hb); (try clear hb); (try clear hb2); (try clear hk); (try clear hi); obtain ⟨hcz31_0, hcz31_1, hcz31_2, hcz31_3, hcz31_4, hcz31_5, hcz31_6, hcz31_7, hcz31_8, hcz31_9, hcz31_10, hfz31_0, hfz31_1, hfz31_2, hfz31_3, hfz31_4, hfz31_5, hfz31_6, hfz31_7, hfz31_8, hfz31_9, hfz31_10⟩ := q15cb11 BK217.out) | (go_at_call 36; (with_reducible refine (cambiumref16_Name.calls k a0_4 true _ A12.out).mono ?_); rintro e w32 ⟨rfl, hb⟩; replace BK217 := Aside0.mk (blk_below q15y1 hb); replace HB := Aside0.mk (below_step q15y0 hb); (try clear hb); (try clear hb2); (try clear hk); (try clear hi); obtain ⟨hcz33_0, hcz33_1, hcz33_2, hcz33_3, hcz33_4, hcz33_5, hcz33_6, hcz33_7, hcz33_8, hcz33_9, hcz33_10, hfz33_0, hfz33_1, hfz33_2, hfz33_3, hfz33_4, hfz33_5, hfz33_6, hfz33_7, hfz33_8, hfz33_9, hfz33_10⟩ := q15cb11 BK217.out) | (go_at_call 37; (with_reducible refine (cambiumref16_time.calls a0_5 true _ A14.out).mono ?_); rintro e w' ⟨rfl, ⟨nd, rfl⟩⟩) | (go_at_call 37; (with_reducible refine (cambiumref16_time.calls a0_6 false _ A16.out).mono ?_); rintro e w' ⟨rfl, ⟨nd, rfl⟩⟩))
   go_meet
   case rel => exact ⟨_, (true), q15y4, H', ⟨by first | omega | exact Nat.le_refl _⟩, ⟨by (with_reducible repeat (first | refine blk_drewN ?_ _ | refine blk_drew ?_ | refine blk_alloc ?_ _)); exact BK217.out⟩, ⟨by repeat (first | (with_reducible first | exact HB.out | apply below_alloc | apply pw_below_drewN | apply below_drew1 | refine below_set ?_ GE217.out) | exact HB.out)⟩⟩
  subst c17
  have H1 : (if a0_7 < 0 then (cambiumref16_May.j0 k true a0_0 a0_1 a0_2 a0_3 a0_4 a0_5 a0_6 a0_7 l0_8 l0_9 l0_10) else (cambiumref16_May.j0 k (decide (a0_7 > 2)) a0_0 a0_1 a0_2 a0_3 a0_4 a0_5 a0_6 a0_7 l0_8 l0_9 l0_10)) = some r := by rw [if_pos rfl] at H; exact H
  clear H
  have H := H1
  clear H1
  by_cases c18 : a0_7 < 0
  ·rw [if_pos c18] at H
   have c18b0 : decide (a0_7 < 0) = true := decide_eq_true c18
   clear c18
   have H' := Aside0.mk H
   clear H
   obtain ⟨hcz19_0, hcz19_1, hcz19_2, hcz19_3, hcz19_4, hcz19_5, hcz19_6, hcz19_7, hcz19_8, hcz19_9, hcz19_10, hfz19_0, hfz19_1, hfz19_2, hfz19_3, hfz19_4, hfz19_5, hfz19_6, hfz19_7, hfz19_8, hfz19_9, hfz19_10⟩ := q15cb11 BK217.out
   go_wp2_with (first | (go_at_call 36; (with_reducible refine (cambiumref16_Name.calls k a0_3 true _ A10.out).mono ?_); rintro e w20 ⟨rfl, hb⟩; replace BK217 := Aside0.mk (blk_below q15y1 hb); replace HB := Aside0.mk (below_step q15y0 hb); (try clear hb); (try clear hb2); (try clear hk); (try clear hi); obtain ⟨hcz21_0, hcz21_1, hcz21_2, hcz21_3, hcz21_4, hcz21_5, hcz21_6, hcz21_7, hcz21_8, hcz21_9, hcz21_10, hfz21_0, hfz21_1, hfz21_2, hfz21_3, hfz21_4, hfz21_5, hfz21_6, hfz21_7, hfz21_8, hfz21_9, hfz21_10⟩ := q15cb11 BK217.out) | (go_at_call 36; (with_reducible refine (cambiumref16_Name.calls k a0_4 true _ A12.out).mono ?_); rintro e w22 ⟨rfl, hb⟩; replace BK217 := Aside0.mk (blk_below q15y1 hb); replace HB := Aside0.mk (below_step q15y0 hb); (try clear hb); (try clear hb2); (try clear hk); (try clear hi); obtain ⟨hcz23_0, hcz23_1, hcz23_2, hcz23_3, hcz23_4, hcz23_5, hcz23_6, hcz23_7, hcz23_8, hcz23_9, hcz23_10, hfz23_0, hfz23_1, hfz23_2, hfz23_3, hfz23_4, hfz23_5, hfz23_6, hfz23_7, hfz23_8, hfz23_9, hfz23_10⟩ := q15cb11 BK217.out) | (go_at_call 37; (with_reducible refine (cambiumref16_time.calls a0_5 true _ A14.out).mono ?_); rintro e w' ⟨rfl, ⟨nd, rfl⟩⟩) | (go_at_call 37; (with_reducible refine (cambiumref16_time.calls a0_6 true _ A16.out).mono ?_); rintro e w' ⟨rfl, ⟨nd, rfl⟩⟩))
   go_meet
   case rel => exact ⟨_, (true), q15y4, H', ⟨by first | omega | exact Nat.le_refl _⟩, ⟨by (with_reducible repeat (first | refine blk_drewN ?_ _ | refine blk_drew ?_ | refine blk_alloc ?_ _)); exact BK217.out⟩, ⟨by repeat (first | (with_reducible first | exact HB.out | apply below_alloc | apply pw_below_drewN | apply below_drew1 | refine below_set ?_ GE217.out) | exact HB.out)⟩⟩
  rw [if_neg c18] at H
  have c18b0 : decide (a0_7 < 0) = false := decide_eq_false c18
  clear c18
  have H' := Aside0.mk H
  clear H
  obtain ⟨hcz24_0, hcz24_1, hcz24_2, hcz24_3, hcz24_4, hcz24_5, hcz24_6, hcz24_7, hcz24_8, hcz24_9, hcz24_10, hfz24_0, hfz24_1, hfz24_2, hfz24_3, hfz24_4, hfz24_5, hfz24_6, hfz24_7, hfz24_8, hfz24_9, hfz24_10⟩ := q15cb11 BK217.out
  go_wp2_with (first | (go_at_call 36; (with_reducible refine (cambiumref16_Name.calls k a0_3 true _ A10.out).mono ?_); rintro e w25 ⟨rfl, hb⟩; replace BK217 := Aside0.mk (blk_below q15y1 hb); replace HB := Aside0.mk (below_step q15y0 hb); (try clear hb); (try clear hb2); (try clear hk); (try clear hi); obtain ⟨hcz26_0, hcz26_1, hcz26_2, hcz26_3, hcz26_4, hcz26_5, hcz26_6, hcz26_7, hcz26_8, hcz26_9, hcz26_10, hfz26_0, hfz26_1, hfz26_2, hfz26_3, hfz26_4, hfz26_5, hfz26_6, hfz26_7, hfz26_8, hfz26_9, hfz26_10⟩ := q15cb11 BK217.out) | (go_at_call 36; (with_reducible refine (cambiumref16_Name.calls k a0_4 true _ A12.out).mono ?_); rintro e w27 ⟨rfl, hb⟩; replace BK217 := Aside0.mk (blk_below q15y1 hb); replace HB := Aside0.mk (below_step q15y0 hb); (try clear hb); (try clear hb2); (try clear hk); (try clear hi); obtain ⟨hcz28_0, hcz28_1, hcz28_2, hcz28_3, hcz28_4, hcz28_5, hcz28_6, hcz28_7, hcz28_8, hcz28_9, hcz28_10, hfz28_0, hfz28_1, hfz28_2, hfz28_3, hfz28_4, hfz28_5, hfz28_6, hfz28_7, hfz28_8, hfz28_9, hfz28_10⟩ := q15cb11 BK217.out) | (go_at_call 37; (with_reducible refine (cambiumref16_time.calls a0_5 true _ A14.out).mono ?_); rintro e w' ⟨rfl, ⟨nd, rfl⟩⟩) | (go_at_call 37; (with_reducible refine (cambiumref16_time.calls a0_6 true _ A16.out).mono ?_); rintro e w' ⟨rfl, ⟨nd, rfl⟩⟩))
  go_meet
  case rel => exact ⟨_, (decide (a0_7 > 2)), q15y4, H', ⟨by first | omega | exact Nat.le_refl _⟩, ⟨by (with_reducible repeat (first | refine blk_drewN ?_ _ | refine blk_drew ?_ | refine blk_alloc ?_ _)); exact BK217.out⟩, ⟨by repeat (first | (with_reducible first | exact HB.out | apply below_alloc | apply pw_below_drewN | apply below_drew1 | refine below_set ?_ GE217.out) | exact HB.out)⟩⟩
 case rest =>
  clear HC2
  try clear c1
  try clear p2
  try clear c4
  try clear c4b0
  try clear c4b1
  try clear c6
  try clear c6b0
  try clear c6b1
  try clear c8
  try clear c8b0
  try clear c8b1
  try clear c11
  try clear c13
  try clear c15
  try clear c17
  try clear c18
  try clear c18b0
  try clear hcz19_0 hcz19_1 hcz19_10 hcz19_2 hcz19_3 hcz19_4 hcz19_5 hcz19_6 hcz19_7 hcz19_8 hcz19_9
  try clear hcz21_0 hcz21_1 hcz21_10 hcz21_2 hcz21_3 hcz21_4 hcz21_5 hcz21_6 hcz21_7 hcz21_8 hcz21_9
  try clear hcz23_0 hcz23_1 hcz23_10 hcz23_2 hcz23_3 hcz23_4 hcz23_5 hcz23_6 hcz23_7 hcz23_8 hcz23_9
  try clear hcz24_0 hcz24_1 hcz24_10 hcz24_2 hcz24_3 hcz24_4 hcz24_5 hcz24_6 hcz24_7 hcz24_8 hcz24_9
  try clear hcz26_0 hcz26_1 hcz26_10 hcz26_2 hcz26_3 hcz26_4 hcz26_5 hcz26_6 hcz26_7 hcz26_8 hcz26_9
  try clear hcz28_0 hcz28_1 hcz28_10 hcz28_2 hcz28_3 hcz28_4 hcz28_5 hcz28_6 hcz28_7 hcz28_8 hcz28_9
  try clear hcz29_0 hcz29_1 hcz29_10 hcz29_2 hcz29_3 hcz29_4 hcz29_5 hcz29_6 hcz29_7 hcz29_8 hcz29_9
  try clear hcz31_0 hcz31_1 hcz31_10 hcz31_2 hcz31_3 hcz31_4 hcz31_5 hcz31_6 hcz31_7 hcz31_8 hcz31_9
  try clear hcz33_0 hcz33_1 hcz33_10 hcz33_2 hcz33_3 hcz33_4 hcz33_5 hcz33_6 hcz33_7 hcz33_8 hcz33_9
  try clear hcz34_0 hcz34_1 hcz34_10 hcz34_2 hcz34_3 hcz34_4 hcz34_5 hcz34_6 hcz34_7 hcz34_8 hcz34_9
  try clear hcz36_0 hcz36_1 hcz36_10 hcz36_2 hcz36_3 hcz36_4 hcz36_5 hcz36_6 hcz36_7 hcz36_8 hcz36_9
  try clear hcz38_0 hcz38_1 hcz38_10 hcz38_2 hcz38_3 hcz38_4 hcz38_5 hcz38_6 hcz38_7 hcz38_8 hcz38_9
  try clear hcz39_0 hcz39_1 hcz39_10 hcz39_2 hcz39_3 hcz39_4 hcz39_5 hcz39_6 hcz39_7 hcz39_8 hcz39_9
  try clear hcz41_0 hcz41_1 hcz41_10 hcz41_2 hcz41_3 hcz41_4 hcz41_5 hcz41_6 hcz41_7 hcz41_8 hcz41_9
  try clear hcz43_0 hcz43_1 hcz43_10 hcz43_2 hcz43_3 hcz43_4 hcz43_5 hcz43_6 hcz43_7 hcz43_8 hcz43_9
  try clear hcz5_0 hcz5_1 hcz5_10 hcz5_2 hcz5_3 hcz5_4 hcz5_5 hcz5_6 hcz5_7 hcz5_8 hcz5_9
  try clear hcz7_0 hcz7_1 hcz7_10 hcz7_2 hcz7_3 hcz7_4 hcz7_5 hcz7_6 hcz7_7 hcz7_8 hcz7_9
  try clear hcz9_0 hcz9_1 hcz9_10 hcz9_2 hcz9_3 hcz9_4 hcz9_5 hcz9_6 hcz9_7 hcz9_8 hcz9_9
  try clear hfz19_0 hfz19_1 hfz19_10 hfz19_2 hfz19_3 hfz19_4 hfz19_5 hfz19_6 hfz19_7 hfz19_8 hfz19_9
  try clear hfz21_0 hfz21_1 hfz21_10 hfz21_2 hfz21_3 hfz21_4 hfz21_5 hfz21_6 hfz21_7 hfz21_8 hfz21_9
  try clear hfz23_0 hfz23_1 hfz23_10 hfz23_2 hfz23_3 hfz23_4 hfz23_5 hfz23_6 hfz23_7 hfz23_8 hfz23_9
  try clear hfz24_0 hfz24_1 hfz24_10 hfz24_2 hfz24_3 hfz24_4 hfz24_5 hfz24_6 hfz24_7 hfz24_8 hfz24_9
  try clear hfz26_0 hfz26_1 hfz26_10 hfz26_2 hfz26_3 hfz26_4 hfz26_5 hfz26_6 hfz26_7 hfz26_8 hfz26_9
  try clear hfz28_0 hfz28_1 hfz28_10 hfz28_2 hfz28_3 hfz28_4 hfz28_5 hfz28_6 hfz28_7 hfz28_8 hfz28_9
  try clear hfz29_0 hfz29_1 hfz29_10 hfz29_2 hfz29_3 hfz29_4 hfz29_5 hfz29_6 hfz29_7 hfz29_8 hfz29_9
  try clear hfz31_0 hfz31_1 hfz31_10 hfz31_2 hfz31_3 hfz31_4 hfz31_5 hfz31_6 hfz31_7 hfz31_8 hfz31_9
  try clear hfz33_0 hfz33_1 hfz33_10 hfz33_2 hfz33_3 hfz33_4 hfz33_5 hfz33_6 hfz33_7 hfz33_8 hfz33_9
  try clear hfz34_0 hfz34_1 hfz34_10 hfz34_2 hfz34_3 hfz34_4 hfz34_5 hfz34_6 hfz34_7 hfz34_8 hfz34_9
  try clear hfz36_0 hfz36_1 hfz36_10 hfz36_2 hfz36_3 hfz36_4 hfz36_5 hfz36_6 hfz36_7 hfz36_8 hfz36_9
  try clear hfz38_0 hfz38_1 hfz38_10 hfz38_2 hfz38_3 hfz38_4 hfz38_5 hfz38_6 hfz38_7 hfz38_8 hfz38_9
  try clear hfz39_0 hfz39_1 hfz39_10 hfz39_2 hfz39_3 hfz39_4 hfz39_5 hfz39_6 hfz39_7 hfz39_8 hfz39_9
  try clear hfz41_0 hfz41_1 hfz41_10 hfz41_2 hfz41_3 hfz41_4 hfz41_5 hfz41_6 hfz41_7 hfz41_8 hfz41_9
  try clear hfz43_0 hfz43_1 hfz43_10 hfz43_2 hfz43_3 hfz43_4 hfz43_5 hfz43_6 hfz43_7 hfz43_8 hfz43_9
  try clear hfz5_0 hfz5_1 hfz5_10 hfz5_2 hfz5_3 hfz5_4 hfz5_5 hfz5_6 hfz5_7 hfz5_8 hfz5_9
  try clear hfz7_0 hfz7_1 hfz7_10 hfz7_2 hfz7_3 hfz7_4 hfz7_5 hfz7_6 hfz7_7 hfz7_8 hfz7_9
  try clear hfz9_0 hfz9_1 hfz9_10 hfz9_2 hfz9_3 hfz9_4 hfz9_5 hfz9_6 hfz9_7 hfz9_8 hfz9_9
  obtain ⟨kq, x54_1, rfl, HA, HJ1, BK217, HB⟩ := hcut
  cases kq with
  | zero => exact absurd HA.out (by simp [cambiumref16_May.j0])
  | succ kj1 =>
   have H := HA.out
   clear HA
   simp only [cambiumref16_May.j0] at H
   by_cases c45 : x54_1 = true
   ·subst c45
    have H1 : (some false) = some r := by rw [if_pos rfl] at H; exact H
    clear H
    have H := H1
    clear H1
    obtain rfl := Option.some.inj H
    go_wp2
    go_ret
    exact ⟨by first | rfl | (simp [errW_none, errW_some] <;> rfl) | (simp [*, errW_none, errW_some] <;> rfl), by repeat (first | (with_reducible first | exact HB.out | apply below_alloc | apply pw_below_drewN | apply below_drew1 | refine below_set ?_ GE217.out) | exact HB.out)⟩
   replace c45 := Bool.eq_false_iff.mpr c45
   subst c45
   have H1 : (if (l0_8.length : Int) > 16 then (cambiumref16_May.j1 kj1 true a0_0 a0_1 a0_2 a0_3 a0_4 a0_5 a0_6 a0_7 l0_8 l0_9 l0_10) else (if (l0_9.length : Int) > 16 then (cambiumref16_May.j1 kj1 true a0_0 a0_1 a0_2 a0_3 a0_4 a0_5 a0_6 a0_7 l0_8 l0_9 l0_10) else (cambiumref16_May.j1 kj1 (decide ((l0_10.length : Int) > 16)) a0_0 a0_1 a0_2 a0_3 a0_4 a0_5 a0_6 a0_7 l0_8 l0_9 l0_10))) = some r := by rw [if_neg (show ¬ (false = true) by decide)] at H; exact H
   clear H
   have H := H1
   clear H1
   have HC46 := Aside0.mk H
   clear H
   go_upto_region 3 with (fail)
   go_cut [70] (fun v70 wc => ∃ (kq : Nat) (x70_45 : Bool), v70 = .bool x70_45 ∧ Aside0 (cambiumref16_May.j1 kq x70_45 a0_0 a0_1 a0_2 a0_3 a0_4 a0_5 a0_6 a0_7 l0_8 l0_9 l0_10 = some r) ∧ Aside0 (kq ≤ kj1) ∧ Aside0 (wc.heap[gb217]? = some (.cells #[.int .u64 a0_0, .int .u64 a0_1, .int .u64 a0_2, .string a0_3, .string a0_4, .int .i64 a0_5, .int .i64 a0_6, .int .i64 a0_7, (.slice A0_8 l0_8.length c0_8), (.slice A0_9 l0_9.length c0_9), (.slice A0_10 l0_10.length c0_10)] 27 (0, 0))) ∧ Aside0 (Below w.heap.size w wc))
   case first =>
    have H := HC46.out
    clear HC46
    by_cases c47 : (l0_8.length : Int) > 16
    ·rw [if_pos c47] at H
     have c47b0 : decide (16 < (l0_8.length : Int)) = true := decide_eq_true c47
     have c47b1 : decide (16 < l0_8.length) = true := decide_eq_true (by omega)
     clear c47
     (first | rw [c47b0] | (simp only [i64_w, i32_w]; rw [c47b0]) | skip)
     have H' := Aside0.mk H
     clear H
     obtain ⟨hcz48_0, hcz48_1, hcz48_2, hcz48_3, hcz48_4, hcz48_5, hcz48_6, hcz48_7, hcz48_8, hcz48_9, hcz48_10, hfz48_0, hfz48_1, hfz48_2, hfz48_3, hfz48_4, hfz48_5, hfz48_6, hfz48_7, hfz48_8, hfz48_9, hfz48_10⟩ := q15cb11 BK217.out
     go_wp2
     go_meet
     case rel => exact ⟨_, (true), q15y4, H', ⟨by have := HJ1.out; first | omega | exact Nat.le_refl _⟩, ⟨by (with_reducible repeat (first | refine blk_drewN ?_ _ | refine blk_drew ?_ | refine blk_alloc ?_ _)); exact BK217.out⟩, ⟨by repeat (first | (with_reducible first | exact HB.out | apply below_alloc | apply pw_below_drewN | apply below_drew1 | refine below_set ?_ GE217.out) | exact HB.out)⟩⟩
    rw [if_neg c47] at H
    have c47b0 : decide (16 < (l0_8.length : Int)) = false := decide_eq_false c47
    have c47b1 : decide (16 < l0_8.length) = false := decide_eq_false (by omega)
    clear c47
    (first | rw [c47b0] | (simp only [i64_w, i32_w]; rw [c47b0]) | skip)
    by_cases c49 : (l0_9.length : Int) > 16
    ·rw [if_pos c49] at H
     have c49b0 : decide (16 < (l0_9.length : Int)) = true := decide_eq_true c49
     have c49b1 : decide (16 < l0_9.length) = true := decide_eq_true (by omega)
     clear c49
     have H' := Aside0.mk H
     clear H
     obtain ⟨hcz50_0, hcz50_1, hcz50_2, hcz50_3, hcz50_4, hcz50_5, hcz50_6, hcz50_7, hcz50_8, hcz50_9, hcz50_10, hfz50_0, hfz50_1, hfz50_2, hfz50_3, hfz50_4, hfz50_5, hfz50_6, hfz50_7, hfz50_8, hfz50_9, hfz50_10⟩ := q15cb11 BK217.out
     go_wp2
     go_meet
     case rel => exact ⟨_, (true), q15y4, H', ⟨by have := HJ1.out; first | omega | exact Nat.le_refl _⟩, ⟨by (with_reducible repeat (first | refine blk_drewN ?_ _ | refine blk_drew ?_ | refine blk_alloc ?_ _)); exact BK217.out⟩, ⟨by repeat (first | (with_reducible first | exact HB.out | apply below_alloc | apply pw_below_drewN | apply below_drew1 | refine below_set ?_ GE217.out) | exact HB.out)⟩⟩
    rw [if_neg c49] at H
    have c49b0 : decide (16 < (l0_9.length : Int)) = false := decide_eq_false c49
    have c49b1 : decide (16 < l0_9.length) = false := decide_eq_false (by omega)
    clear c49
    have H' := Aside0.mk H
    clear H
    obtain ⟨hcz51_0, hcz51_1, hcz51_2, hcz51_3, hcz51_4, hcz51_5, hcz51_6, hcz51_7, hcz51_8, hcz51_9, hcz51_10, hfz51_0, hfz51_1, hfz51_2, hfz51_3, hfz51_4, hfz51_5, hfz51_6, hfz51_7, hfz51_8, hfz51_9, hfz51_10⟩ := q15cb11 BK217.out
    go_wp2
    go_meet
    case rel => exact ⟨_, (decide ((l0_10.length : Int) > 16)), q15y4, H', ⟨by have := HJ1.out; first | omega | exact Nat.le_refl _⟩, ⟨by (with_reducible repeat (first | refine blk_drewN ?_ _ | refine blk_drew ?_ | refine blk_alloc ?_ _)); exact BK217.out⟩, ⟨by repeat (first | (with_reducible first | exact HB.out | apply below_alloc | apply pw_below_drewN | apply below_drew1 | refine below_set ?_ GE217.out) | exact HB.out)⟩⟩
   case rest =>
    clear HC46
    try clear c1
    try clear p2
    try clear c4
    try clear c4b0
    try clear c4b1
    try clear c6
    try clear c6b0
    try clear c6b1
    try clear c8
    try clear c8b0
    try clear c8b1
    try clear c11
    try clear c13
    try clear c15
    try clear c17
    try clear c18
    try clear c18b0
    try clear c45
    try clear c47
    try clear c47b0
    try clear c47b1
    try clear c49
    try clear c49b0
    try clear c49b1
    try clear hcz19_0 hcz19_1 hcz19_10 hcz19_2 hcz19_3 hcz19_4 hcz19_5 hcz19_6 hcz19_7 hcz19_8 hcz19_9
    try clear hcz21_0 hcz21_1 hcz21_10 hcz21_2 hcz21_3 hcz21_4 hcz21_5 hcz21_6 hcz21_7 hcz21_8 hcz21_9
    try clear hcz23_0 hcz23_1 hcz23_10 hcz23_2 hcz23_3 hcz23_4 hcz23_5 hcz23_6 hcz23_7 hcz23_8 hcz23_9
    try clear hcz24_0 hcz24_1 hcz24_10 hcz24_2 hcz24_3 hcz24_4 hcz24_5 hcz24_6 hcz24_7 hcz24_8 hcz24_9
    try clear hcz26_0 hcz26_1 hcz26_10 hcz26_2 hcz26_3 hcz26_4 hcz26_5 hcz26_6 hcz26_7 hcz26_8 hcz26_9
    try clear hcz28_0 hcz28_1 hcz28_10 hcz28_2 hcz28_3 hcz28_4 hcz28_5 hcz28_6 hcz28_7 hcz28_8 hcz28_9
    try clear hcz29_0 hcz29_1 hcz29_10 hcz29_2 hcz29_3 hcz29_4 hcz29_5 hcz29_6 hcz29_7 hcz29_8 hcz29_9
    try clear hcz31_0 hcz31_1 hcz31_10 hcz31_2 hcz31_3 hcz31_4 hcz31_5 hcz31_6 hcz31_7 hcz31_8 hcz31_9
    try clear hcz33_0 hcz33_1 hcz33_10 hcz33_2 hcz33_3 hcz33_4 hcz33_5 hcz33_6 hcz33_7 hcz33_8 hcz33_9
    try clear hcz34_0 hcz34_1 hcz34_10 hcz34_2 hcz34_3 hcz34_4 hcz34_5 hcz34_6 hcz34_7 hcz34_8 hcz34_9
    try clear hcz36_0 hcz36_1 hcz36_10 hcz36_2 hcz36_3 hcz36_4 hcz36_5 hcz36_6 hcz36_7 hcz36_8 hcz36_9
    try clear hcz38_0 hcz38_1 hcz38_10 hcz38_2 hcz38_3 hcz38_4 hcz38_5 hcz38_6 hcz38_7 hcz38_8 hcz38_9
    try clear hcz39_0 hcz39_1 hcz39_10 hcz39_2 hcz39_3 hcz39_4 hcz39_5 hcz39_6 hcz39_7 hcz39_8 hcz39_9
    try clear hcz41_0 hcz41_1 hcz41_10 hcz41_2 hcz41_3 hcz41_4 hcz41_5 hcz41_6 hcz41_7 hcz41_8 hcz41_9
    try clear hcz43_0 hcz43_1 hcz43_10 hcz43_2 hcz43_3 hcz43_4 hcz43_5 hcz43_6 hcz43_7 hcz43_8 hcz43_9
    try clear hcz48_0 hcz48_1 hcz48_10 hcz48_2 hcz48_3 hcz48_4 hcz48_5 hcz48_6 hcz48_7 hcz48_8 hcz48_9
    try clear hcz50_0 hcz50_1 hcz50_10 hcz50_2 hcz50_3 hcz50_4 hcz50_5 hcz50_6 hcz50_7 hcz50_8 hcz50_9
    try clear hcz51_0 hcz51_1 hcz51_10 hcz51_2 hcz51_3 hcz51_4 hcz51_5 hcz51_6 hcz51_7 hcz51_8 hcz51_9
    try clear hcz5_0 hcz5_1 hcz5_10 hcz5_2 hcz5_3 hcz5_4 hcz5_5 hcz5_6 hcz5_7 hcz5_8 hcz5_9
    try clear hcz7_0 hcz7_1 hcz7_10 hcz7_2 hcz7_3 hcz7_4 hcz7_5 hcz7_6 hcz7_7 hcz7_8 hcz7_9
    try clear hcz9_0 hcz9_1 hcz9_10 hcz9_2 hcz9_3 hcz9_4 hcz9_5 hcz9_6 hcz9_7 hcz9_8 hcz9_9
    try clear hfz19_0 hfz19_1 hfz19_10 hfz19_2 hfz19_3 hfz19_4 hfz19_5 hfz19_6 hfz19_7 hfz19_8 hfz19_9
    try clear hfz21_0 hfz21_1 hfz21_10 hfz21_2 hfz21_3 hfz21_4 hfz21_5 hfz21_6 hfz21_7 hfz21_8 hfz21_9
    try clear hfz23_0 hfz23_1 hfz23_10 hfz23_2 hfz23_3 hfz23_4 hfz23_5 hfz23_6 hfz23_7 hfz23_8 hfz23_9
    try clear hfz24_0 hfz24_1 hfz24_10 hfz24_2 hfz24_3 hfz24_4 hfz24_5 hfz24_6 hfz24_7 hfz24_8 hfz24_9
    try clear hfz26_0 hfz26_1 hfz26_10 hfz26_2 hfz26_3 hfz26_4 hfz26_5 hfz26_6 hfz26_7 hfz26_8 hfz26_9
    try clear hfz28_0 hfz28_1 hfz28_10 hfz28_2 hfz28_3 hfz28_4 hfz28_5 hfz28_6 hfz28_7 hfz28_8 hfz28_9
    try clear hfz29_0 hfz29_1 hfz29_10 hfz29_2 hfz29_3 hfz29_4 hfz29_5 hfz29_6 hfz29_7 hfz29_8 hfz29_9
    try clear hfz31_0 hfz31_1 hfz31_10 hfz31_2 hfz31_3 hfz31_4 hfz31_5 hfz31_6 hfz31_7 hfz31_8 hfz31_9
    try clear hfz33_0 hfz33_1 hfz33_10 hfz33_2 hfz33_3 hfz33_4 hfz33_5 hfz33_6 hfz33_7 hfz33_8 hfz33_9
    try clear hfz34_0 hfz34_1 hfz34_10 hfz34_2 hfz34_3 hfz34_4 hfz34_5 hfz34_6 hfz34_7 hfz34_8 hfz34_9
    try clear hfz36_0 hfz36_1 hfz36_10 hfz36_2 hfz36_3 hfz36_4 hfz36_5 hfz36_6 hfz36_7 hfz36_8 hfz36_9
    try clear hfz38_0 hfz38_1 hfz38_10 hfz38_2 hfz38_3 hfz38_4 hfz38_5 hfz38_6 hfz38_7 hfz38_8 hfz38_9
    try clear hfz39_0 hfz39_1 hfz39_10 hfz39_2 hfz39_3 hfz39_4 hfz39_5 hfz39_6 hfz39_7 hfz39_8 hfz39_9
    try clear hfz41_0 hfz41_1 hfz41_10 hfz41_2 hfz41_3 hfz41_4 hfz41_5 hfz41_6 hfz41_7 hfz41_8 hfz41_9
    try clear hfz43_0 hfz43_1 hfz43_10 hfz43_2 hfz43_3 hfz43_4 hfz43_5 hfz43_6 hfz43_7 hfz43_8 hfz43_9
    try clear hfz48_0 hfz48_1 hfz48_10 hfz48_2 hfz48_3 hfz48_4 hfz48_5 hfz48_6 hfz48_7 hfz48_8 hfz48_9
    try clear hfz50_0 hfz50_1 hfz50_10 hfz50_2 hfz50_3 hfz50_4 hfz50_5 hfz50_6 hfz50_7 hfz50_8 hfz50_9
    try clear hfz51_0 hfz51_1 hfz51_10 hfz51_2 hfz51_3 hfz51_4 hfz51_5 hfz51_6 hfz51_7 hfz51_8 hfz51_9
    try clear hfz5_0 hfz5_1 hfz5_10 hfz5_2 hfz5_3 hfz5_4 hfz5_5 hfz5_6 hfz5_7 hfz5_8 hfz5_9
    try clear hfz7_0 hfz7_1 hfz7_10 hfz7_2 hfz7_3 hfz7_4 hfz7_5 hfz7_6 hfz7_7 hfz7_8 hfz7_9
    try clear hfz9_0 hfz9_1 hfz9_10 hfz9_2 hfz9_3 hfz9_4 hfz9_5 hfz9_6 hfz9_7 hfz9_8 hfz9_9
    try clear p2
    obtain ⟨kq, x70_45, rfl, HA, HJ45, BK217, HB⟩ := hcut
    cases kq with
    | zero => exact absurd HA.out (by simp [cambiumref16_May.j1])
    | succ kj45 =>
     have H := HA.out
     clear HA
     simp only [cambiumref16_May.j1] at H
     by_cases c52 : x70_45 = true
     ·subst c52
      have H1 : (some false) = some r := by rw [if_pos rfl] at H; exact H
      clear H
      have H := H1
      clear H1
      obtain rfl := Option.some.inj H
      go_wp2
      go_ret
      exact ⟨by first | rfl | (simp [errW_none, errW_some] <;> rfl) | (simp [*, errW_none, errW_some] <;> rfl), by repeat (first | (with_reducible first | exact HB.out | apply below_alloc | apply pw_below_drewN | apply below_drew1 | refine below_set ?_ GE217.out) | exact HB.out)⟩
     replace c52 := Bool.eq_false_iff.mpr c52
     subst c52
     have H1 : (cambiumref16_May.l0 kj45 0 a0_0 a0_1 a0_2 a0_3 a0_4 a0_5 a0_6 a0_7 l0_8 l0_9 l0_10) = some r := by rw [if_neg (show ¬ (false = true) by decide)] at H; exact H
     clear H
     have H := H1
     clear H1
     have H' := Aside0.mk H
     clear H
     go_wp2
     go_loopg [3] kj45 (fun kq v3 w' => ∃ (x3_3 : Int), v3 = .int .i64 x3_3 ∧ Aside0 (cambiumref16_May.l0 kq x3_3 a0_0 a0_1 a0_2 a0_3 a0_4 a0_5 a0_6 a0_7 l0_8 l0_9 l0_10 = some r) ∧ Aside0 (kq ≤ kj45) ∧ Aside0 (w'.heap[gb217]? = some (.cells #[.int .u64 a0_0, .int .u64 a0_1, .int .u64 a0_2, .string a0_3, .string a0_4, .int .i64 a0_5, .int .i64 a0_6, .int .i64 a0_7, (.slice A0_8 l0_8.length c0_8), (.slice A0_9 l0_9.length c0_9), (.slice A0_10 l0_10.length c0_10)] 27 (0, 0))) ∧ Aside0 (Below w.heap.size w w'))
     case atStart => exact ⟨(0), q15y4, H', ⟨Nat.le_refl _⟩, ⟨by (with_reducible repeat (first | refine blk_drewN ?_ _ | refine blk_drew ?_ | refine blk_alloc ?_ _)); exact BK217.out⟩, ⟨by repeat (first | (with_reducible first | exact HB.out | apply below_alloc | apply pw_below_drewN | apply below_drew1 | refine below_set ?_ GE217.out) | exact HB.out)⟩⟩
     case round =>
      clear H'
      try clear c1
      try clear p2
      try clear c4
      try clear c4b0
      try clear c4b1
      try clear c5
      try clear c6
      try clear c6b0
      try clear c6b1
      try clear c8
      try clear c8b0
      try clear c8b1
      try clear c11
      try clear c13
      try clear c15
      try clear c17
      try clear c18
      try clear c18b0
      try clear c45
      try clear c47
      try clear c47b0
      try clear c47b1
      try clear c49
      try clear c49b0
      try clear c49b1
      try clear c52
      try clear hcz19_0 hcz19_1 hcz19_10 hcz19_2 hcz19_3 hcz19_4 hcz19_5 hcz19_6 hcz19_7 hcz19_8 hcz19_9
      try clear hcz21_0 hcz21_1 hcz21_10 hcz21_2 hcz21_3 hcz21_4 hcz21_5 hcz21_6 hcz21_7 hcz21_8 hcz21_9
      try clear hcz23_0 hcz23_1 hcz23_10 hcz23_2 hcz23_3 hcz23_4 hcz23_5 hcz23_6 hcz23_7 hcz23_8 hcz23_9
      try clear hcz24_0 hcz24_1 hcz24_10 hcz24_2 hcz24_3 hcz24_4 hcz24_5 hcz24_6 hcz24_7 hcz24_8 hcz24_9
      try clear hcz26_0 hcz26_1 hcz26_10 hcz26_2 hcz26_3 hcz26_4 hcz26_5 hcz26_6 hcz26_7 hcz26_8 hcz26_9
      try clear hcz28_0 hcz28_1 hcz28_10 hcz28_2 hcz28_3 hcz28_4 hcz28_5 hcz28_6 hcz28_7 hcz28_8 hcz28_9
      try clear hcz29_0 hcz29_1 hcz29_10 hcz29_2 hcz29_3 hcz29_4 hcz29_5 hcz29_6 hcz29_7 hcz29_8 hcz29_9
      try clear hcz31_0 hcz31_1 hcz31_10 hcz31_2 hcz31_3 hcz31_4 hcz31_5 hcz31_6 hcz31_7 hcz31_8 hcz31_9
      try clear hcz33_0 hcz33_1 hcz33_10 hcz33_2 hcz33_3 hcz33_4 hcz33_5 hcz33_6 hcz33_7 hcz33_8 hcz33_9
      try clear hcz34_0 hcz34_1 hcz34_10 hcz34_2 hcz34_3 hcz34_4 hcz34_5 hcz34_6 hcz34_7 hcz34_8 hcz34_9
      try clear hcz36_0 hcz36_1 hcz36_10 hcz36_2 hcz36_3 hcz36_4 hcz36_5 hcz36_6 hcz36_7 hcz36_8 hcz36_9
      try clear hcz38_0 hcz38_1 hcz38_10 hcz38_2 hcz38_3 hcz38_4 hcz38_5 hcz38_6 hcz38_7 hcz38_8 hcz38_9
      try clear hcz39_0 hcz39_1 hcz39_10 hcz39_2 hcz39_3 hcz39_4 hcz39_5 hcz39_6 hcz39_7 hcz39_8 hcz39_9
      try clear hcz41_0 hcz41_1 hcz41_10 hcz41_2 hcz41_3 hcz41_4 hcz41_5 hcz41_6 hcz41_7 hcz41_8 hcz41_9
      try clear hcz43_0 hcz43_1 hcz43_10 hcz43_2 hcz43_3 hcz43_4 hcz43_5 hcz43_6 hcz43_7 hcz43_8 hcz43_9
      try clear hcz48_0 hcz48_1 hcz48_10 hcz48_2 hcz48_3 hcz48_4 hcz48_5 hcz48_6 hcz48_7 hcz48_8 hcz48_9
      try clear hcz50_0 hcz50_1 hcz50_10 hcz50_2 hcz50_3 hcz50_4 hcz50_5 hcz50_6 hcz50_7 hcz50_8 hcz50_9
      try clear hcz51_0 hcz51_1 hcz51_10 hcz51_2 hcz51_3 hcz51_4 hcz51_5 hcz51_6 hcz51_7 hcz51_8 hcz51_9
      try clear hcz5_0 hcz5_1 hcz5_10 hcz5_2 hcz5_3 hcz5_4 hcz5_5 hcz5_6 hcz5_7 hcz5_8 hcz5_9
      try clear hcz7_0 hcz7_1 hcz7_10 hcz7_2 hcz7_3 hcz7_4 hcz7_5 hcz7_6 hcz7_7 hcz7_8 hcz7_9
      try clear hcz9_0 hcz9_1 hcz9_10 hcz9_2 hcz9_3 hcz9_4 hcz9_5 hcz9_6 hcz9_7 hcz9_8 hcz9_9
      try clear hfz19_0 hfz19_1 hfz19_10 hfz19_2 hfz19_3 hfz19_4 hfz19_5 hfz19_6 hfz19_7 hfz19_8 hfz19_9
      try clear hfz21_0 hfz21_1 hfz21_10 hfz21_2 hfz21_3 hfz21_4 hfz21_5 hfz21_6 hfz21_7 hfz21_8 hfz21_9
      try clear hfz23_0 hfz23_1 hfz23_10 hfz23_2 hfz23_3 hfz23_4 hfz23_5 hfz23_6 hfz23_7 hfz23_8 hfz23_9
      try clear hfz24_0 hfz24_1 hfz24_10 hfz24_2 hfz24_3 hfz24_4 hfz24_5 hfz24_6 hfz24_7 hfz24_8 hfz24_9
      try clear hfz26_0 hfz26_1 hfz26_10 hfz26_2 hfz26_3 hfz26_4 hfz26_5 hfz26_6 hfz26_7 hfz26_8 hfz26_9
      try clear hfz28_0 hfz28_1 hfz28_10 hfz28_2 hfz28_3 hfz28_4 hfz28_5 hfz28_6 hfz28_7 hfz28_8 hfz28_9
      try clear hfz29_0 hfz29_1 hfz29_10 hfz29_2 hfz29_3 hfz29_4 hfz29_5 hfz29_6 hfz29_7 hfz29_8 hfz29_9
      try clear hfz31_0 hfz31_1 hfz31_10 hfz31_2 hfz31_3 hfz31_4 hfz31_5 hfz31_6 hfz31_7 hfz31_8 hfz31_9
      try clear hfz33_0 hfz33_1 hfz33_10 hfz33_2 hfz33_3 hfz33_4 hfz33_5 hfz33_6 hfz33_7 hfz33_8 hfz33_9
      try clear hfz34_0 hfz34_1 hfz34_10 hfz34_2 hfz34_3 hfz34_4 hfz34_5 hfz34_6 hfz34_7 hfz34_8 hfz34_9
      try clear hfz36_0 hfz36_1 hfz36_10 hfz36_2 hfz36_3 hfz36_4 hfz36_5 hfz36_6 hfz36_7 hfz36_8 hfz36_9
      try clear hfz38_0 hfz38_1 hfz38_10 hfz38_2 hfz38_3 hfz38_4 hfz38_5 hfz38_6 hfz38_7 hfz38_8 hfz38_9
      try clear hfz39_0 hfz39_1 hfz39_10 hfz39_2 hfz39_3 hfz39_4 hfz39_5 hfz39_6 hfz39_7 hfz39_8 hfz39_9
      try clear hfz41_0 hfz41_1 hfz41_10 hfz41_2 hfz41_3 hfz41_4 hfz41_5 hfz41_6 hfz41_7 hfz41_8 hfz41_9
      try clear hfz43_0 hfz43_1 hfz43_10 hfz43_2 hfz43_3 hfz43_4 hfz43_5 hfz43_6 hfz43_7 hfz43_8 hfz43_9
      try clear hfz48_0 hfz48_1 hfz48_10 hfz48_2 hfz48_3 hfz48_4 hfz48_5 hfz48_6 hfz48_7 hfz48_8 hfz48_9
      try clear hfz50_0 hfz50_1 hfz50_10 hfz50_2 hfz50_3 hfz50_4 hfz50_5 hfz50_6 hfz50_7 hfz50_8 hfz50_9
      try clear hfz51_0 hfz51_1 hfz51_10 hfz51_2 hfz51_3 hfz51_4 hfz51_5 hfz51_6 hfz51_7 hfz51_8 hfz51_9
      try clear hfz5_0 hfz5_1 hfz5_10 hfz5_2 hfz5_3 hfz5_4 hfz5_5 hfz5_6 hfz5_7 hfz5_8 hfz5_9
      try clear hfz7_0 hfz7_1 hfz7_10 hfz7_2 hfz7_3 hfz7_4 hfz7_5 hfz7_6 hfz7_7 hfz7_8 hfz7_9
      try clear hfz9_0 hfz9_1 hfz9_10 hfz9_2 hfz9_3 hfz9_4 hfz9_5 hfz9_6 hfz9_7 hfz9_8 hfz9_9
      try clear p2
      obtain ⟨x3_3, rfl, HA, HK3, BK217, HB⟩ := hrel
      cases gk with
      | zero => exact absurd HA.out (by simp [cambiumref16_May.l0])
      | succ k3 =>
       have H := HA.out
       clear HA
       simp only [cambiumref16_May.l0] at H
       by_cases c53 : x3_3 < (l0_8.length : Int)
       rotate_left
       ·rw [if_neg c53] at H
        have c53b0 : decide (x3_3 < (l0_8.length : Int)) = false := decide_eq_false c53
        clear c53
        have H' := Aside0.mk H
        clear H
        obtain ⟨hcz100_0, hcz100_1, hcz100_2, hcz100_3, hcz100_4, hcz100_5, hcz100_6, hcz100_7, hcz100_8, hcz100_9, hcz100_10, hfz100_0, hfz100_1, hfz100_2, hfz100_3, hfz100_4, hfz100_5, hfz100_6, hfz100_7, hfz100_8, hfz100_9, hfz100_10⟩ := q15cb11 BK217.out
        go_wp2
        go_loopg [4] k3 (fun kq v4 w' => ∃ (x4_4 : Int), v4 = .int .i64 x4_4 ∧ Aside0 (cambiumref16_May.l1 kq x4_4 a0_0 a0_1 a0_2 a0_3 a0_4 a0_5 a0_6 a0_7 l0_8 l0_9 l0_10 = some r) ∧ Aside0 (kq ≤ k3) ∧ Aside0 (w'.heap[gb217]? = some (.cells #[.int .u64 a0_0, .int .u64 a0_1, .int .u64 a0_2, .string a0_3, .string a0_4, .int .i64 a0_5, .int .i64 a0_6, .int .i64 a0_7, (.slice A0_8 l0_8.length c0_8), (.slice A0_9 l0_9.length c0_9), (.slice A0_10 l0_10.length c0_10)] 27 (0, 0))) ∧ Aside0 (Below w.heap.size w w'))
        case atStart => exact ⟨(0), q15y4, H', ⟨Nat.le_refl _⟩, ⟨by (with_reducible repeat (first | refine blk_drewN ?_ _ | refine blk_drew ?_ | refine blk_alloc ?_ _)); exact BK217.out⟩, ⟨by repeat (first | (with_reducible first | exact HB.out | apply below_alloc | apply pw_below_drewN | apply below_drew1 | refine below_set ?_ GE217.out) | exact HB.out)⟩⟩
        case round =>
         clear H'
         try clear p2
         try clear q2
         try clear hx2
         try clear c3
         try clear c5
         try clear p22
         try clear q22
         try clear hx22
         try clear c36
         try clear c38
         try clear c53
         try clear c53b0
         try clear c54
         try clear c56
         try clear hcz100_0 hcz100_1 hcz100_10 hcz100_2 hcz100_3 hcz100_4 hcz100_5 hcz100_6 hcz100_7 hcz100_8 hcz100_9
         try clear hcz97_0 hcz97_1 hcz97_10 hcz97_2 hcz97_3 hcz97_4 hcz97_5 hcz97_6 hcz97_7 hcz97_8 hcz97_9
         try clear hfz100_0 hfz100_1 hfz100_10 hfz100_2 hfz100_3 hfz100_4 hfz100_5 hfz100_6 hfz100_7 hfz100_8 hfz100_9
         try clear hfz97_0 hfz97_1 hfz97_10 hfz97_2 hfz97_3 hfz97_4 hfz97_5 hfz97_6 hfz97_7 hfz97_8 hfz97_9
         try clear hx222_0
         try clear hx222_1
         try clear hx222_2
         try clear hx222_3
         try clear hx222_4
         try clear hx224_0
         try clear hx224_1
         try clear hx224_2
         try clear hx224_3
         try clear hx224_4
         try clear p222
         try clear q222
         obtain ⟨x4_4, rfl, HA, HK4, BK217, HB⟩ := hrel
         cases gk with
         | zero => exact absurd HA.out (by simp [cambiumref16_May.l1])
         | succ k4 =>
          have H := HA.out
          clear HA
          simp only [cambiumref16_May.l1] at H
          by_cases c101 : x4_4 < (l0_9.length : Int)
          ·rw [if_pos c101] at H
           have c101b0 : decide (x4_4 < (l0_9.length : Int)) = true := decide_eq_true c101
           clear c101
           by_cases c102 : 0 ≤ x4_4
           rotate_left
           ·rw [if_neg c102] at H
            exact absurd H (by simp)
           rw [if_pos c102] at H
           have c102b0 : decide (0 ≤ x4_4) = true := decide_eq_true c102
           clear c102
           replace H := Option.bind_eq_some_iff.mp H
           obtain ⟨t236, A1030, H⟩ := H
           replace H : (if t236 = true then ((cambiumref16_Name.f k4 ((rd_T55 l0_9 x4_4).f1)).bind fun t238 => (if t238 = true then (cambiumref16_May.l1 k4 (wrap64 (x4_4 + 1)) a0_0 a0_1 a0_2 a0_3 a0_4 a0_5 a0_6 a0_7 l0_8 l0_9 l0_10) else (some false))) else (some false)) = some r := H
           have A103 := Aside0.mk A1030
           clear A1030
           by_cases c104 : t236 = true
           rotate_left
           ·replace c104 := Bool.eq_false_iff.mpr c104
            subst c104
            have H1 : (some false) = some r := by rw [if_neg (show ¬ (false = true) by decide)] at H; exact H
            clear H
            have H := H1
            clear H1
            obtain rfl := Option.some.inj H
            obtain ⟨hcz111_0, hcz111_1, hcz111_2, hcz111_3, hcz111_4, hcz111_5, hcz111_6, hcz111_7, hcz111_8, hcz111_9, hcz111_10, hfz111_0, hfz111_1, hfz111_2, hfz111_3, hfz111_4, hfz111_5, hfz111_6, hfz111_7, hfz111_8, hfz111_9, hfz111_10⟩ := q15cb11 BK217.out
            have p235 : 0 ≤ (x4_4 : Int) := of_decide_eq_true q15y2
            have q235 : x4_4 < (l0_9.length : Int) := of_decide_eq_true q15y2
            obtain ⟨ad235, e235, hx235_0, hx235_1⟩ := at_T55 HR0_9.out x4_4 p235 q235
            cases e235
            replace hx235_0 := (HB.out.cell (World.block_lt_of_cell? w _ hx235_0)).trans hx235_0
            replace hx235_1 := (HB.out.cell (World.block_lt_of_cell? w _ hx235_1)).trans hx235_1
            replace p235 := eq_true p235
            replace q235 := eq_true q235
            go_wp2_with (first | ((with_reducible refine gate_callee (f := 37) rfl ?_); refine goesL_ (some 132) rfl rfl Tryd.func37 (by kernel_rfl) rfl #[.int .i64 ((rd_T55 l0_9 x4_4).f0)] rfl q15y3 ?_; (with_reducible refine (cambiumref16_time.calls ((rd_T55 l0_9 x4_4).f0) false _ A103.out).mono ?_); rintro e w' ⟨rfl, ⟨nd, rfl⟩⟩; refine ⟨_, rfl, ?_⟩))
            go_ret
            exact ⟨by first | rfl | (simp [errW_none, errW_some] <;> rfl) | (simp [*, errW_none, errW_some] <;> rfl), by repeat (first | (with_reducible first | exact HB.out | apply below_alloc | apply pw_below_drewN | apply below_drew1 | refine below_set ?_ GE217.out) | exact HB.out)⟩
           subst c104
           have H1 : ((cambiumref16_Name.f k4 ((rd_T55 l0_9 x4_4).f1)).bind fun t238 => (if t238 = true then (cambiumref16_May.l1 k4 (wrap64 (x4_4 + 1)) a0_0 a0_1 a0_2 a0_3 a0_4 a0_5 a0_6 a0_7 l0_8 l0_9 l0_10) else (some false))) = some r := by rw [if_pos rfl] at H; exact H
           clear H
           have H := H1
           clear H1
           replace H := Option.bind_eq_some_iff.mp H
           obtain ⟨t238, A1050, H⟩ := H
           replace H : (if t238 = true then (cambiumref16_May.l1 k4 (wrap64 (x4_4 + 1)) a0_0 a0_1 a0_2 a0_3 a0_4 a0_5 a0_6 a0_7 l0_8 l0_9 l0_10) else (some false)) = some r := H
           have A105 := Aside0.mk A1050
           clear A1050
           by_cases c106 : t238 = true
           rotate_left
           ·replace c106 := Bool.eq_false_iff.mpr c106
            subst c106
            have H1 : (some false) = some r := by rw [if_neg (show ¬ (false = true) by decide)] at H; exact H
            clear H
            have H := H1
            clear H1
            obtain rfl := Option.some.inj H
            obtain ⟨hcz109_0, hcz109_1, hcz109_2, hcz109_3, hcz109_4, hcz109_5, hcz109_6, hcz109_7, hcz109_8, hcz109_9, hcz109_10, hfz109_0, hfz109_1, hfz109_2, hfz109_3, hfz109_4, hfz109_5, hfz109_6, hfz109_7, hfz109_8, hfz109_9, hfz109_10⟩ := q15cb11 BK217.out
            have p235 : 0 ≤ (x4_4 : Int) := of_decide_eq_true q15y2
            have q235 : x4_4 < (l0_9.length : Int) := of_decide_eq_true q15y2
            obtain ⟨ad235, e235, hx235_0, hx235_1⟩ := at_T55 HR0_9.out x4_4 p235 q235
            cases e235
            replace hx235_0 := (HB.out.cell (World.block_lt_of_cell? w _ hx235_0)).trans hx235_0
            replace hx235_1 := (HB.out.cell (World.block_lt_of_cell? w _ hx235_1)).trans hx235_1
            replace p235 := eq_true p235
            replace q235 := eq_true q235
            go_wp2_with (first | ((with_reducible refine gate_callee (f := 37) rfl ?_); refine goesL_ (some 132) rfl rfl Tryd.func37 (by kernel_rfl) rfl #[.int .i64 ((rd_T55 l0_9 x4_4).f0)] rfl q15y3 ?_; (with_reducible refine (cambiumref16_time.calls ((rd_T55 l0_9 x4_4).f0) true _ A103.out).mono ?_); rintro e w' ⟨rfl, ⟨nd, rfl⟩⟩; refine ⟨_, rfl, ?_⟩; have p237 : 0 ≤ (x4_4 : Int) := of_decide_eq_true q15y2; have q237 : x4_4 < (l0_9.length : Int) := of_decide_eq_true q15y2; obtain ⟨ad237, e237, hx237_0, hx237_1⟩ := at_T55 HR0_9.out x4_4 p237 q237; obtain rfl : ad235 = ad237 := (by injection e237); replace hx237_0 := (HB.out.cell (World.block_lt_of_cell? w _ hx237_0)).trans hx237_0; replace hx237_1 := (HB.out.cell (World.block_lt_of_cell? w _ hx237_1)).trans hx237_1; replace p237 := eq_true p237; replace q237 := eq_true q237) | (go_at_call 36; (with_reducible refine (cambiumref16_Name.calls k4 ((rd_T55 l0_9 x4_4).f1) false _ A105.out).mono ?_); rintro e w110 ⟨rfl, hb⟩; replace BK217 := Aside0.mk (blk_below q15y1 hb); replace HB := Aside0.mk (below_step q15y0 hb); (try clear hb); (try clear hb2); (try clear hk); (try clear hi)))
            go_ret
            exact ⟨by first | rfl | (simp [errW_none, errW_some] <;> rfl) | (simp [*, errW_none, errW_some] <;> rfl), by repeat (first | (with_reducible first | exact HB.out | apply below_alloc | apply pw_below_drewN | apply below_drew1 | refine below_set ?_ GE217.out) | exact HB.out)⟩
           subst c106
           have H1 : (cambiumref16_May.l1 k4 (wrap64 (x4_4 + 1)) a0_0 a0_1 a0_2 a0_3 a0_4 a0_5 a0_6 a0_7 l0_8 l0_9 l0_10) = some r := by rw [if_pos rfl] at H; exact H
           clear H
           have H := H1
           clear H1
           have H' := Aside0.mk H
           clear H
           obtain ⟨hcz107_0, hcz107_1, hcz107_2, hcz107_3, hcz107_4, hcz107_5, hcz107_6, hcz107_7, hcz107_8, hcz107_9, hcz107_10, hfz107_0, hfz107_1, hfz107_2, hfz107_3, hfz107_4, hfz107_5, hfz107_6, hfz107_7, hfz107_8, hfz107_9, hfz107_10⟩ := q15cb11 BK217.out
           have p235 : 0 ≤ (x4_4 : Int) := of_decide_eq_true q15y2
           have q235 : x4_4 < (l0_9.length : Int) := of_decide_eq_true q15y2
           obtain ⟨ad235, e235, hx235_0, hx235_1⟩ := at_T55 HR0_9.out x4_4 p235 q235
           cases e235
           replace hx235_0 := (HB.out.cell (World.block_lt_of_cell? w _ hx235_0)).trans hx235_0
           replace hx235_1 := (HB.out.cell (World.block_lt_of_cell? w _ hx235_1)).trans hx235_1
           replace p235 := eq_true p235
           replace q235 := eq_true q235
           go_wp2_with (first | ((with_reducible refine gate_callee (f := 37) rfl ?_); refine goesL_ (some 132) rfl rfl Tryd.func37 (by kernel_rfl) rfl #[.int .i64 ((rd_T55 l0_9 x4_4).f0)] rfl q15y3 ?_; (with_reducible refine (cambiumref16_time.calls ((rd_T55 l0_9 x4_4).f0) true _ A103.out).mono ?_); rintro e w' ⟨rfl, ⟨nd, rfl⟩⟩; refine ⟨_, rfl, ?_⟩; have p237 : 0 ≤ (x4_4 : Int) := of_decide_eq_true q15y2; have q237 : x4_4 < (l0_9.length : Int) := of_decide_eq_true q15y2; obtain ⟨ad237, e237, hx237_0, hx237_1⟩ := at_T55 HR0_9.out x4_4 p237 q237; obtain rfl : ad235 = ad237 := (by injection e237); replace hx237_0 := (HB.out.cell (World.block_lt_of_cell? w _ hx237_0)).trans hx237_0; replace hx237_1 := (HB.out.cell (World.block_lt_of_cell? w _ hx237_1)).trans hx237_1; replace p237 := eq_true p237; replace q237 := eq_true q237) | (go_at_call 36; (with_reducible refine (cambiumref16_Name.calls k4 ((rd_T55 l0_9 x4_4).f1) true _ A105.out).mono ?_); rintro e w108 ⟨rfl, hb⟩; replace BK217 := Aside0.mk (blk_below q15y1 hb); replace HB := Aside0.mk (below_step q15y0 hb); (try clear hb); (try clear hb2); (try clear hk); (try clear hi)))
           go_roundg k4
           case measure => have := HJ1.out; have := HJ45.out; have := HK3.out; have := HK4.out; omega
           case rel => exact ⟨(wrap64 (x4_4 + 1)), q15y4, H', ⟨by have := HJ1.out; have := HJ45.out; have := HK3.out; have := HK4.out; omega⟩, ⟨by (with_reducible repeat (first | refine blk_drewN ?_ _ | refine blk_drew ?_ | refine blk_alloc ?_ _)); exact BK217.out⟩, ⟨by repeat (first | (with_reducible first | exact HB.out | apply below_alloc | apply pw_below_drewN | apply below_drew1 | refine below_set ?_ GE217.out) | exact HB.out)⟩⟩
          rw [if_neg c101] at H
          have c101b0 : decide (x4_4 < (l0_9.length : Int)) = false := decide_eq_false c101
          clear c101
          have H' := Aside0.mk H
          clear H
          obtain ⟨hcz112_0, hcz112_1, hcz112_2, hcz112_3, hcz112_4, hcz112_5, hcz112_6, hcz112_7, hcz112_8, hcz112_9, hcz112_10, hfz112_0, hfz112_1, hfz112_2, hfz112_3, hfz112_4, hfz112_5, hfz112_6, hfz112_7, hfz112_8, hfz112_9, hfz112_10⟩ := q15cb11 BK217.out
          go_wp2
          go_loopg [5] k4 (fun kq v5 w' => ∃ (x5_5 : Int), v5 = .int .i64 x5_5 ∧ Aside0 (cambiumref16_May.l2 kq x5_5 a0_0 a0_1 a0_2 a0_3 a0_4 a0_5 a0_6 a0_7 l0_8 l0_9 l0_10 = some r) ∧ Aside0 (kq ≤ k4) ∧ Aside0 (w'.heap[gb217]? = some (.cells #[.int .u64 a0_0, .int .u64 a0_1, .int .u64 a0_2, .string a0_3, .string a0_4, .int .i64 a0_5, .int .i64 a0_6, .int .i64 a0_7, (.slice A0_8 l0_8.length c0_8), (.slice A0_9 l0_9.length c0_9), (.slice A0_10 l0_10.length c0_10)] 27 (0, 0))) ∧ Aside0 (Below w.heap.size w w'))
          case atStart => exact ⟨(0), q15y4, H', ⟨Nat.le_refl _⟩, ⟨by (with_reducible repeat (first | refine blk_drewN ?_ _ | refine blk_drew ?_ | refine blk_alloc ?_ _)); exact BK217.out⟩, ⟨by repeat (first | (with_reducible first | exact HB.out | apply below_alloc | apply pw_below_drewN | apply below_drew1 | refine below_set ?_ GE217.out) | exact HB.out)⟩⟩
          case round =>
           clear H'
           try clear c1
           try clear p2
           try clear q2
           try clear hx2
           try clear c3
           try clear c5
           try clear p6
           try clear c10
           try clear p22
           try clear q22
           try clear hx22
           try clear p23
           try clear q23
           try clear hx23
           try clear c36
           try clear c37
           try clear c38
           try clear c53
           try clear c53b0
           try clear c54
           try clear c56
           try clear p64
           try clear c101
           try clear c101b0
           try clear c102
           try clear c102b0
           try clear c104
           try clear c106
           try clear hcz100_0 hcz100_1 hcz100_10 hcz100_2 hcz100_3 hcz100_4 hcz100_5 hcz100_6 hcz100_7 hcz100_8 hcz100_9
           try clear hcz107_0 hcz107_1 hcz107_10 hcz107_2 hcz107_3 hcz107_4 hcz107_5 hcz107_6 hcz107_7 hcz107_8 hcz107_9
           try clear hcz109_0 hcz109_1 hcz109_10 hcz109_2 hcz109_3 hcz109_4 hcz109_5 hcz109_6 hcz109_7 hcz109_8 hcz109_9
           try clear hcz111_0 hcz111_1 hcz111_10 hcz111_2 hcz111_3 hcz111_4 hcz111_5 hcz111_6 hcz111_7 hcz111_8 hcz111_9
           try clear hcz112_0 hcz112_1 hcz112_10 hcz112_2 hcz112_3 hcz112_4 hcz112_5 hcz112_6 hcz112_7 hcz112_8 hcz112_9
           try clear hcz97_0 hcz97_1 hcz97_10 hcz97_2 hcz97_3 hcz97_4 hcz97_5 hcz97_6 hcz97_7 hcz97_8 hcz97_9
           try clear hfz100_0 hfz100_1 hfz100_10 hfz100_2 hfz100_3 hfz100_4 hfz100_5 hfz100_6 hfz100_7 hfz100_8 hfz100_9
           try clear hfz107_0 hfz107_1 hfz107_10 hfz107_2 hfz107_3 hfz107_4 hfz107_5 hfz107_6 hfz107_7 hfz107_8 hfz107_9
           try clear hfz109_0 hfz109_1 hfz109_10 hfz109_2 hfz109_3 hfz109_4 hfz109_5 hfz109_6 hfz109_7 hfz109_8 hfz109_9
           try clear hfz111_0 hfz111_1 hfz111_10 hfz111_2 hfz111_3 hfz111_4 hfz111_5 hfz111_6 hfz111_7 hfz111_8 hfz111_9
           try clear hfz112_0 hfz112_1 hfz112_10 hfz112_2 hfz112_3 hfz112_4 hfz112_5 hfz112_6 hfz112_7 hfz112_8 hfz112_9
           try clear hfz97_0 hfz97_1 hfz97_10 hfz97_2 hfz97_3 hfz97_4 hfz97_5 hfz97_6 hfz97_7 hfz97_8 hfz97_9
           try clear hx222_0
           try clear hx222_1
           try clear hx222_2
           try clear hx222_3
           try clear hx222_4
           try clear hx224_0
           try clear hx224_1
           try clear hx224_2
           try clear hx224_3
           try clear hx224_4
           try clear hx235_0
           try clear hx235_1
           try clear hx237_0
           try clear hx237_1
           try clear p2
           try clear p22
           try clear p222
           try clear p235
           try clear p237
           try clear q2
           try clear q22
           try clear q222
           try clear q235
           try clear q237
           obtain ⟨x5_5, rfl, HA, HK5, BK217, HB⟩ := hrel
           cases gk with
           | zero => exact absurd HA.out (by simp [cambiumref16_May.l2])
           | succ k5 =>
            have H := HA.out
            clear HA
            simp only [cambiumref16_May.l2] at H
            by_cases c113 : x5_5 < (l0_10.length : Int)
            rotate_left
            ·rw [if_neg c113] at H
             have c113b0 : decide (x5_5 < (l0_10.length : Int)) = false := decide_eq_false c113
             clear c113
             obtain rfl := Option.some.inj H
             obtain ⟨hcz120_0, hcz120_1, hcz120_2, hcz120_3, hcz120_4, hcz120_5, hcz120_6, hcz120_7, hcz120_8, hcz120_9, hcz120_10, hfz120_0, hfz120_1, hfz120_2, hfz120_3, hfz120_4, hfz120_5, hfz120_6, hfz120_7, hfz120_8, hfz120_9, hfz120_10⟩ := q15cb11 BK217.out
             go_wp2
             go_ret
             exact ⟨by first | rfl | (simp [errW_none, errW_some] <;> rfl) | (simp [*, errW_none, errW_some] <;> rfl), by repeat (first | (with_reducible first | exact HB.out | apply below_alloc | apply pw_below_drewN | apply below_drew1 | refine below_set ?_ GE217.out) | exact HB.out)⟩

            rw [if_pos c113] at H
            have c113b0 : decide (x5_5 < (l0_10.length : Int)) = true := decide_eq_true c113
            clear c113
            by_cases c114 : 0 ≤ x5_5
            rotate_left
            ·rw [if_neg c114] at H
             exact absurd H (by simp)
            rw [if_pos c114] at H
            have c114b0 : decide (0 ≤ x5_5) = true := decide_eq_true c114
            clear c114
            by_cases c115 : ((rd_T68 l0_10 x5_5).f0) = 0
            ·rw [if_pos c115] at H
             have c115b0 : (((rd_T68 l0_10 x5_5).f0) == 0) = true := beq_iff_eq.mpr c115
             have c115b1 : (((rd_T68 l0_10 x5_5).f0) != 0) = false := bne_eq_false_iff_eq.mpr c115
             clear c115
             obtain rfl := Option.some.inj H
             obtain ⟨hcz116_0, hcz116_1, hcz116_2, hcz116_3, hcz116_4, hcz116_5, hcz116_6, hcz116_7, hcz116_8, hcz116_9, hcz116_10, hfz116_0, hfz116_1, hfz116_2, hfz116_3, hfz116_4, hfz116_5, hfz116_6, hfz116_7, hfz116_8, hfz116_9, hfz116_10⟩ := q15cb11 BK217.out
             have p239 : 0 ≤ (x5_5 : Int) := of_decide_eq_true q15y2
             have q239 : x5_5 < (l0_10.length : Int) := of_decide_eq_true q15y2
             obtain ⟨ad239, e239, hx239_0, hx239_1⟩ := at_T68 HR0_10.out x5_5 p239 q239
             cases e239
             replace hx239_0 := (HB.out.cell (World.block_lt_of_cell? w _ hx239_0)).trans hx239_0
             replace hx239_1 := (HB.out.cell (World.block_lt_of_cell? w _ hx239_1)).trans hx239_1
             replace p239 := eq_true p239
             replace q239 := eq_true q239
             go_wp2
             go_ret
             exact ⟨by first | rfl | (simp [errW_none, errW_some] <;> rfl) | (simp [*, errW_none, errW_some] <;> rfl), by repeat (first | (with_reducible first | exact HB.out | apply below_alloc | apply pw_below_drewN | apply below_drew1 | refine below_set ?_ GE217.out) | exact HB.out)⟩
            rw [if_neg c115] at H
            have c115b0 : (((rd_T68 l0_10 x5_5).f0) == 0) = false := beq_eq_false_iff_ne.mpr c115
            have c115b1 : (((rd_T68 l0_10 x5_5).f0) != 0) = true := bne_iff_ne.mpr c115
            by_cases c117 : ((rd_T68 l0_10 x5_5).f1) = 0
            ·rw [if_pos c117] at H
             have c117b0 : (((rd_T68 l0_10 x5_5).f1) == 0) = true := beq_iff_eq.mpr c117
             have c117b1 : (((rd_T68 l0_10 x5_5).f1) != 0) = false := bne_eq_false_iff_eq.mpr c117
             clear c117
             obtain rfl := Option.some.inj H
             obtain ⟨hcz118_0, hcz118_1, hcz118_2, hcz118_3, hcz118_4, hcz118_5, hcz118_6, hcz118_7, hcz118_8, hcz118_9, hcz118_10, hfz118_0, hfz118_1, hfz118_2, hfz118_3, hfz118_4, hfz118_5, hfz118_6, hfz118_7, hfz118_8, hfz118_9, hfz118_10⟩ := q15cb11 BK217.out
             have p239 : 0 ≤ (x5_5 : Int) := of_decide_eq_true q15y2
             have q239 : x5_5 < (l0_10.length : Int) := of_decide_eq_true q15y2
             obtain ⟨ad239, e239, hx239_0, hx239_1⟩ := at_T68 HR0_10.out x5_5 p239 q239
             cases e239
             replace hx239_0 := (HB.out.cell (World.block_lt_of_cell? w _ hx239_0)).trans hx239_0
             replace hx239_1 := (HB.out.cell (World.block_lt_of_cell? w _ hx239_1)).trans hx239_1
             replace p239 := eq_true p239
             replace q239 := eq_true q239
             have p240 : 0 ≤ (x5_5 : Int) := of_decide_eq_true q15y2
             have q240 : x5_5 < (l0_10.length : Int) := of_decide_eq_true q15y2
             obtain ⟨ad240, e240, hx240_0, hx240_1⟩ := at_T68 HR0_10.out x5_5 p240 q240
             obtain rfl : ad239 = ad240 := (by injection e240)
             replace hx240_0 := (HB.out.cell (World.block_lt_of_cell? w _ hx240_0)).trans hx240_0
             replace hx240_1 := (HB.out.cell (World.block_lt_of_cell? w _ hx240_1)).trans hx240_1
             replace p240 := eq_true p240
             replace q240 := eq_true q240
             go_wp2
             go_ret
             exact ⟨by first | rfl | (simp [errW_none, errW_some] <;> rfl) | (simp [*, errW_none, errW_some] <;> rfl), by repeat (first | (with_reducible first | exact HB.out | apply below_alloc | apply pw_below_drewN | apply below_drew1 | refine below_set ?_ GE217.out) | exact HB.out)⟩
            rw [if_neg c117] at H
            have c117b0 : (((rd_T68 l0_10 x5_5).f1) == 0) = false := beq_eq_false_iff_ne.mpr c117
            have c117b1 : (((rd_T68 l0_10 x5_5).f1) != 0) = true := bne_iff_ne.mpr c117
            have H' := Aside0.mk H
            clear H
            obtain ⟨hcz119_0, hcz119_1, hcz119_2, hcz119_3, hcz119_4, hcz119_5, hcz119_6, hcz119_7, hcz119_8, hcz119_9, hcz119_10, hfz119_0, hfz119_1, hfz119_2, hfz119_3, hfz119_4, hfz119_5, hfz119_6, hfz119_7, hfz119_8, hfz119_9, hfz119_10⟩ := q15cb11 BK217.out
            have p239 : 0 ≤ (x5_5 : Int) := of_decide_eq_true q15y2
            have q239 : x5_5 < (l0_10.length : Int) := of_decide_eq_true q15y2
            obtain ⟨ad239, e239, hx239_0, hx239_1⟩ := at_T68 HR0_10.out x5_5 p239 q239
            cases e239
            replace hx239_0 := (HB.out.cell (World.block_lt_of_cell? w _ hx239_0)).trans hx239_0
            replace hx239_1 := (HB.out.cell (World.block_lt_of_cell? w _ hx239_1)).trans hx239_1
            replace p239 := eq_true p239
            replace q239 := eq_true q239
            have p240 : 0 ≤ (x5_5 : Int) := of_decide_eq_true q15y2
            have q240 : x5_5 < (l0_10.length : Int) := of_decide_eq_true q15y2
            obtain ⟨ad240, e240, hx240_0, hx240_1⟩ := at_T68 HR0_10.out x5_5 p240 q240
            obtain rfl : ad239 = ad240 := (by injection e240)
            replace hx240_0 := (HB.out.cell (World.block_lt_of_cell? w _ hx240_0)).trans hx240_0
            replace hx240_1 := (HB.out.cell (World.block_lt_of_cell? w _ hx240_1)).trans hx240_1
            replace p240 := eq_true p240
            replace q240 := eq_true q240
            go_wp2
            go_roundg k5
            case measure => have := HJ1.out; have := HJ45.out; have := HK3.out; have := HK4.out; have := HK5.out; omega
            case rel => exact ⟨(wrap64 (x5_5 + 1)), q15y4, H', ⟨by have := HJ1.out; have := HJ45.out; have := HK3.out; have := HK4.out; have := HK5.out; omega⟩, ⟨by (with_reducible repeat (first | refine blk_drewN ?_ _ | refine blk_drew ?_ | refine blk_alloc ?_ _)); exact BK217.out⟩, ⟨by repeat (first | (with_reducible first | exact HB.out | apply below_alloc | apply pw_below_drewN | apply below_drew1 | refine below_set ?_ GE217.out) | exact HB.out)⟩⟩
       rw [if_pos c53] at H
       have c53b0 : decide (x3_3 < (l0_8.length : Int)) = true := decide_eq_true c53
       clear c53
       by_cases c54 : 0 ≤ x3_3
       rotate_left
       ·rw [if_neg c54] at H
        exact absurd H (by simp)
       rw [if_pos c54] at H
       have c54b0 : decide (0 ≤ x3_3) = true := decide_eq_true c54
       clear c54
       replace H := Option.bind_eq_some_iff.mp H
       obtain ⟨t223, A550, H⟩ := H
       replace H : (if t223 = true then ((cambiumref16_Value.f k3 ((rd_T53 l0_8 x3_3).f1.f0) ((rd_T53 l0_8 x3_3).f1.f1) ((rd_T53 l0_8 x3_3).f1.f2) ((rd_T53 l0_8 x3_3).f1.f3)).bind fun t225 => (if t225 = true then (if x3_3 > 0 then (if 0 ≤ (wrap64 (x3_3 - 1)) then (if (wrap64 (x3_3 - 1)) < (l0_8.length : Int) then (if (((rd_T53 l0_8 (wrap64 (x3_3 - 1))).f0).size : Int) ≤ 140737488355328 then (if (((rd_T53 l0_8 x3_3).f0).size : Int) ≤ 140737488355328 then ((cambiumref01_Less.f k3 (bytesOf ((rd_T53 l0_8 (wrap64 (x3_3 - 1))).f0)) (bytesOf ((rd_T53 l0_8 x3_3).f0))).bind fun t234 => (if t234 = true then (cambiumref16_May.l0 k3 (wrap64 (x3_3 + 1)) a0_0 a0_1 a0_2 a0_3 a0_4 a0_5 a0_6 a0_7 l0_8 l0_9 l0_10) else (some false))) else (none)) else (none)) else (none)) else (none)) else (cambiumref16_May.l0 k3 (wrap64 (x3_3 + 1)) a0_0 a0_1 a0_2 a0_3 a0_4 a0_5 a0_6 a0_7 l0_8 l0_9 l0_10)) else (some false))) else (some false)) = some r := H
       have A55 := Aside0.mk A550
       clear A550
       by_cases c56 : t223 = true
       rotate_left
       ·replace c56 := Bool.eq_false_iff.mpr c56
        subst c56
        have H1 : (some false) = some r := by rw [if_neg (show ¬ (false = true) by decide)] at H; exact H
        clear H
        have H := H1
        clear H1
        obtain rfl := Option.some.inj H
        obtain ⟨hcz97_0, hcz97_1, hcz97_2, hcz97_3, hcz97_4, hcz97_5, hcz97_6, hcz97_7, hcz97_8, hcz97_9, hcz97_10, hfz97_0, hfz97_1, hfz97_2, hfz97_3, hfz97_4, hfz97_5, hfz97_6, hfz97_7, hfz97_8, hfz97_9, hfz97_10⟩ := q15cb11 BK217.out
        try go_wp2
        replace BK217 := Aside0.mk (blk_drew BK217.out)
        replace HB := Aside0.mk (below_drew1 HB.out)
        have p222 : 0 ≤ (x3_3 : Int) := of_decide_eq_true q15y2
        have q222 : x3_3 < (l0_8.length : Int) := of_decide_eq_true q15y2
        obtain ⟨ad222, e222, hx222_0, hx222_1, hx222_2, hx222_3, hx222_4⟩ := at_T53 HR0_8.out x3_3 p222 q222
        have hw222_4 := hx222_4
        have hw222_3 := hx222_3
        have hw222_2 := hx222_2
        have hw222_1 := hx222_1
        have hw222_0 := hx222_0
        cases e222
        replace hx222_0 := (HB.out.cell (World.block_lt_of_cell? w _ hx222_0)).trans hx222_0
        replace hx222_1 := (HB.out.cell (World.block_lt_of_cell? w _ hx222_1)).trans hx222_1
        replace hx222_2 := (HB.out.cell (World.block_lt_of_cell? w _ hx222_2)).trans hx222_2
        replace hx222_3 := (HB.out.cell (World.block_lt_of_cell? w _ hx222_3)).trans hx222_3
        replace hx222_4 := (HB.out.cell (World.block_lt_of_cell? w _ hx222_4)).trans hx222_4
        replace p222 := eq_true p222
        replace q222 := eq_true q222
        as_aux_lemma =>
         refine start_ (n := 41) (S := fun w' => w'.cell? ⟨gb217, 0, none⟩ = some (.int .u64 a0_0) ∧ w'.cell? ⟨gb217, 1, none⟩ = some (.int .u64 a0_1) ∧ w'.cell? ⟨gb217, 2, none⟩ = some (.int .u64 a0_2) ∧ w'.cell? ⟨gb217, 3, none⟩ = some (.string a0_3) ∧ w'.cell? ⟨gb217, 4, none⟩ = some (.string a0_4) ∧ w'.cell? ⟨gb217, 5, none⟩ = some (.int .i64 a0_5) ∧ w'.cell? ⟨gb217, 6, none⟩ = some (.int .i64 a0_6) ∧ w'.cell? ⟨gb217, 7, none⟩ = some (.int .i64 a0_7) ∧ w'.cell? ⟨gb217, 8, none⟩ = some (.slice (some ad222) l0_8.length c0_8) ∧ w'.cell? ⟨gb217, 9, none⟩ = some (.slice A0_9 l0_9.length c0_9) ∧ w'.cell? ⟨gb217, 10, none⟩ = some (.slice A0_10 l0_10.length c0_10) ∧ w'.cell? (ad222.add ((x3_3).toNat * 5)) = some (.string ((rd_T53 l0_8 x3_3).f0)) ∧ w'.cell? ⟨(ad222.add ((x3_3).toNat * 5)).block, (ad222.add ((x3_3).toNat * 5)).off + 1, none⟩ = some (.int .i64 ((rd_T53 l0_8 x3_3).f1.f0)) ∧ w'.cell? ⟨(ad222.add ((x3_3).toNat * 5)).block, (ad222.add ((x3_3).toNat * 5)).off + 2, none⟩ = some (.string ((rd_T53 l0_8 x3_3).f1.f1)) ∧ w'.cell? ⟨(ad222.add ((x3_3).toNat * 5)).block, (ad222.add ((x3_3).toNat * 5)).off + 3, none⟩ = some (.int .i64 ((rd_T53 l0_8 x3_3).f1.f2)) ∧ w'.cell? ⟨(ad222.add ((x3_3).toNat * 5)).block, (ad222.add ((x3_3).toNat * 5)).off + 4, none⟩ = some (.bool ((rd_T53 l0_8 x3_3).f1.f3))) (ds := []) #[false, false, false, false, false, false, false, false, false, false, false, false, false, false, false, false, false, false, false, false, false, false, false, false, false, false, false, false, false, false, false, false, false, false, false, false, false, false, false, false, false] (by kernel_rfl) rfl rfl ⟨q15k BK217.out 0, q15k BK217.out 1, q15k BK217.out 2, q15k BK217.out 3, q15k BK217.out 4, q15k BK217.out 5, q15k BK217.out 6, q15k BK217.out 7, q15k BK217.out 8, q15k BK217.out 9, q15k BK217.out 10, (q15h HB.out hw222_0:), (q15h HB.out hw222_1:), (q15h HB.out hw222_2:), (q15h HB.out hw222_3:), (q15h HB.out hw222_4:)⟩ (fun hHeld => ?_); refine with_tabW cambiumref16_May.tab8 cambiumref16_May.bits8 (fun HT_ HW_ => ?_)
         generalize wr.drew = w98 at BK217 HB hx222_0 hx222_1 hx222_2 hx222_3 hx222_4 hHeld ⊢
         refine q15p (i := 0) (N := some 78) (q15m 41 1) HT_.out ?_
         refine q15p (i := 2) (N := some 80) (q15m 41 5) HT_.out ?_
         refine take_ (i := 1) (N := some 79) (v := ?_) (a' := ?_) (q15m 41 7) rfl rfl (take_ofW HT_.out HW_.out (by kernel_rfl)) (fun _ _ _ h => h) (Or.inl ⟨by rfl, ?_⟩) hHeld ?_ ?_; rotate_left; (rintro w' ⟨s0, s1, s2, s3, s4, s5, s6, s7, s8, s9, s10, s11, s12, s13, s14, s15⟩; go_simp; with_reducible rfl); rotate_left; (simp only [Act.put, q15a, q15b, q15c, i64_w, i32_w]; rfl)
         refine q15p (i := 3) (N := some 81) (q15m 41 15) HT_.out ?_
         refine q15p (i := 4) (N := some 82) (q15m 41 31) HT_.out ?_
         refine take_ (i := 5) (N := some 83) (v := ?_) (a' := ?_) (q15m 41 63) rfl rfl (take_ofW HT_.out HW_.out (by kernel_rfl)) (fun _ _ _ h => h) (Or.inl ⟨by rfl, ?_⟩) hHeld ?_ ?_; rotate_left; (rintro w' ⟨s0, s1, s2, s3, s4, s5, s6, s7, s8, s9, s10, s11, s12, s13, s14, s15⟩; go_simp; with_reducible rfl); rotate_left; (simp only [Act.put, q15a, q15b, q15c, i64_w, i32_w]; rfl)
         refine one_ (i := 6) (N := some 84) (q15m 41 127) rfl rfl (one_of HT_.out (by kernel_rfl)) (by decide) (fun K hK => ?_)
         refine goes_ Tryd.func36 (by kernel_rfl) rfl #[.string ((rd_T53 l0_8 x3_3).f0)] (by rfl) rfl rfl q15y3 ?_
         with_reducible refine (cambiumref16_Name.calls k3 ((rd_T53 l0_8 x3_3).f0) false _ A55.out).mono ?_
         rintro e w99 ⟨rfl, hb⟩
         refine ⟨_, rfl, ?_⟩
         replace BK217 := Aside0.mk (blk_below q15y1 hb)
         replace HB := Aside0.mk (below_step q15y0 hb)
         (try clear hb)
         (try clear hb2)
         (try clear hk)
         (try clear hi)
         refine hK.out _ _ ⟨q15k BK217.out 0, q15k BK217.out 1, q15k BK217.out 2, q15k BK217.out 3, q15k BK217.out 4, q15k BK217.out 5, q15k BK217.out 6, q15k BK217.out 7, q15k BK217.out 8, q15k BK217.out 9, q15k BK217.out 10, (q15h HB.out hw222_0:), (q15h HB.out hw222_1:), (q15h HB.out hw222_2:), (q15h HB.out hw222_3:), (q15h HB.out hw222_4:)⟩ (fun hHeld => ?_)
         clear hK K
         refine norm_ (a' := ?_) ?_ ?_
         rotate_left
         ·show Act.put _ (some 84) _ = _
          simp only [Act.put, q15a, q15b, q15c, i64_w, i32_w]
          rfl
         refine q15p (i := 7) (N := some 85) (q15m 41 255) HT_.out ?_
         refine q15p (i := 8) (N := some 86) (q15m 41 511) HT_.out ?_
         refine q15u (i := 9) (N := some 87) (q15m 41 1023) HT_.out ?_
         refine q15u (i := 10) (N := some 88) (q15m 41 2047) HT_.out ?_
         refine q15u (i := 11) (N := some 89) (q15m 41 4095) HT_.out ?_
         refine q15u (i := 12) (N := some 90) (q15m 41 8191) HT_.out ?_
         refine q15u (i := 13) (N := some 91) (q15m 41 16383) HT_.out ?_
         refine q15u (i := 14) (N := some 92) (q15m 41 32767) HT_.out ?_
         refine q15u (i := 15) (N := some 93) (q15m 41 65535) HT_.out ?_
         refine q15u (i := 16) (N := some 94) (q15m 41 131071) HT_.out ?_
         refine q15p (i := 17) (N := some 95) (q15m 41 262143) HT_.out ?_
         refine q15p (i := 18) (N := some 96) (q15m 41 524287) HT_.out ?_
         refine q15u (i := 19) (N := some 97) (q15m 41 1048575) HT_.out ?_
         refine q15u (i := 20) (N := some 98) (q15m 41 2097151) HT_.out ?_
         refine q15u (i := 21) (N := some 99) (q15m 41 4194303) HT_.out ?_
         refine q15u (i := 22) (N := some 100) (q15m 41 8388607) HT_.out ?_
         refine q15u (i := 23) (N := some 101) (q15m 41 16777215) HT_.out ?_
         refine q15u (i := 24) (N := some 102) (q15m 41 33554431) HT_.out ?_
         refine q15u (i := 25) (N := some 103) (q15m 41 67108863) HT_.out ?_
         refine q15u (i := 26) (N := some 104) (q15m 41 134217727) HT_.out ?_
         refine q15u (i := 27) (N := some 105) (q15m 41 268435455) HT_.out ?_
         refine q15u (i := 28) (N := some 106) (q15m 41 536870911) HT_.out ?_
         refine q15u (i := 29) (N := some 107) (q15m 41 1073741823) HT_.out ?_
         refine q15u (i := 30) (N := some 108) (q15m 41 2147483647) HT_.out ?_
         refine q15u (i := 31) (N := some 109) (q15m 41 4294967295) HT_.out ?_
         refine q15u (i := 32) (N := some 110) (q15m 41 8589934591) HT_.out ?_
         refine q15u (i := 33) (N := some 111) (q15m 41 17179869183) HT_.out ?_
         refine q15u (i := 34) (N := some 112) (q15m 41 34359738367) HT_.out ?_
         refine q15u (i := 35) (N := some 113) (q15m 41 68719476735) HT_.out ?_
         refine q15u (i := 36) (N := some 114) (q15m 41 137438953471) HT_.out ?_
         refine q15u (i := 37) (N := some 115) (q15m 41 274877906943) HT_.out ?_
         refine q15u (i := 38) (N := some 116) (q15m 41 549755813887) HT_.out ?_
         refine q15u (i := 39) (N := some 117) (q15m 41 1099511627775) HT_.out ?_
         refine q15p (i := 40) (N := some 118) (q15m 41 2199023255551) HT_.out ?_
         refine done_ (done_of HT_.out (by kernel_rfl)) ?_
         try go_wp2
         go_ret
         exact ⟨by first | rfl | (simp [errW_none, errW_some] <;> rfl) | (simp [*, errW_none, errW_some] <;> rfl), by repeat (first | (with_reducible first | exact HB.out | apply below_alloc | apply pw_below_drewN | apply below_drew1 | refine below_set ?_ GE217.out) | exact HB.out)⟩
       subst c56
       have H1 : ((cambiumref16_Value.f k3 ((rd_T53 l0_8 x3_3).f1.f0) ((rd_T53 l0_8 x3_3).f1.f1) ((rd_T53 l0_8 x3_3).f1.f2) ((rd_T53 l0_8 x3_3).f1.f3)).bind fun t225 => (if t225 = true then (if x3_3 > 0 then (if 0 ≤ (wrap64 (x3_3 - 1)) then (if (wrap64 (x3_3 - 1)) < (l0_8.length : Int) then (if (((rd_T53 l0_8 (wrap64 (x3_3 - 1))).f0).size : Int) ≤ 140737488355328 then (if (((rd_T53 l0_8 x3_3).f0).size : Int) ≤ 140737488355328 then ((cambiumref01_Less.f k3 (bytesOf ((rd_T53 l0_8 (wrap64 (x3_3 - 1))).f0)) (bytesOf ((rd_T53 l0_8 x3_3).f0))).bind fun t234 => (if t234 = true then (cambiumref16_May.l0 k3 (wrap64 (x3_3 + 1)) a0_0 a0_1 a0_2 a0_3 a0_4 a0_5 a0_6 a0_7 l0_8 l0_9 l0_10) else (some false))) else (none)) else (none)) else (none)) else (none)) else (cambiumref16_May.l0 k3 (wrap64 (x3_3 + 1)) a0_0 a0_1 a0_2 a0_3 a0_4 a0_5 a0_6 a0_7 l0_8 l0_9 l0_10)) else (some false))) = some r := by rw [if_pos rfl] at H; exact H
       clear H
       have H := H1
       clear H1
       replace H := Option.bind_eq_some_iff.mp H
       obtain ⟨t225, A570, H⟩ := H
       replace H : (if t225 = true then (if x3_3 > 0 then (if 0 ≤ (wrap64 (x3_3 - 1)) then (if (wrap64 (x3_3 - 1)) < (l0_8.length : Int) then (if (((rd_T53 l0_8 (wrap64 (x3_3 - 1))).f0).size : Int) ≤ 140737488355328 then (if (((rd_T53 l0_8 x3_3).f0).size : Int) ≤ 140737488355328 then ((cambiumref01_Less.f k3 (bytesOf ((rd_T53 l0_8 (wrap64 (x3_3 - 1))).f0)) (bytesOf ((rd_T53 l0_8 x3_3).f0))).bind fun t234 => (if t234 = true then (cambiumref16_May.l0 k3 (wrap64 (x3_3 + 1)) a0_0 a0_1 a0_2 a0_3 a0_4 a0_5 a0_6 a0_7 l0_8 l0_9 l0_10) else (some false))) else (none)) else (none)) else (none)) else (none)) else (cambiumref16_May.l0 k3 (wrap64 (x3_3 + 1)) a0_0 a0_1 a0_2 a0_3 a0_4 a0_5 a0_6 a0_7 l0_8 l0_9 l0_10)) else (some false)) = some r := H
       have A57 := Aside0.mk A570
       clear A570
       by_cases c58 : t225 = true
       rotate_left
       ·replace c58 := Bool.eq_false_iff.mpr c58
        subst c58
        have H1 : (some false) = some r := by rw [if_neg (show ¬ (false = true) by decide)] at H; exact H
        clear H
        have H := H1
        clear H1
        obtain rfl := Option.some.inj H
        obtain ⟨hcz93_0, hcz93_1, hcz93_2, hcz93_3, hcz93_4, hcz93_5, hcz93_6, hcz93_7, hcz93_8, hcz93_9, hcz93_10, hfz93_0, hfz93_1, hfz93_2, hfz93_3, hfz93_4, hfz93_5, hfz93_6, hfz93_7, hfz93_8, hfz93_9, hfz93_10⟩ := q15cb11 BK217.out
        try go_wp2
        replace BK217 := Aside0.mk (blk_drew BK217.out)
        replace HB := Aside0.mk (below_drew1 HB.out)
        have p222 : 0 ≤ (x3_3 : Int) := of_decide_eq_true q15y2
        have q222 : x3_3 < (l0_8.length : Int) := of_decide_eq_true q15y2
        obtain ⟨ad222, e222, hx222_0, hx222_1, hx222_2, hx222_3, hx222_4⟩ := at_T53 HR0_8.out x3_3 p222 q222
        have hw222_4 := hx222_4
        have hw222_3 := hx222_3
        have hw222_2 := hx222_2
        have hw222_1 := hx222_1
        have hw222_0 := hx222_0
        cases e222
        replace hx222_0 := (HB.out.cell (World.block_lt_of_cell? w _ hx222_0)).trans hx222_0
        replace hx222_1 := (HB.out.cell (World.block_lt_of_cell? w _ hx222_1)).trans hx222_1
        replace hx222_2 := (HB.out.cell (World.block_lt_of_cell? w _ hx222_2)).trans hx222_2
        replace hx222_3 := (HB.out.cell (World.block_lt_of_cell? w _ hx222_3)).trans hx222_3
        replace hx222_4 := (HB.out.cell (World.block_lt_of_cell? w _ hx222_4)).trans hx222_4
        replace p222 := eq_true p222
        replace q222 := eq_true q222
        have p224 : 0 ≤ (x3_3 : Int) := of_decide_eq_true q15y2
        have q224 : x3_3 < (l0_8.length : Int) := of_decide_eq_true q15y2
        obtain ⟨ad224, e224, hx224_0, hx224_1, hx224_2, hx224_3, hx224_4⟩ := at_T53 HR0_8.out x3_3 p224 q224
        have hw224_4 := hx224_4
        have hw224_3 := hx224_3
        have hw224_2 := hx224_2
        have hw224_1 := hx224_1
        have hw224_0 := hx224_0
        obtain rfl : ad222 = ad224 := (by injection e224)
        replace hx224_0 := (HB.out.cell (World.block_lt_of_cell? w _ hx224_0)).trans hx224_0
        replace hx224_1 := (HB.out.cell (World.block_lt_of_cell? w _ hx224_1)).trans hx224_1
        replace hx224_2 := (HB.out.cell (World.block_lt_of_cell? w _ hx224_2)).trans hx224_2
        replace hx224_3 := (HB.out.cell (World.block_lt_of_cell? w _ hx224_3)).trans hx224_3
        replace hx224_4 := (HB.out.cell (World.block_lt_of_cell? w _ hx224_4)).trans hx224_4
        replace p224 := eq_true p224
        replace q224 := eq_true q224
        as_aux_lemma =>
         refine start_ (n := 41) (S := fun w' => w'.cell? ⟨gb217, 0, none⟩ = some (.int .u64 a0_0) ∧ w'.cell? ⟨gb217, 1, none⟩ = some (.int .u64 a0_1) ∧ w'.cell? ⟨gb217, 2, none⟩ = some (.int .u64 a0_2) ∧ w'.cell? ⟨gb217, 3, none⟩ = some (.string a0_3) ∧ w'.cell? ⟨gb217, 4, none⟩ = some (.string a0_4) ∧ w'.cell? ⟨gb217, 5, none⟩ = some (.int .i64 a0_5) ∧ w'.cell? ⟨gb217, 6, none⟩ = some (.int .i64 a0_6) ∧ w'.cell? ⟨gb217, 7, none⟩ = some (.int .i64 a0_7) ∧ w'.cell? ⟨gb217, 8, none⟩ = some (.slice (some ad222) l0_8.length c0_8) ∧ w'.cell? ⟨gb217, 9, none⟩ = some (.slice A0_9 l0_9.length c0_9) ∧ w'.cell? ⟨gb217, 10, none⟩ = some (.slice A0_10 l0_10.length c0_10) ∧ w'.cell? (ad222.add ((x3_3).toNat * 5)) = some (.string ((rd_T53 l0_8 x3_3).f0)) ∧ w'.cell? ⟨(ad222.add ((x3_3).toNat * 5)).block, (ad222.add ((x3_3).toNat * 5)).off + 1, none⟩ = some (.int .i64 ((rd_T53 l0_8 x3_3).f1.f0)) ∧ w'.cell? ⟨(ad222.add ((x3_3).toNat * 5)).block, (ad222.add ((x3_3).toNat * 5)).off + 2, none⟩ = some (.string ((rd_T53 l0_8 x3_3).f1.f1)) ∧ w'.cell? ⟨(ad222.add ((x3_3).toNat * 5)).block, (ad222.add ((x3_3).toNat * 5)).off + 3, none⟩ = some (.int .i64 ((rd_T53 l0_8 x3_3).f1.f2)) ∧ w'.cell? ⟨(ad222.add ((x3_3).toNat * 5)).block, (ad222.add ((x3_3).toNat * 5)).off + 4, none⟩ = some (.bool ((rd_T53 l0_8 x3_3).f1.f3)) ∧ w'.cell? (ad222.add ((x3_3).toNat * 5)) = some (.string ((rd_T53 l0_8 x3_3).f0)) ∧ w'.cell? ⟨(ad222.add ((x3_3).toNat * 5)).block, (ad222.add ((x3_3).toNat * 5)).off + 1, none⟩ = some (.int .i64 ((rd_T53 l0_8 x3_3).f1.f0)) ∧ w'.cell? ⟨(ad222.add ((x3_3).toNat * 5)).block, (ad222.add ((x3_3).toNat * 5)).off + 2, none⟩ = some (.string ((rd_T53 l0_8 x3_3).f1.f1)) ∧ w'.cell? ⟨(ad222.add ((x3_3).toNat * 5)).block, (ad222.add ((x3_3).toNat * 5)).off + 3, none⟩ = some (.int .i64 ((rd_T53 l0_8 x3_3).f1.f2)) ∧ w'.cell? ⟨(ad222.add ((x3_3).toNat * 5)).block, (ad222.add ((x3_3).toNat * 5)).off + 4, none⟩ = some (.bool ((rd_T53 l0_8 x3_3).f1.f3))) (ds := []) #[false, false, false, false, false, false, false, false, false, false, false, false, false, false, false, false, false, false, false, false, false, false, false, false, false, false, false, false, false, false, false, false, false, false, false, false, false, false, false, false, false] (by kernel_rfl) rfl rfl ⟨q15k BK217.out 0, q15k BK217.out 1, q15k BK217.out 2, q15k BK217.out 3, q15k BK217.out 4, q15k BK217.out 5, q15k BK217.out 6, q15k BK217.out 7, q15k BK217.out 8, q15k BK217.out 9, q15k BK217.out 10, (q15h HB.out hw222_0:), (q15h HB.out hw222_1:), (q15h HB.out hw222_2:), (q15h HB.out hw222_3:), (q15h HB.out hw222_4:), (q15h HB.out hw224_0:), (q15h HB.out hw224_1:), (q15h HB.out hw224_2:), (q15h HB.out hw224_3:), (q15h HB.out hw224_4:)⟩ (fun hHeld => ?_); refine with_tabW cambiumref16_May.tab8 cambiumref16_May.bits8 (fun HT_ HW_ => ?_)
         generalize wr.drew = w94 at BK217 HB hx222_0 hx222_1 hx222_2 hx222_3 hx222_4 hx224_0 hx224_1 hx224_2 hx224_3 hx224_4 hHeld ⊢
         refine q15p (i := 0) (N := some 78) (q15m 41 1) HT_.out ?_
         refine q15p (i := 2) (N := some 80) (q15m 41 5) HT_.out ?_
         refine take_ (i := 1) (N := some 79) (v := ?_) (a' := ?_) (q15m 41 7) rfl rfl (take_ofW HT_.out HW_.out (by kernel_rfl)) (fun _ _ _ h => h) (Or.inl ⟨by rfl, ?_⟩) hHeld ?_ ?_; rotate_left; (rintro w' ⟨s0, s1, s2, s3, s4, s5, s6, s7, s8, s9, s10, s11, s12, s13, s14, s15, s16, s17, s18, s19, s20⟩; go_simp; with_reducible rfl); rotate_left; (simp only [Act.put, q15a, q15b, q15c, i64_w, i32_w]; rfl)
         refine q15p (i := 3) (N := some 81) (q15m 41 15) HT_.out ?_
         refine q15p (i := 4) (N := some 82) (q15m 41 31) HT_.out ?_
         refine take_ (i := 5) (N := some 83) (v := ?_) (a' := ?_) (q15m 41 63) rfl rfl (take_ofW HT_.out HW_.out (by kernel_rfl)) (fun _ _ _ h => h) (Or.inl ⟨by rfl, ?_⟩) hHeld ?_ ?_; rotate_left; (rintro w' ⟨s0, s1, s2, s3, s4, s5, s6, s7, s8, s9, s10, s11, s12, s13, s14, s15, s16, s17, s18, s19, s20⟩; go_simp; with_reducible rfl); rotate_left; (simp only [Act.put, q15a, q15b, q15c, i64_w, i32_w]; rfl)
         refine one_ (i := 6) (N := some 84) (q15m 41 127) rfl rfl (one_of HT_.out (by kernel_rfl)) (by decide) (fun K hK => ?_)
         refine goes_ Tryd.func36 (by kernel_rfl) rfl #[.string ((rd_T53 l0_8 x3_3).f0)] (by rfl) rfl rfl q15y3 ?_
         with_reducible refine (cambiumref16_Name.calls k3 ((rd_T53 l0_8 x3_3).f0) true _ A55.out).mono ?_
         rintro e w95 ⟨rfl, hb⟩
         refine ⟨_, rfl, ?_⟩
         replace BK217 := Aside0.mk (blk_below q15y1 hb)
         replace HB := Aside0.mk (below_step q15y0 hb)
         (try clear hb)
         (try clear hb2)
         (try clear hk)
         (try clear hi)
         refine hK.out _ _ ⟨q15k BK217.out 0, q15k BK217.out 1, q15k BK217.out 2, q15k BK217.out 3, q15k BK217.out 4, q15k BK217.out 5, q15k BK217.out 6, q15k BK217.out 7, q15k BK217.out 8, q15k BK217.out 9, q15k BK217.out 10, (q15h HB.out hw222_0:), (q15h HB.out hw222_1:), (q15h HB.out hw222_2:), (q15h HB.out hw222_3:), (q15h HB.out hw222_4:), (q15h HB.out hw224_0:), (q15h HB.out hw224_1:), (q15h HB.out hw224_2:), (q15h HB.out hw224_3:), (q15h HB.out hw224_4:)⟩ (fun hHeld => ?_)
         clear hK K
         refine norm_ (a' := ?_) ?_ ?_
         rotate_left
         ·show Act.put _ (some 84) _ = _
          simp only [Act.put, q15a, q15b, q15c, i64_w, i32_w]
          rfl
         refine q15p (i := 7) (N := some 85) (q15m 41 255) HT_.out ?_
         refine q15p (i := 8) (N := some 86) (q15m 41 511) HT_.out ?_
         refine q15p (i := 9) (N := some 87) (q15m 41 1023) HT_.out ?_
         refine q15p (i := 11) (N := some 89) (q15m 41 3071) HT_.out ?_
         refine take_ (i := 10) (N := some 88) (v := ?_) (a' := ?_) (q15m 41 4095) rfl rfl (take_ofW HT_.out HW_.out (by kernel_rfl)) (fun _ _ _ h => h) (Or.inl ⟨by rfl, ?_⟩) hHeld ?_ ?_; rotate_left; (rintro w' ⟨s0, s1, s2, s3, s4, s5, s6, s7, s8, s9, s10, s11, s12, s13, s14, s15, s16, s17, s18, s19, s20⟩; go_simp; with_reducible rfl); rotate_left; (simp only [Act.put, q15a, q15b, q15c, i64_w, i32_w]; rfl)
         refine q15p (i := 12) (N := some 90) (q15m 41 8191) HT_.out ?_
         refine q15p (i := 13) (N := some 91) (q15m 41 16383) HT_.out ?_
         refine take_ (i := 14) (N := some 92) (v := ?_) (a' := ?_) (q15m 41 32767) rfl rfl (take_ofW HT_.out HW_.out (by kernel_rfl)) (fun _ _ _ h => h) (Or.inl ⟨by rfl, ?_⟩) hHeld ?_ ?_; rotate_left; (rintro w' ⟨s0, s1, s2, s3, s4, s5, s6, s7, s8, s9, s10, s11, s12, s13, s14, s15, s16, s17, s18, s19, s20⟩; go_simp; with_reducible rfl); rotate_left; (simp only [Act.put, q15a, q15b, q15c, i64_w, i32_w]; rfl)
         refine one_ (i := 15) (N := some 93) (q15m 41 65535) rfl rfl (one_of HT_.out (by kernel_rfl)) (by decide) (fun K hK => ?_)
         refine goes_ Tryd.func38 (by kernel_rfl) rfl #[.agg #[.int .i64 ((rd_T53 l0_8 x3_3).f1.f0), .string ((rd_T53 l0_8 x3_3).f1.f1), .int .i64 ((rd_T53 l0_8 x3_3).f1.f2), .bool ((rd_T53 l0_8 x3_3).f1.f3)]] (by rfl) rfl rfl q15y3 ?_
         with_reducible refine (cambiumref16_Value.calls k3 ((rd_T53 l0_8 x3_3).f1.f0) ((rd_T53 l0_8 x3_3).f1.f1) ((rd_T53 l0_8 x3_3).f1.f2) ((rd_T53 l0_8 x3_3).f1.f3) false _ A57.out).mono ?_
         rintro e w96 ⟨rfl, hb⟩
         refine ⟨_, rfl, ?_⟩
         replace BK217 := Aside0.mk (blk_below q15y1 hb)
         replace HB := Aside0.mk (below_step q15y0 hb)
         (try clear hb)
         (try clear hb2)
         (try clear hk)
         (try clear hi)
         refine hK.out _ _ ⟨q15k BK217.out 0, q15k BK217.out 1, q15k BK217.out 2, q15k BK217.out 3, q15k BK217.out 4, q15k BK217.out 5, q15k BK217.out 6, q15k BK217.out 7, q15k BK217.out 8, q15k BK217.out 9, q15k BK217.out 10, (q15h HB.out hw222_0:), (q15h HB.out hw222_1:), (q15h HB.out hw222_2:), (q15h HB.out hw222_3:), (q15h HB.out hw222_4:), (q15h HB.out hw224_0:), (q15h HB.out hw224_1:), (q15h HB.out hw224_2:), (q15h HB.out hw224_3:), (q15h HB.out hw224_4:)⟩ (fun hHeld => ?_)
         clear hK K
         refine norm_ (a' := ?_) ?_ ?_
         rotate_left
         ·show Act.put _ (some 93) _ = _
          simp only [Act.put, q15a, q15b, q15c, i64_w, i32_w]
          rfl
         refine q15p (i := 16) (N := some 94) (q15m 41 131071) HT_.out ?_
         refine q15p (i := 17) (N := some 95) (q15m 41 262143) HT_.out ?_
         refine q15p (i := 18) (N := some 96) (q15m 41 524287) HT_.out ?_
         refine q15u (i := 19) (N := some 97) (q15m 41 1048575) HT_.out ?_
         refine q15u (i := 20) (N := some 98) (q15m 41 2097151) HT_.out ?_
         refine q15u (i := 21) (N := some 99) (q15m 41 4194303) HT_.out ?_
         refine q15u (i := 22) (N := some 100) (q15m 41 8388607) HT_.out ?_
         refine q15u (i := 23) (N := some 101) (q15m 41 16777215) HT_.out ?_
         refine q15u (i := 24) (N := some 102) (q15m 41 33554431) HT_.out ?_
         refine q15u (i := 25) (N := some 103) (q15m 41 67108863) HT_.out ?_
         refine q15u (i := 26) (N := some 104) (q15m 41 134217727) HT_.out ?_
         refine q15u (i := 27) (N := some 105) (q15m 41 268435455) HT_.out ?_
         refine q15u (i := 28) (N := some 106) (q15m 41 536870911) HT_.out ?_
         refine q15u (i := 29) (N := some 107) (q15m 41 1073741823) HT_.out ?_
         refine q15u (i := 30) (N := some 108) (q15m 41 2147483647) HT_.out ?_
         refine q15u (i := 31) (N := some 109) (q15m 41 4294967295) HT_.out ?_
         refine q15u (i := 32) (N := some 110) (q15m 41 8589934591) HT_.out ?_
         refine q15u (i := 33) (N := some 111) (q15m 41 17179869183) HT_.out ?_
         refine q15u (i := 34) (N := some 112) (q15m 41 34359738367) HT_.out ?_
         refine q15u (i := 35) (N := some 113) (q15m 41 68719476735) HT_.out ?_
         refine q15u (i := 36) (N := some 114) (q15m 41 137438953471) HT_.out ?_
         refine q15u (i := 37) (N := some 115) (q15m 41 274877906943) HT_.out ?_
         refine q15u (i := 38) (N := some 116) (q15m 41 549755813887) HT_.out ?_
         refine q15u (i := 39) (N := some 117) (q15m 41 1099511627775) HT_.out ?_
         refine q15p (i := 40) (N := some 118) (q15m 41 2199023255551) HT_.out ?_
         refine done_ (done_of HT_.out (by kernel_rfl)) ?_
         try go_wp2
         go_ret
         exact ⟨by first | rfl | (simp [errW_none, errW_some] <;> rfl) | (simp [*, errW_none, errW_some] <;> rfl), by repeat (first | (with_reducible first | exact HB.out | apply below_alloc | apply pw_below_drewN | apply below_drew1 | refine below_set ?_ GE217.out) | exact HB.out)⟩
       subst c58
       have H1 : (if x3_3 > 0 then (if 0 ≤ (wrap64 (x3_3 - 1)) then (if (wrap64 (x3_3 - 1)) < (l0_8.length : Int) then (if (((rd_T53 l0_8 (wrap64 (x3_3 - 1))).f0).size : Int) ≤ 140737488355328 then (if (((rd_T53 l0_8 x3_3).f0).size : Int) ≤ 140737488355328 then ((cambiumref01_Less.f k3 (bytesOf ((rd_T53 l0_8 (wrap64 (x3_3 - 1))).f0)) (bytesOf ((rd_T53 l0_8 x3_3).f0))).bind fun t234 => (if t234 = true then (cambiumref16_May.l0 k3 (wrap64 (x3_3 + 1)) a0_0 a0_1 a0_2 a0_3 a0_4 a0_5 a0_6 a0_7 l0_8 l0_9 l0_10) else (some false))) else (none)) else (none)) else (none)) else (none)) else (cambiumref16_May.l0 k3 (wrap64 (x3_3 + 1)) a0_0 a0_1 a0_2 a0_3 a0_4 a0_5 a0_6 a0_7 l0_8 l0_9 l0_10)) = some r := by rw [if_pos rfl] at H; exact H
       clear H
       have H := H1
       clear H1
       by_cases c59 : x3_3 > 0
       rotate_left
       ·rw [if_neg c59] at H
        have c59b0 : decide (0 < x3_3) = false := decide_eq_false c59
        clear c59
        have H' := Aside0.mk H
        clear H
        obtain ⟨hcz89_0, hcz89_1, hcz89_2, hcz89_3, hcz89_4, hcz89_5, hcz89_6, hcz89_7, hcz89_8, hcz89_9, hcz89_10, hfz89_0, hfz89_1, hfz89_2, hfz89_3, hfz89_4, hfz89_5, hfz89_6, hfz89_7, hfz89_8, hfz89_9, hfz89_10⟩ := q15cb11 BK217.out
        try go_wp2
        replace BK217 := Aside0.mk (blk_drew BK217.out)
        replace HB := Aside0.mk (below_drew1 HB.out)
        have p222 : 0 ≤ (x3_3 : Int) := of_decide_eq_true q15y2
        have q222 : x3_3 < (l0_8.length : Int) := of_decide_eq_true q15y2
        obtain ⟨ad222, e222, hx222_0, hx222_1, hx222_2, hx222_3, hx222_4⟩ := at_T53 HR0_8.out x3_3 p222 q222
        have hw222_4 := hx222_4
        have hw222_3 := hx222_3
        have hw222_2 := hx222_2
        have hw222_1 := hx222_1
        have hw222_0 := hx222_0
        cases e222
        replace hx222_0 := (HB.out.cell (World.block_lt_of_cell? w _ hx222_0)).trans hx222_0
        replace hx222_1 := (HB.out.cell (World.block_lt_of_cell? w _ hx222_1)).trans hx222_1
        replace hx222_2 := (HB.out.cell (World.block_lt_of_cell? w _ hx222_2)).trans hx222_2
        replace hx222_3 := (HB.out.cell (World.block_lt_of_cell? w _ hx222_3)).trans hx222_3
        replace hx222_4 := (HB.out.cell (World.block_lt_of_cell? w _ hx222_4)).trans hx222_4
        replace p222 := eq_true p222
        replace q222 := eq_true q222
        have p224 : 0 ≤ (x3_3 : Int) := of_decide_eq_true q15y2
        have q224 : x3_3 < (l0_8.length : Int) := of_decide_eq_true q15y2
        obtain ⟨ad224, e224, hx224_0, hx224_1, hx224_2, hx224_3, hx224_4⟩ := at_T53 HR0_8.out x3_3 p224 q224
        have hw224_4 := hx224_4
        have hw224_3 := hx224_3
        have hw224_2 := hx224_2
        have hw224_1 := hx224_1
        have hw224_0 := hx224_0
        obtain rfl : ad222 = ad224 := (by injection e224)
        replace hx224_0 := (HB.out.cell (World.block_lt_of_cell? w _ hx224_0)).trans hx224_0
        replace hx224_1 := (HB.out.cell (World.block_lt_of_cell? w _ hx224_1)).trans hx224_1
        replace hx224_2 := (HB.out.cell (World.block_lt_of_cell? w _ hx224_2)).trans hx224_2
        replace hx224_3 := (HB.out.cell (World.block_lt_of_cell? w _ hx224_3)).trans hx224_3
        replace hx224_4 := (HB.out.cell (World.block_lt_of_cell? w _ hx224_4)).trans hx224_4
        replace p224 := eq_true p224
        replace q224 := eq_true q224
        as_aux_lemma =>
         refine start_ (n := 41) (S := fun w' => w'.cell? ⟨gb217, 0, none⟩ = some (.int .u64 a0_0) ∧ w'.cell? ⟨gb217, 1, none⟩ = some (.int .u64 a0_1) ∧ w'.cell? ⟨gb217, 2, none⟩ = some (.int .u64 a0_2) ∧ w'.cell? ⟨gb217, 3, none⟩ = some (.string a0_3) ∧ w'.cell? ⟨gb217, 4, none⟩ = some (.string a0_4) ∧ w'.cell? ⟨gb217, 5, none⟩ = some (.int .i64 a0_5) ∧ w'.cell? ⟨gb217, 6, none⟩ = some (.int .i64 a0_6) ∧ w'.cell? ⟨gb217, 7, none⟩ = some (.int .i64 a0_7) ∧ w'.cell? ⟨gb217, 8, none⟩ = some (.slice (some ad222) l0_8.length c0_8) ∧ w'.cell? ⟨gb217, 9, none⟩ = some (.slice A0_9 l0_9.length c0_9) ∧ w'.cell? ⟨gb217, 10, none⟩ = some (.slice A0_10 l0_10.length c0_10) ∧ w'.cell? (ad222.add ((x3_3).toNat * 5)) = some (.string ((rd_T53 l0_8 x3_3).f0)) ∧ w'.cell? ⟨(ad222.add ((x3_3).toNat * 5)).block, (ad222.add ((x3_3).toNat * 5)).off + 1, none⟩ = some (.int .i64 ((rd_T53 l0_8 x3_3).f1.f0)) ∧ w'.cell? ⟨(ad222.add ((x3_3).toNat * 5)).block, (ad222.add ((x3_3).toNat * 5)).off + 2, none⟩ = some (.string ((rd_T53 l0_8 x3_3).f1.f1)) ∧ w'.cell? ⟨(ad222.add ((x3_3).toNat * 5)).block, (ad222.add ((x3_3).toNat * 5)).off + 3, none⟩ = some (.int .i64 ((rd_T53 l0_8 x3_3).f1.f2)) ∧ w'.cell? ⟨(ad222.add ((x3_3).toNat * 5)).block, (ad222.add ((x3_3).toNat * 5)).off + 4, none⟩ = some (.bool ((rd_T53 l0_8 x3_3).f1.f3)) ∧ w'.cell? (ad222.add ((x3_3).toNat * 5)) = some (.string ((rd_T53 l0_8 x3_3).f0)) ∧ w'.cell? ⟨(ad222.add ((x3_3).toNat * 5)).block, (ad222.add ((x3_3).toNat * 5)).off + 1, none⟩ = some (.int .i64 ((rd_T53 l0_8 x3_3).f1.f0)) ∧ w'.cell? ⟨(ad222.add ((x3_3).toNat * 5)).block, (ad222.add ((x3_3).toNat * 5)).off + 2, none⟩ = some (.string ((rd_T53 l0_8 x3_3).f1.f1)) ∧ w'.cell? ⟨(ad222.add ((x3_3).toNat * 5)).block, (ad222.add ((x3_3).toNat * 5)).off + 3, none⟩ = some (.int .i64 ((rd_T53 l0_8 x3_3).f1.f2)) ∧ w'.cell? ⟨(ad222.add ((x3_3).toNat * 5)).block, (ad222.add ((x3_3).toNat * 5)).off + 4, none⟩ = some (.bool ((rd_T53 l0_8 x3_3).f1.f3))) (ds := []) #[false, false, false, false, false, false, false, false, false, false, false, false, false, false, false, false, false, false, false, false, false, false, false, false, false, false, false, false, false, false, false, false, false, false, false, false, false, false, false, false, false] (by kernel_rfl) rfl rfl ⟨q15k BK217.out 0, q15k BK217.out 1, q15k BK217.out 2, q15k BK217.out 3, q15k BK217.out 4, q15k BK217.out 5, q15k BK217.out 6, q15k BK217.out 7, q15k BK217.out 8, q15k BK217.out 9, q15k BK217.out 10, (q15h HB.out hw222_0:), (q15h HB.out hw222_1:), (q15h HB.out hw222_2:), (q15h HB.out hw222_3:), (q15h HB.out hw222_4:), (q15h HB.out hw224_0:), (q15h HB.out hw224_1:), (q15h HB.out hw224_2:), (q15h HB.out hw224_3:), (q15h HB.out hw224_4:)⟩ (fun hHeld => ?_); refine with_tabW cambiumref16_May.tab8 cambiumref16_May.bits8 (fun HT_ HW_ => ?_)
         generalize wr.drew = w90 at BK217 HB hx222_0 hx222_1 hx222_2 hx222_3 hx222_4 hx224_0 hx224_1 hx224_2 hx224_3 hx224_4 hHeld ⊢
         refine q15p (i := 0) (N := some 78) (q15m 41 1) HT_.out ?_
         refine q15p (i := 2) (N := some 80) (q15m 41 5) HT_.out ?_
         refine take_ (i := 1) (N := some 79) (v := ?_) (a' := ?_) (q15m 41 7) rfl rfl (take_ofW HT_.out HW_.out (by kernel_rfl)) (fun _ _ _ h => h) (Or.inl ⟨by rfl, ?_⟩) hHeld ?_ ?_; rotate_left; (rintro w' ⟨s0, s1, s2, s3, s4, s5, s6, s7, s8, s9, s10, s11, s12, s13, s14, s15, s16, s17, s18, s19, s20⟩; go_simp; with_reducible rfl); rotate_left; (simp only [Act.put, q15a, q15b, q15c, i64_w, i32_w]; rfl)
         refine q15p (i := 3) (N := some 81) (q15m 41 15) HT_.out ?_
         refine q15p (i := 4) (N := some 82) (q15m 41 31) HT_.out ?_
         refine take_ (i := 5) (N := some 83) (v := ?_) (a' := ?_) (q15m 41 63) rfl rfl (take_ofW HT_.out HW_.out (by kernel_rfl)) (fun _ _ _ h => h) (Or.inl ⟨by rfl, ?_⟩) hHeld ?_ ?_; rotate_left; (rintro w' ⟨s0, s1, s2, s3, s4, s5, s6, s7, s8, s9, s10, s11, s12, s13, s14, s15, s16, s17, s18, s19, s20⟩; go_simp; with_reducible rfl); rotate_left; (simp only [Act.put, q15a, q15b, q15c, i64_w, i32_w]; rfl)
         refine one_ (i := 6) (N := some 84) (q15m 41 127) rfl rfl (one_of HT_.out (by kernel_rfl)) (by decide) (fun K hK => ?_)
         refine goes_ Tryd.func36 (by kernel_rfl) rfl #[.string ((rd_T53 l0_8 x3_3).f0)] (by rfl) rfl rfl q15y3 ?_
         with_reducible refine (cambiumref16_Name.calls k3 ((rd_T53 l0_8 x3_3).f0) true _ A55.out).mono ?_
         rintro e w91 ⟨rfl, hb⟩
         refine ⟨_, rfl, ?_⟩
         replace BK217 := Aside0.mk (blk_below q15y1 hb)
         replace HB := Aside0.mk (below_step q15y0 hb)
         (try clear hb)
         (try clear hb2)
         (try clear hk)
         (try clear hi)
         refine hK.out _ _ ⟨q15k BK217.out 0, q15k BK217.out 1, q15k BK217.out 2, q15k BK217.out 3, q15k BK217.out 4, q15k BK217.out 5, q15k BK217.out 6, q15k BK217.out 7, q15k BK217.out 8, q15k BK217.out 9, q15k BK217.out 10, (q15h HB.out hw222_0:), (q15h HB.out hw222_1:), (q15h HB.out hw222_2:), (q15h HB.out hw222_3:), (q15h HB.out hw222_4:), (q15h HB.out hw224_0:), (q15h HB.out hw224_1:), (q15h HB.out hw224_2:), (q15h HB.out hw224_3:), (q15h HB.out hw224_4:)⟩ (fun hHeld => ?_)
         clear hK K
         refine norm_ (a' := ?_) ?_ ?_
         rotate_left
         ·show Act.put _ (some 84) _ = _
          simp only [Act.put, q15a, q15b, q15c, i64_w, i32_w]
          rfl
         refine q15p (i := 7) (N := some 85) (q15m 41 255) HT_.out ?_
         refine q15p (i := 8) (N := some 86) (q15m 41 511) HT_.out ?_
         refine q15p (i := 9) (N := some 87) (q15m 41 1023) HT_.out ?_
         refine q15p (i := 11) (N := some 89) (q15m 41 3071) HT_.out ?_
         refine take_ (i := 10) (N := some 88) (v := ?_) (a' := ?_) (q15m 41 4095) rfl rfl (take_ofW HT_.out HW_.out (by kernel_rfl)) (fun _ _ _ h => h) (Or.inl ⟨by rfl, ?_⟩) hHeld ?_ ?_; rotate_left; (rintro w' ⟨s0, s1, s2, s3, s4, s5, s6, s7, s8, s9, s10, s11, s12, s13, s14, s15, s16, s17, s18, s19, s20⟩; go_simp; with_reducible rfl); rotate_left; (simp only [Act.put, q15a, q15b, q15c, i64_w, i32_w]; rfl)
         refine q15p (i := 12) (N := some 90) (q15m 41 8191) HT_.out ?_
         refine q15p (i := 13) (N := some 91) (q15m 41 16383) HT_.out ?_
         refine take_ (i := 14) (N := some 92) (v := ?_) (a' := ?_) (q15m 41 32767) rfl rfl (take_ofW HT_.out HW_.out (by kernel_rfl)) (fun _ _ _ h => h) (Or.inl ⟨by rfl, ?_⟩) hHeld ?_ ?_; rotate_left; (rintro w' ⟨s0, s1, s2, s3, s4, s5, s6, s7, s8, s9, s10, s11, s12, s13, s14, s15, s16, s17, s18, s19, s20⟩; go_simp; with_reducible rfl); rotate_left; (simp only [Act.put, q15a, q15b, q15c, i64_w, i32_w]; rfl)
         refine one_ (i := 15) (N := some 93) (q15m 41 65535) rfl rfl (one_of HT_.out (by kernel_rfl)) (by decide) (fun K hK => ?_)
         refine goes_ Tryd.func38 (by kernel_rfl) rfl #[.agg #[.int .i64 ((rd_T53 l0_8 x3_3).f1.f0), .string ((rd_T53 l0_8 x3_3).f1.f1), .int .i64 ((rd_T53 l0_8 x3_3).f1.f2), .bool ((rd_T53 l0_8 x3_3).f1.f3)]] (by rfl) rfl rfl q15y3 ?_
         with_reducible refine (cambiumref16_Value.calls k3 ((rd_T53 l0_8 x3_3).f1.f0) ((rd_T53 l0_8 x3_3).f1.f1) ((rd_T53 l0_8 x3_3).f1.f2) ((rd_T53 l0_8 x3_3).f1.f3) true _ A57.out).mono ?_
         rintro e w92 ⟨rfl, hb⟩
         refine ⟨_, rfl, ?_⟩
         replace BK217 := Aside0.mk (blk_below q15y1 hb)
         replace HB := Aside0.mk (below_step q15y0 hb)
         (try clear hb)
         (try clear hb2)
         (try clear hk)
         (try clear hi)
         refine hK.out _ _ ⟨q15k BK217.out 0, q15k BK217.out 1, q15k BK217.out 2, q15k BK217.out 3, q15k BK217.out 4, q15k BK217.out 5, q15k BK217.out 6, q15k BK217.out 7, q15k BK217.out 8, q15k BK217.out 9, q15k BK217.out 10, (q15h HB.out hw222_0:), (q15h HB.out hw222_1:), (q15h HB.out hw222_2:), (q15h HB.out hw222_3:), (q15h HB.out hw222_4:), (q15h HB.out hw224_0:), (q15h HB.out hw224_1:), (q15h HB.out hw224_2:), (q15h HB.out hw224_3:), (q15h HB.out hw224_4:)⟩ (fun hHeld => ?_)
         clear hK K
         refine norm_ (a' := ?_) ?_ ?_
         rotate_left
         ·show Act.put _ (some 93) _ = _
          simp only [Act.put, q15a, q15b, q15c, i64_w, i32_w]
          rfl
         refine q15p (i := 16) (N := some 94) (q15m 41 131071) HT_.out ?_
         refine q15p (i := 17) (N := some 95) (q15m 41 262143) HT_.out ?_
         refine q15p (i := 18) (N := some 96) (q15m 41 524287) HT_.out ?_
         refine q15p (i := 19) (N := some 97) (q15m 41 1048575) HT_.out ?_
         refine q15p (i := 20) (N := some 98) (q15m 41 2097151) HT_.out ?_
         refine q15p (i := 21) (N := some 99) (q15m 41 4194303) HT_.out ?_
         refine q15u (i := 22) (N := some 100) (q15m 41 8388607) HT_.out ?_
         refine q15u (i := 23) (N := some 101) (q15m 41 16777215) HT_.out ?_
         refine q15u (i := 24) (N := some 102) (q15m 41 33554431) HT_.out ?_
         refine q15u (i := 25) (N := some 103) (q15m 41 67108863) HT_.out ?_
         refine q15u (i := 26) (N := some 104) (q15m 41 134217727) HT_.out ?_
         refine q15u (i := 27) (N := some 105) (q15m 41 268435455) HT_.out ?_
         refine q15u (i := 28) (N := some 106) (q15m 41 536870911) HT_.out ?_
         refine q15u (i := 29) (N := some 107) (q15m 41 1073741823) HT_.out ?_
         refine q15u (i := 30) (N := some 108) (q15m 41 2147483647) HT_.out ?_
         refine q15u (i := 31) (N := some 109) (q15m 41 4294967295) HT_.out ?_
         refine q15u (i := 32) (N := some 110) (q15m 41 8589934591) HT_.out ?_
         refine q15u (i := 33) (N := some 111) (q15m 41 17179869183) HT_.out ?_
         refine q15u (i := 34) (N := some 112) (q15m 41 34359738367) HT_.out ?_
         refine q15u (i := 35) (N := some 113) (q15m 41 68719476735) HT_.out ?_
         refine q15u (i := 36) (N := some 114) (q15m 41 137438953471) HT_.out ?_
         refine q15u (i := 37) (N := some 115) (q15m 41 274877906943) HT_.out ?_
         refine q15u (i := 38) (N := some 116) (q15m 41 549755813887) HT_.out ?_
         refine q15p (i := 39) (N := some 117) (q15m 41 1099511627775) HT_.out ?_
         refine q15p (i := 40) (N := some 118) (q15m 41 2199023255551) HT_.out ?_
         refine done_ (done_of HT_.out (by kernel_rfl)) ?_
         try go_wp2
         go_roundg k3
         case measure => have := HJ1.out; have := HJ45.out; have := HK3.out; omega
         case rel => exact ⟨(wrap64 (x3_3 + 1)), q15y4, H', ⟨by have := HJ1.out; have := HJ45.out; have := HK3.out; omega⟩, ⟨by (with_reducible repeat (first | refine blk_drewN ?_ _ | refine blk_drew ?_ | refine blk_alloc ?_ _)); exact BK217.out⟩, ⟨by repeat (first | (with_reducible first | exact HB.out | apply below_alloc | apply pw_below_drewN | apply below_drew1 | refine below_set ?_ GE217.out) | exact HB.out)⟩⟩
       rw [if_pos c59] at H
       have c59b0 : decide (0 < x3_3) = true := decide_eq_true c59
       clear c59
       obtain ⟨ji60, hji60⟩ : ∃ j_ : Int, (wrap64 (x3_3 - 1)) = j_ := ⟨_, rfl⟩
       replace H : (if 0 ≤ (ji60) then (if (ji60) < (l0_8.length : Int) then (if (((rd_T53 l0_8 (ji60)).f0).size : Int) ≤ 140737488355328 then (if (((rd_T53 l0_8 x3_3).f0).size : Int) ≤ 140737488355328 then ((cambiumref01_Less.f k3 (bytesOf ((rd_T53 l0_8 (ji60)).f0)) (bytesOf ((rd_T53 l0_8 x3_3).f0))).bind fun t234 => (if t234 = true then (cambiumref16_May.l0 k3 (wrap64 (x3_3 + 1)) a0_0 a0_1 a0_2 a0_3 a0_4 a0_5 a0_6 a0_7 l0_8 l0_9 l0_10) else (some false))) else (none)) else (none)) else (none)) else (none)) = some r := by first | (rw [hji60] at H; exact H) | (simp only [hji60] at H ⊢; exact H)
       (try rw [hji60] at A55)
       (try rw [hji60] at A57)
       have hji60w : (IntKind.i64.wrap (x3_3 - 1)) = ji60 := (i64_w _).trans hji60
       by_cases c61 : 0 ≤ (ji60)
       rotate_left
       ·rw [if_neg c61] at H
        exact absurd H (by simp)
       rw [if_pos c61] at H
       have c61b0 : decide (0 ≤ (ji60)) = true := decide_eq_true c61
       clear c61
       by_cases c62 : (ji60) < (l0_8.length : Int)
       rotate_left
       ·rw [if_neg c62] at H
        exact absurd H (by simp)
       rw [if_pos c62] at H
       have c62b0 : decide ((ji60) < (l0_8.length : Int)) = true := decide_eq_true c62
       clear c62
       by_cases c63 : (((rd_T53 l0_8 (ji60)).f0).size : Int) ≤ 140737488355328
       rotate_left
       ·rw [if_neg c63] at H
        exact absurd H (by simp)
       rw [if_pos c63] at H
       have c63b0 := eq_true c63
       have c63b1 : decide ((((rd_T53 l0_8 (ji60)).f0).size : Int) ≤ 140737488355328) = true := decide_eq_true c63
       clear c63
       obtain ⟨y227, hy227⟩ : ∃ y_ : List Int, y_ = (bytesOf ((rd_T53 l0_8 (ji60)).f0)) := ⟨_, rfl⟩
       replace H : (if (((rd_T53 l0_8 x3_3).f0).size : Int) ≤ 140737488355328 then ((cambiumref01_Less.f k3 y227 (bytesOf ((rd_T53 l0_8 x3_3).f0))).bind fun t234 => (if t234 = true then (cambiumref16_May.l0 k3 (wrap64 (x3_3 + 1)) a0_0 a0_1 a0_2 a0_3 a0_4 a0_5 a0_6 a0_7 l0_8 l0_9 l0_10) else (some false))) else (none)) = some r := by first | (rw [hy227]; with_reducible exact H) | (have H2_ := (Option.bind_some _ _).symm.trans H; rw [hy227]; with_reducible exact H2_) | (have H2_ := (Option.bind_some _ _).symm.trans H; with_reducible exact H2_) | with_reducible exact H | (rw [hy227]; exact H) | exact H
       have Ny227 := Aside0.mk hy227
       clear hy227
       by_cases c64 : (((rd_T53 l0_8 x3_3).f0).size : Int) ≤ 140737488355328
       rotate_left
       ·rw [if_neg c64] at H
        exact absurd H (by simp)
       rw [if_pos c64] at H
       have c64b0 := eq_true c64
       have c64b1 : decide ((((rd_T53 l0_8 x3_3).f0).size : Int) ≤ 140737488355328) = true := decide_eq_true c64
       clear c64
       obtain ⟨y231, hy231⟩ : ∃ y_ : List Int, y_ = (bytesOf ((rd_T53 l0_8 x3_3).f0)) := ⟨_, rfl⟩
       replace H : ((cambiumref01_Less.f k3 y227 y231).bind fun t234 => (if t234 = true then (cambiumref16_May.l0 k3 (wrap64 (x3_3 + 1)) a0_0 a0_1 a0_2 a0_3 a0_4 a0_5 a0_6 a0_7 l0_8 l0_9 l0_10) else (some false))) = some r := by first | (rw [hy231]; with_reducible exact H) | (have H2_ := (Option.bind_some _ _).symm.trans H; rw [hy231]; with_reducible exact H2_) | (have H2_ := (Option.bind_some _ _).symm.trans H; with_reducible exact H2_) | with_reducible exact H | (rw [hy231]; exact H) | exact H
       have Ny231 := Aside0.mk hy231
       clear hy231
       replace H := Option.bind_eq_some_iff.mp H
       obtain ⟨t234, A650, H⟩ := H
       replace H : (if t234 = true then (cambiumref16_May.l0 k3 (wrap64 (x3_3 + 1)) a0_0 a0_1 a0_2 a0_3 a0_4 a0_5 a0_6 a0_7 l0_8 l0_9 l0_10) else (some false)) = some r := H
       have A65 := Aside0.mk A650
       clear A650
       by_cases c66 : t234 = true
       rotate_left
       ·replace c66 := Bool.eq_false_iff.mpr c66
        subst c66
        have H1 : (some false) = some r := by rw [if_neg (show ¬ (false = true) by decide)] at H; exact H
        clear H
        have H := H1
        clear H1
        obtain rfl := Option.some.inj H
        obtain ⟨hcz78_0, hcz78_1, hcz78_2, hcz78_3, hcz78_4, hcz78_5, hcz78_6, hcz78_7, hcz78_8, hcz78_9, hcz78_10, hfz78_0, hfz78_1, hfz78_2, hfz78_3, hfz78_4, hfz78_5, hfz78_6, hfz78_7, hfz78_8, hfz78_9, hfz78_10⟩ := q15cb11 BK217.out
        try go_wp2
        replace BK217 := Aside0.mk (blk_drew BK217.out)
        replace HB := Aside0.mk (below_drew1 HB.out)
        have p222 : 0 ≤ (x3_3 : Int) := of_decide_eq_true q15y2
        have q222 : x3_3 < (l0_8.length : Int) := of_decide_eq_true q15y2
        obtain ⟨ad222, e222, hx222_0, hx222_1, hx222_2, hx222_3, hx222_4⟩ := at_T53 HR0_8.out x3_3 p222 q222
        have hw222_4 := hx222_4
        have hw222_3 := hx222_3
        have hw222_2 := hx222_2
        have hw222_1 := hx222_1
        have hw222_0 := hx222_0
        cases e222
        replace hx222_0 := (HB.out.cell (World.block_lt_of_cell? w _ hx222_0)).trans hx222_0
        replace hx222_1 := (HB.out.cell (World.block_lt_of_cell? w _ hx222_1)).trans hx222_1
        replace hx222_2 := (HB.out.cell (World.block_lt_of_cell? w _ hx222_2)).trans hx222_2
        replace hx222_3 := (HB.out.cell (World.block_lt_of_cell? w _ hx222_3)).trans hx222_3
        replace hx222_4 := (HB.out.cell (World.block_lt_of_cell? w _ hx222_4)).trans hx222_4
        replace p222 := eq_true p222
        replace q222 := eq_true q222
        have p224 : 0 ≤ (x3_3 : Int) := of_decide_eq_true q15y2
        have q224 : x3_3 < (l0_8.length : Int) := of_decide_eq_true q15y2
        obtain ⟨ad224, e224, hx224_0, hx224_1, hx224_2, hx224_3, hx224_4⟩ := at_T53 HR0_8.out x3_3 p224 q224
        have hw224_4 := hx224_4
        have hw224_3 := hx224_3
        have hw224_2 := hx224_2
        have hw224_1 := hx224_1
        have hw224_0 := hx224_0
        obtain rfl : ad222 = ad224 := (by injection e224)
        replace hx224_0 := (HB.out.cell (World.block_lt_of_cell? w _ hx224_0)).trans hx224_0
        replace hx224_1 := (HB.out.cell (World.block_lt_of_cell? w _ hx224_1)).trans hx224_1
        replace hx224_2 := (HB.out.cell (World.block_lt_of_cell? w _ hx224_2)).trans hx224_2
        replace hx224_3 := (HB.out.cell (World.block_lt_of_cell? w _ hx224_3)).trans hx224_3
        replace hx224_4 := (HB.out.cell (World.block_lt_of_cell? w _ hx224_4)).trans hx224_4
        replace p224 := eq_true p224
        replace q224 := eq_true q224
        have p226 : 0 ≤ ((ji60) : Int) := of_decide_eq_true q15y2
        have q226 : (ji60) < (l0_8.length : Int) := of_decide_eq_true q15y2
        obtain ⟨ad226, e226, hx226_0, hx226_1, hx226_2, hx226_3, hx226_4⟩ := at_T53 HR0_8.out (ji60) p226 q226
        have hw226_4 := hx226_4
        have hw226_3 := hx226_3
        have hw226_2 := hx226_2
        have hw226_1 := hx226_1
        have hw226_0 := hx226_0
        obtain rfl : ad222 = ad226 := (by injection e226)
        replace hx226_0 := (HB.out.cell (World.block_lt_of_cell? w _ hx226_0)).trans hx226_0
        replace hx226_1 := (HB.out.cell (World.block_lt_of_cell? w _ hx226_1)).trans hx226_1
        replace hx226_2 := (HB.out.cell (World.block_lt_of_cell? w _ hx226_2)).trans hx226_2
        replace hx226_3 := (HB.out.cell (World.block_lt_of_cell? w _ hx226_3)).trans hx226_3
        replace hx226_4 := (HB.out.cell (World.block_lt_of_cell? w _ hx226_4)).trans hx226_4
        replace p226 := eq_true p226
        replace q226 := eq_true q226
        have p230 : 0 ≤ (x3_3 : Int) := of_decide_eq_true q15y2
        have q230 : x3_3 < (l0_8.length : Int) := of_decide_eq_true q15y2
        obtain ⟨ad230, e230, hx230_0, hx230_1, hx230_2, hx230_3, hx230_4⟩ := at_T53 HR0_8.out x3_3 p230 q230
        have hw230_4 := hx230_4
        have hw230_3 := hx230_3
        have hw230_2 := hx230_2
        have hw230_1 := hx230_1
        have hw230_0 := hx230_0
        obtain rfl : ad222 = ad230 := (by injection e230)
        replace hx230_0 := (HB.out.cell (World.block_lt_of_cell? w _ hx230_0)).trans hx230_0
        replace hx230_1 := (HB.out.cell (World.block_lt_of_cell? w _ hx230_1)).trans hx230_1
        replace hx230_2 := (HB.out.cell (World.block_lt_of_cell? w _ hx230_2)).trans hx230_2
        replace hx230_3 := (HB.out.cell (World.block_lt_of_cell? w _ hx230_3)).trans hx230_3
        replace hx230_4 := (HB.out.cell (World.block_lt_of_cell? w _ hx230_4)).trans hx230_4
        replace p230 := eq_true p230
        replace q230 := eq_true q230
        as_aux_lemma =>
         refine start_ (n := 41) (S := fun w' => w'.cell? ⟨gb217, 0, none⟩ = some (.int .u64 a0_0) ∧ w'.cell? ⟨gb217, 1, none⟩ = some (.int .u64 a0_1) ∧ w'.cell? ⟨gb217, 2, none⟩ = some (.int .u64 a0_2) ∧ w'.cell? ⟨gb217, 3, none⟩ = some (.string a0_3) ∧ w'.cell? ⟨gb217, 4, none⟩ = some (.string a0_4) ∧ w'.cell? ⟨gb217, 5, none⟩ = some (.int .i64 a0_5) ∧ w'.cell? ⟨gb217, 6, none⟩ = some (.int .i64 a0_6) ∧ w'.cell? ⟨gb217, 7, none⟩ = some (.int .i64 a0_7) ∧ w'.cell? ⟨gb217, 8, none⟩ = some (.slice (some ad222) l0_8.length c0_8) ∧ w'.cell? ⟨gb217, 9, none⟩ = some (.slice A0_9 l0_9.length c0_9) ∧ w'.cell? ⟨gb217, 10, none⟩ = some (.slice A0_10 l0_10.length c0_10) ∧ w'.cell? (ad222.add ((x3_3).toNat * 5)) = some (.string ((rd_T53 l0_8 x3_3).f0)) ∧ w'.cell? ⟨(ad222.add ((x3_3).toNat * 5)).block, (ad222.add ((x3_3).toNat * 5)).off + 1, none⟩ = some (.int .i64 ((rd_T53 l0_8 x3_3).f1.f0)) ∧ w'.cell? ⟨(ad222.add ((x3_3).toNat * 5)).block, (ad222.add ((x3_3).toNat * 5)).off + 2, none⟩ = some (.string ((rd_T53 l0_8 x3_3).f1.f1)) ∧ w'.cell? ⟨(ad222.add ((x3_3).toNat * 5)).block, (ad222.add ((x3_3).toNat * 5)).off + 3, none⟩ = some (.int .i64 ((rd_T53 l0_8 x3_3).f1.f2)) ∧ w'.cell? ⟨(ad222.add ((x3_3).toNat * 5)).block, (ad222.add ((x3_3).toNat * 5)).off + 4, none⟩ = some (.bool ((rd_T53 l0_8 x3_3).f1.f3)) ∧ w'.cell? (ad222.add ((x3_3).toNat * 5)) = some (.string ((rd_T53 l0_8 x3_3).f0)) ∧ w'.cell? ⟨(ad222.add ((x3_3).toNat * 5)).block, (ad222.add ((x3_3).toNat * 5)).off + 1, none⟩ = some (.int .i64 ((rd_T53 l0_8 x3_3).f1.f0)) ∧ w'.cell? ⟨(ad222.add ((x3_3).toNat * 5)).block, (ad222.add ((x3_3).toNat * 5)).off + 2, none⟩ = some (.string ((rd_T53 l0_8 x3_3).f1.f1)) ∧ w'.cell? ⟨(ad222.add ((x3_3).toNat * 5)).block, (ad222.add ((x3_3).toNat * 5)).off + 3, none⟩ = some (.int .i64 ((rd_T53 l0_8 x3_3).f1.f2)) ∧ w'.cell? ⟨(ad222.add ((x3_3).toNat * 5)).block, (ad222.add ((x3_3).toNat * 5)).off + 4, none⟩ = some (.bool ((rd_T53 l0_8 x3_3).f1.f3)) ∧ w'.cell? (ad222.add (((ji60)).toNat * 5)) = some (.string ((rd_T53 l0_8 (ji60)).f0)) ∧ w'.cell? ⟨(ad222.add (((ji60)).toNat * 5)).block, (ad222.add (((ji60)).toNat * 5)).off + 1, none⟩ = some (.int .i64 ((rd_T53 l0_8 (ji60)).f1.f0)) ∧ w'.cell? ⟨(ad222.add (((ji60)).toNat * 5)).block, (ad222.add (((ji60)).toNat * 5)).off + 2, none⟩ = some (.string ((rd_T53 l0_8 (ji60)).f1.f1)) ∧ w'.cell? ⟨(ad222.add (((ji60)).toNat * 5)).block, (ad222.add (((ji60)).toNat * 5)).off + 3, none⟩ = some (.int .i64 ((rd_T53 l0_8 (ji60)).f1.f2)) ∧ w'.cell? ⟨(ad222.add (((ji60)).toNat * 5)).block, (ad222.add (((ji60)).toNat * 5)).off + 4, none⟩ = some (.bool ((rd_T53 l0_8 (ji60)).f1.f3)) ∧ w'.cell? (ad222.add ((x3_3).toNat * 5)) = some (.string ((rd_T53 l0_8 x3_3).f0)) ∧ w'.cell? ⟨(ad222.add ((x3_3).toNat * 5)).block, (ad222.add ((x3_3).toNat * 5)).off + 1, none⟩ = some (.int .i64 ((rd_T53 l0_8 x3_3).f1.f0)) ∧ w'.cell? ⟨(ad222.add ((x3_3).toNat * 5)).block, (ad222.add ((x3_3).toNat * 5)).off + 2, none⟩ = some (.string ((rd_T53 l0_8 x3_3).f1.f1)) ∧ w'.cell? ⟨(ad222.add ((x3_3).toNat * 5)).block, (ad222.add ((x3_3).toNat * 5)).off + 3, none⟩ = some (.int .i64 ((rd_T53 l0_8 x3_3).f1.f2)) ∧ w'.cell? ⟨(ad222.add ((x3_3).toNat * 5)).block, (ad222.add ((x3_3).toNat * 5)).off + 4, none⟩ = some (.bool ((rd_T53 l0_8 x3_3).f1.f3))) (ds := []) #[false, false, false, false, false, false, false, false, false, false, false, false, false, false, false, false, false, false, false, false, false, false, false, false, false, false, false, false, false, false, false, false, false, false, false, false, false, false, false, false, false] (by kernel_rfl) rfl rfl ⟨q15k BK217.out 0, q15k BK217.out 1, q15k BK217.out 2, q15k BK217.out 3, q15k BK217.out 4, q15k BK217.out 5, q15k BK217.out 6, q15k BK217.out 7, q15k BK217.out 8, q15k BK217.out 9, q15k BK217.out 10, (q15h HB.out hw222_0:), (q15h HB.out hw222_1:), (q15h HB.out hw222_2:), (q15h HB.out hw222_3:), (q15h HB.out hw222_4:), (q15h HB.out hw224_0:), (q15h HB.out hw224_1:), (q15h HB.out hw224_2:), (q15h HB.out hw224_3:), (q15h HB.out hw224_4:), (q15h HB.out hw226_0:), (q15h HB.out hw226_1:), (q15h HB.out hw226_2:), (q15h HB.out hw226_3:), (q15h HB.out hw226_4:), (q15h HB.out hw230_0:), (q15h HB.out hw230_1:), (q15h HB.out hw230_2:), (q15h HB.out hw230_3:), (q15h HB.out hw230_4:)⟩ (fun hHeld => ?_); refine with_tabW cambiumref16_May.tab8 cambiumref16_May.bits8 (fun HT_ HW_ => ?_)
         generalize wr.drew = w79 at BK217 HB hx222_0 hx222_1 hx222_2 hx222_3 hx222_4 hx224_0 hx224_1 hx224_2 hx224_3 hx224_4 hx226_0 hx226_1 hx226_2 hx226_3 hx226_4 hx230_0 hx230_1 hx230_2 hx230_3 hx230_4 hHeld ⊢
         refine q15p (i := 0) (N := some 78) (q15m 41 1) HT_.out ?_
         refine q15p (i := 2) (N := some 80) (q15m 41 5) HT_.out ?_
         refine take_ (i := 1) (N := some 79) (v := ?_) (a' := ?_) (q15m 41 7) rfl rfl (take_ofW HT_.out HW_.out (by kernel_rfl)) (fun _ _ _ h => h) (Or.inl ⟨by rfl, ?_⟩) hHeld ?_ ?_; rotate_left; (rintro w' ⟨s0, s1, s2, s3, s4, s5, s6, s7, s8, s9, s10, s11, s12, s13, s14, s15, s16, s17, s18, s19, s20, s21, s22, s23, s24, s25, s26, s27, s28, s29, s30⟩; go_simp; with_reducible rfl); rotate_left; (simp only [Act.put, q15a, q15b, q15c, i64_w, i32_w]; rfl)
         refine q15p (i := 3) (N := some 81) (q15m 41 15) HT_.out ?_
         refine q15p (i := 4) (N := some 82) (q15m 41 31) HT_.out ?_
         refine take_ (i := 5) (N := some 83) (v := ?_) (a' := ?_) (q15m 41 63) rfl rfl (take_ofW HT_.out HW_.out (by kernel_rfl)) (fun _ _ _ h => h) (Or.inl ⟨by rfl, ?_⟩) hHeld ?_ ?_; rotate_left; (rintro w' ⟨s0, s1, s2, s3, s4, s5, s6, s7, s8, s9, s10, s11, s12, s13, s14, s15, s16, s17, s18, s19, s20, s21, s22, s23, s24, s25, s26, s27, s28, s29, s30⟩; go_simp; with_reducible rfl); rotate_left; (simp only [Act.put, q15a, q15b, q15c, i64_w, i32_w]; rfl)
         refine one_ (i := 6) (N := some 84) (q15m 41 127) rfl rfl (one_of HT_.out (by kernel_rfl)) (by decide) (fun K hK => ?_)
         refine goes_ Tryd.func36 (by kernel_rfl) rfl #[.string ((rd_T53 l0_8 x3_3).f0)] (by rfl) rfl rfl q15y3 ?_
         with_reducible refine (cambiumref16_Name.calls k3 ((rd_T53 l0_8 x3_3).f0) true _ A55.out).mono ?_
         rintro e w80 ⟨rfl, hb⟩
         refine ⟨_, rfl, ?_⟩
         replace BK217 := Aside0.mk (blk_below q15y1 hb)
         replace HB := Aside0.mk (below_step q15y0 hb)
         (try clear hb)
         (try clear hb2)
         (try clear hk)
         (try clear hi)
         refine hK.out _ _ ⟨q15k BK217.out 0, q15k BK217.out 1, q15k BK217.out 2, q15k BK217.out 3, q15k BK217.out 4, q15k BK217.out 5, q15k BK217.out 6, q15k BK217.out 7, q15k BK217.out 8, q15k BK217.out 9, q15k BK217.out 10, (q15h HB.out hw222_0:), (q15h HB.out hw222_1:), (q15h HB.out hw222_2:), (q15h HB.out hw222_3:), (q15h HB.out hw222_4:), (q15h HB.out hw224_0:), (q15h HB.out hw224_1:), (q15h HB.out hw224_2:), (q15h HB.out hw224_3:), (q15h HB.out hw224_4:), (q15h HB.out hw226_0:), (q15h HB.out hw226_1:), (q15h HB.out hw226_2:), (q15h HB.out hw226_3:), (q15h HB.out hw226_4:), (q15h HB.out hw230_0:), (q15h HB.out hw230_1:), (q15h HB.out hw230_2:), (q15h HB.out hw230_3:), (q15h HB.out hw230_4:)⟩ (fun hHeld => ?_)
         clear hK K
         refine norm_ (a' := ?_) ?_ ?_
         rotate_left
         ·show Act.put _ (some 84) _ = _
          simp only [Act.put, q15a, q15b, q15c, i64_w, i32_w]
          rfl
         refine q15p (i := 7) (N := some 85) (q15m 41 255) HT_.out ?_
         refine q15p (i := 8) (N := some 86) (q15m 41 511) HT_.out ?_
         refine q15p (i := 9) (N := some 87) (q15m 41 1023) HT_.out ?_
         refine q15p (i := 11) (N := some 89) (q15m 41 3071) HT_.out ?_
         refine take_ (i := 10) (N := some 88) (v := ?_) (a' := ?_) (q15m 41 4095) rfl rfl (take_ofW HT_.out HW_.out (by kernel_rfl)) (fun _ _ _ h => h) (Or.inl ⟨by rfl, ?_⟩) hHeld ?_ ?_; rotate_left; (rintro w' ⟨s0, s1, s2, s3, s4, s5, s6, s7, s8, s9, s10, s11, s12, s13, s14, s15, s16, s17, s18, s19, s20, s21, s22, s23, s24, s25, s26, s27, s28, s29, s30⟩; go_simp; with_reducible rfl); rotate_left; (simp only [Act.put, q15a, q15b, q15c, i64_w, i32_w]; rfl)
         refine q15p (i := 12) (N := some 90) (q15m 41 8191) HT_.out ?_
         refine q15p (i := 13) (N := some 91) (q15m 41 16383) HT_.out ?_
         refine take_ (i := 14) (N := some 92) (v := ?_) (a' := ?_) (q15m 41 32767) rfl rfl (take_ofW HT_.out HW_.out (by kernel_rfl)) (fun _ _ _ h => h) (Or.inl ⟨by rfl, ?_⟩) hHeld ?_ ?_; rotate_left; (rintro w' ⟨s0, s1, s2, s3, s4, s5, s6, s7, s8, s9, s10, s11, s12, s13, s14, s15, s16, s17, s18, s19, s20, s21, s22, s23, s24, s25, s26, s27, s28, s29, s30⟩; go_simp; with_reducible rfl); rotate_left; (simp only [Act.put, q15a, q15b, q15c, i64_w, i32_w]; rfl)
         refine one_ (i := 15) (N := some 93) (q15m 41 65535) rfl rfl (one_of HT_.out (by kernel_rfl)) (by decide) (fun K hK => ?_)
         refine goes_ Tryd.func38 (by kernel_rfl) rfl #[.agg #[.int .i64 ((rd_T53 l0_8 x3_3).f1.f0), .string ((rd_T53 l0_8 x3_3).f1.f1), .int .i64 ((rd_T53 l0_8 x3_3).f1.f2), .bool ((rd_T53 l0_8 x3_3).f1.f3)]] (by rfl) rfl rfl q15y3 ?_
         with_reducible refine (cambiumref16_Value.calls k3 ((rd_T53 l0_8 x3_3).f1.f0) ((rd_T53 l0_8 x3_3).f1.f1) ((rd_T53 l0_8 x3_3).f1.f2) ((rd_T53 l0_8 x3_3).f1.f3) true _ A57.out).mono ?_
         rintro e w81 ⟨rfl, hb⟩
         refine ⟨_, rfl, ?_⟩
         replace BK217 := Aside0.mk (blk_below q15y1 hb)
         replace HB := Aside0.mk (below_step q15y0 hb)
         (try clear hb)
         (try clear hb2)
         (try clear hk)
         (try clear hi)
         refine hK.out _ _ ⟨q15k BK217.out 0, q15k BK217.out 1, q15k BK217.out 2, q15k BK217.out 3, q15k BK217.out 4, q15k BK217.out 5, q15k BK217.out 6, q15k BK217.out 7, q15k BK217.out 8, q15k BK217.out 9, q15k BK217.out 10, (q15h HB.out hw222_0:), (q15h HB.out hw222_1:), (q15h HB.out hw222_2:), (q15h HB.out hw222_3:), (q15h HB.out hw222_4:), (q15h HB.out hw224_0:), (q15h HB.out hw224_1:), (q15h HB.out hw224_2:), (q15h HB.out hw224_3:), (q15h HB.out hw224_4:), (q15h HB.out hw226_0:), (q15h HB.out hw226_1:), (q15h HB.out hw226_2:), (q15h HB.out hw226_3:), (q15h HB.out hw226_4:), (q15h HB.out hw230_0:), (q15h HB.out hw230_1:), (q15h HB.out hw230_2:), (q15h HB.out hw230_3:), (q15h HB.out hw230_4:)⟩ (fun hHeld => ?_)
         clear hK K
         refine norm_ (a' := ?_) ?_ ?_
         rotate_left
         ·show Act.put _ (some 93) _ = _
          simp only [Act.put, q15a, q15b, q15c, i64_w, i32_w]
          rfl
         refine q15p (i := 16) (N := some 94) (q15m 41 131071) HT_.out ?_
         refine q15p (i := 17) (N := some 95) (q15m 41 262143) HT_.out ?_
         refine q15p (i := 18) (N := some 96) (q15m 41 524287) HT_.out ?_
         refine q15p (i := 19) (N := some 97) (q15m 41 1048575) HT_.out ?_
         refine q15p (i := 20) (N := some 98) (q15m 41 2097151) HT_.out ?_
         refine q15p (i := 21) (N := some 99) (q15m 41 4194303) HT_.out ?_
         refine q15p (i := 22) (N := some 100) (q15m 41 8388607) HT_.out ?_
         refine q15p (i := 24) (N := some 102) (q15m 41 25165823) HT_.out ?_
         refine q15p (i := 25) (N := some 103) (q15m 41 58720255) HT_.out ?_
         refine q15p (i := 30) (N := some 108) (q15m 41 1132462079) HT_.out ?_
         refine q15p (i := 32) (N := some 110) (q15m 41 5427429375) HT_.out ?_
         refine take_ (i := 23) (N := some 101) (v := ?_) (a' := ?_) (q15m 41 5435817983) rfl rfl (take_ofW HT_.out HW_.out (by kernel_rfl)) (fun _ _ _ h => h) (Or.inl ⟨by rfl, ?_⟩) hHeld ?_ ?_; rotate_left; (rintro w' ⟨s0, s1, s2, s3, s4, s5, s6, s7, s8, s9, s10, s11, s12, s13, s14, s15, s16, s17, s18, s19, s20, s21, s22, s23, s24, s25, s26, s27, s28, s29, s30⟩; go_simp; with_reducible rfl); rotate_left; (simp only [Act.put, q15a, q15b, q15c, i64_w, i32_w]; rfl)
         refine q15p (i := 26) (N := some 104) (q15m 41 5502926847) HT_.out ?_
         refine q15p (i := 27) (N := some 105) (q15m 41 5637144575) HT_.out ?_
         refine take_ (i := 28) (N := some 106) (v := ?_) (a' := ?_) (q15m 41 5905580031) rfl rfl (take_ofW HT_.out HW_.out (by kernel_rfl)) (fun _ _ _ h => h) (Or.inl ⟨by rfl, ?_⟩) hHeld ?_ ?_; rotate_left; (rintro w' ⟨s0, s1, s2, s3, s4, s5, s6, s7, s8, s9, s10, s11, s12, s13, s14, s15, s16, s17, s18, s19, s20, s21, s22, s23, s24, s25, s26, s27, s28, s29, s30⟩; go_simp; with_reducible rfl); rotate_left; (simp only [Act.put, q15a, q15b, q15c, i64_w, i32_w]; rfl)
         refine take_ (i := 31) (N := some 109) (v := ?_) (a' := ?_) (q15m 41 8053063679) rfl rfl (take_ofW HT_.out HW_.out (by kernel_rfl)) (fun _ _ _ h => h) (Or.inl ⟨by rfl, ?_⟩) hHeld ?_ ?_; rotate_left; (rintro w' ⟨s0, s1, s2, s3, s4, s5, s6, s7, s8, s9, s10, s11, s12, s13, s14, s15, s16, s17, s18, s19, s20, s21, s22, s23, s24, s25, s26, s27, s28, s29, s30⟩; go_simp; with_reducible rfl); rotate_left; (simp only [Act.put, q15a, q15b, q15c, i64_w, i32_w]; rfl)
         refine q15p (i := 33) (N := some 111) (q15m 41 16642998271) HT_.out ?_
         refine q15p (i := 34) (N := some 112) (q15m 41 33822867455) HT_.out ?_
         refine take_ (i := 35) (N := some 113) (v := ?_) (a' := ?_) (q15m 41 68182605823) rfl rfl (take_ofW HT_.out HW_.out (by kernel_rfl)) (fun _ _ _ h => h) (Or.inl ⟨by rfl, ?_⟩) hHeld ?_ ?_; rotate_left; (rintro w' ⟨s0, s1, s2, s3, s4, s5, s6, s7, s8, s9, s10, s11, s12, s13, s14, s15, s16, s17, s18, s19, s20, s21, s22, s23, s24, s25, s26, s27, s28, s29, s30⟩; go_simp; with_reducible rfl); rotate_left; (simp only [Act.put, q15a, q15b, q15c, i64_w, i32_w]; rfl)
         refine join_ (σ := Value × Value) 4 (q15m 41 137438953471) (fun s_ => [(107, s_.1), (114, s_.2)]) (fun s_ w' => (w'.cell? ⟨gb217, 0, none⟩ = some (.int .u64 a0_0) ∧ w'.cell? ⟨gb217, 1, none⟩ = some (.int .u64 a0_1) ∧ w'.cell? ⟨gb217, 2, none⟩ = some (.int .u64 a0_2) ∧ w'.cell? ⟨gb217, 3, none⟩ = some (.string a0_3) ∧ w'.cell? ⟨gb217, 4, none⟩ = some (.string a0_4) ∧ w'.cell? ⟨gb217, 5, none⟩ = some (.int .i64 a0_5) ∧ w'.cell? ⟨gb217, 6, none⟩ = some (.int .i64 a0_6) ∧ w'.cell? ⟨gb217, 7, none⟩ = some (.int .i64 a0_7) ∧ w'.cell? ⟨gb217, 8, none⟩ = some (.slice (some ad222) l0_8.length c0_8) ∧ w'.cell? ⟨gb217, 9, none⟩ = some (.slice A0_9 l0_9.length c0_9) ∧ w'.cell? ⟨gb217, 10, none⟩ = some (.slice A0_10 l0_10.length c0_10) ∧ w'.cell? (ad222.add ((x3_3).toNat * 5)) = some (.string ((rd_T53 l0_8 x3_3).f0)) ∧ w'.cell? ⟨(ad222.add ((x3_3).toNat * 5)).block, (ad222.add ((x3_3).toNat * 5)).off + 1, none⟩ = some (.int .i64 ((rd_T53 l0_8 x3_3).f1.f0)) ∧ w'.cell? ⟨(ad222.add ((x3_3).toNat * 5)).block, (ad222.add ((x3_3).toNat * 5)).off + 2, none⟩ = some (.string ((rd_T53 l0_8 x3_3).f1.f1)) ∧ w'.cell? ⟨(ad222.add ((x3_3).toNat * 5)).block, (ad222.add ((x3_3).toNat * 5)).off + 3, none⟩ = some (.int .i64 ((rd_T53 l0_8 x3_3).f1.f2)) ∧ w'.cell? ⟨(ad222.add ((x3_3).toNat * 5)).block, (ad222.add ((x3_3).toNat * 5)).off + 4, none⟩ = some (.bool ((rd_T53 l0_8 x3_3).f1.f3)) ∧ w'.cell? (ad222.add ((x3_3).toNat * 5)) = some (.string ((rd_T53 l0_8 x3_3).f0)) ∧ w'.cell? ⟨(ad222.add ((x3_3).toNat * 5)).block, (ad222.add ((x3_3).toNat * 5)).off + 1, none⟩ = some (.int .i64 ((rd_T53 l0_8 x3_3).f1.f0)) ∧ w'.cell? ⟨(ad222.add ((x3_3).toNat * 5)).block, (ad222.add ((x3_3).toNat * 5)).off + 2, none⟩ = some (.string ((rd_T53 l0_8 x3_3).f1.f1)) ∧ w'.cell? ⟨(ad222.add ((x3_3).toNat * 5)).block, (ad222.add ((x3_3).toNat * 5)).off + 3, none⟩ = some (.int .i64 ((rd_T53 l0_8 x3_3).f1.f2)) ∧ w'.cell? ⟨(ad222.add ((x3_3).toNat * 5)).block, (ad222.add ((x3_3).toNat * 5)).off + 4, none⟩ = some (.bool ((rd_T53 l0_8 x3_3).f1.f3)) ∧ w'.cell? (ad222.add (((ji60)).toNat * 5)) = some (.string ((rd_T53 l0_8 (ji60)).f0)) ∧ w'.cell? ⟨(ad222.add (((ji60)).toNat * 5)).block, (ad222.add (((ji60)).toNat * 5)).off + 1, none⟩ = some (.int .i64 ((rd_T53 l0_8 (ji60)).f1.f0)) ∧ w'.cell? ⟨(ad222.add (((ji60)).toNat * 5)).block, (ad222.add (((ji60)).toNat * 5)).off + 2, none⟩ = some (.string ((rd_T53 l0_8 (ji60)).f1.f1)) ∧ w'.cell? ⟨(ad222.add (((ji60)).toNat * 5)).block, (ad222.add (((ji60)).toNat * 5)).off + 3, none⟩ = some (.int .i64 ((rd_T53 l0_8 (ji60)).f1.f2)) ∧ w'.cell? ⟨(ad222.add (((ji60)).toNat * 5)).block, (ad222.add (((ji60)).toNat * 5)).off + 4, none⟩ = some (.bool ((rd_T53 l0_8 (ji60)).f1.f3)) ∧ w'.cell? (ad222.add ((x3_3).toNat * 5)) = some (.string ((rd_T53 l0_8 x3_3).f0)) ∧ w'.cell? ⟨(ad222.add ((x3_3).toNat * 5)).block, (ad222.add ((x3_3).toNat * 5)).off + 1, none⟩ = some (.int .i64 ((rd_T53 l0_8 x3_3).f1.f0)) ∧ w'.cell? ⟨(ad222.add ((x3_3).toNat * 5)).block, (ad222.add ((x3_3).toNat * 5)).off + 2, none⟩ = some (.string ((rd_T53 l0_8 x3_3).f1.f1)) ∧ w'.cell? ⟨(ad222.add ((x3_3).toNat * 5)).block, (ad222.add ((x3_3).toNat * 5)).off + 3, none⟩ = some (.int .i64 ((rd_T53 l0_8 x3_3).f1.f2)) ∧ w'.cell? ⟨(ad222.add ((x3_3).toNat * 5)).block, (ad222.add ((x3_3).toNat * 5)).off + 4, none⟩ = some (.bool ((rd_T53 l0_8 x3_3).f1.f3))) ∧ (Kd.V (Kd.int .u8) 5 w' w.heap.size (fun k_ => k_ ≠ gb217) s_.1 y227) ∧ (Kd.V (Kd.int .u8) 5 w' w.heap.size (fun k_ => k_ ≠ gb217) s_.2 y231) ∧ (w'.heap[gb217]? = some (.cells #[.int .u64 a0_0, .int .u64 a0_1, .int .u64 a0_2, .string a0_3, .string a0_4, .int .i64 a0_5, .int .i64 a0_6, .int .i64 a0_7, .slice (some ad222) l0_8.length c0_8, .slice A0_9 l0_9.length c0_9, .slice A0_10 l0_10.length c0_10] 27 (0, 0))) ∧ (Below w.heap.size w w')) ?_ ?_
         rotate_left
         ·intro hCont
          refine two_ (i := 29) (j := 36) (Ni := some 107) (Nj := some 114) (q15m 41 68719476735) (q15m 41 136902082559) rfl rfl rfl rfl (two_of HT_.out (by kernel_rfl)) (by decide) (by decide) (fun K hK => ?_) (fun K hK => ?_)
          ·skip
           refine Go.Proofs.YtkgpnfjmahjlcaaDoor.Conv.V_conv_step _ 5 (by rfl) (N' := 107) rfl 9 30 _ rfl Tryd.underlying9 Tryd.underlying30 Tryd.underlying5 ((rd_T53 l0_8 (ji60)).f0) rfl q15y8 (Below.refl _ _) (Nat.le_refl _) ?_
           intro v228 w82 ho83 hb hg_ hnew_
           clear hg_ hnew_
           (first | rw [← Ny227.out] at ho83 | (simp only [Int.reduceToNat] at ho83; rw [← Ny227.out] at ho83))
           have HO229 := Aside0.mk (Kd.V_lower (Kd.V_mono (ok' := fun k_ => k_ ≠ gb217) ho83 (fun k_ hk_ => (Kd.freshB (g := gb217) (o := .cells #[.int .u64 a0_0, .int .u64 a0_1, .int .u64 a0_2, .string a0_3, .string a0_4, .int .i64 a0_5, .int .i64 a0_6, .int .i64 a0_7, .slice (some ad222) l0_8.length c0_8, .slice A0_9 l0_9.length c0_9, .slice A0_10 l0_10.length c0_10] 27 (0, 0)) q15y1 k_ hk_))) (below_size q15y0))
           replace BK217 := Aside0.mk (blk_below q15y1 hb)
           replace HB := Aside0.mk (below_step q15y0 hb)
           clear hb ho83
           refine hK.out _ _ ⟨q15k BK217.out 0, q15k BK217.out 1, q15k BK217.out 2, q15k BK217.out 3, q15k BK217.out 4, q15k BK217.out 5, q15k BK217.out 6, q15k BK217.out 7, q15k BK217.out 8, q15k BK217.out 9, q15k BK217.out 10, (q15h HB.out hw222_0:), (q15h HB.out hw222_1:), (q15h HB.out hw222_2:), (q15h HB.out hw222_3:), (q15h HB.out hw222_4:), (q15h HB.out hw224_0:), (q15h HB.out hw224_1:), (q15h HB.out hw224_2:), (q15h HB.out hw224_3:), (q15h HB.out hw224_4:), (q15h HB.out hw226_0:), (q15h HB.out hw226_1:), (q15h HB.out hw226_2:), (q15h HB.out hw226_3:), (q15h HB.out hw226_4:), (q15h HB.out hw230_0:), (q15h HB.out hw230_1:), (q15h HB.out hw230_2:), (q15h HB.out hw230_3:), (q15h HB.out hw230_4:)⟩ (fun hHeld => ?_)
           clear hK K
           refine norm_ (a' := ?_) ?_ ?_
           rotate_left
           ·show Act.put _ (some 107) _ = _
            simp only [Act.put, q15a, q15b, q15c, i64_w, i32_w]
            rfl
           refine one_ (i := 36) (N := some 114) (q15m 41 137438953471) rfl rfl (one_of HT_.out (by kernel_rfl)) (by decide) (fun K hK => ?_)
           refine Go.Proofs.YtkgpnfjmahjlcaaDoor.Conv.V_conv_step _ 5 (by rfl) (N' := 114) rfl 9 30 _ rfl Tryd.underlying9 Tryd.underlying30 Tryd.underlying5 ((rd_T53 l0_8 x3_3).f0) rfl q15y8 (Below.refl _ _) (Nat.le_refl _) ?_
           intro v232 w84 ho85 hb hg_ hnew_
           clear hg_ hnew_
           (first | rw [← Ny231.out] at ho85 | (simp only [Int.reduceToNat] at ho85; rw [← Ny231.out] at ho85))
           have HO233 := Aside0.mk (Kd.V_lower (Kd.V_mono (ok' := fun k_ => k_ ≠ gb217) ho85 (fun k_ hk_ => (Kd.freshB (g := gb217) (o := .cells #[.int .u64 a0_0, .int .u64 a0_1, .int .u64 a0_2, .string a0_3, .string a0_4, .int .i64 a0_5, .int .i64 a0_6, .int .i64 a0_7, .slice (some ad222) l0_8.length c0_8, .slice A0_9 l0_9.length c0_9, .slice A0_10 l0_10.length c0_10] 27 (0, 0)) q15y1 k_ hk_))) (below_size q15y0))
           replace HO229 := Aside0.mk (Kd.V_below q15y6 hb)
           replace BK217 := Aside0.mk (blk_below q15y1 hb)
           replace HB := Aside0.mk (below_step q15y0 hb)
           clear hb ho85
           refine hK.out _ _ ⟨q15k BK217.out 0, q15k BK217.out 1, q15k BK217.out 2, q15k BK217.out 3, q15k BK217.out 4, q15k BK217.out 5, q15k BK217.out 6, q15k BK217.out 7, q15k BK217.out 8, q15k BK217.out 9, q15k BK217.out 10, (q15h HB.out hw222_0:), (q15h HB.out hw222_1:), (q15h HB.out hw222_2:), (q15h HB.out hw222_3:), (q15h HB.out hw222_4:), (q15h HB.out hw224_0:), (q15h HB.out hw224_1:), (q15h HB.out hw224_2:), (q15h HB.out hw224_3:), (q15h HB.out hw224_4:), (q15h HB.out hw226_0:), (q15h HB.out hw226_1:), (q15h HB.out hw226_2:), (q15h HB.out hw226_3:), (q15h HB.out hw226_4:), (q15h HB.out hw230_0:), (q15h HB.out hw230_1:), (q15h HB.out hw230_2:), (q15h HB.out hw230_3:), (q15h HB.out hw230_4:)⟩ (fun hHeld => ?_)
           clear hK K
           refine norm_ (a' := ?_) ?_ ?_
           rotate_left
           ·show Act.put _ (some 114) _ = _
            simp only [Act.put, q15a, q15b, q15c, i64_w, i32_w]
            rfl
           exact norm_ (by simp only [putAll, Act.put, q15a, q15b, q15c]) (hCont (v228, v232) _ ⟨hHeld, q15y6, q15y5, q15y1, q15y0⟩)
          ·skip
           refine Go.Proofs.YtkgpnfjmahjlcaaDoor.Conv.V_conv_step _ 5 (by rfl) (N' := 114) rfl 9 30 _ rfl Tryd.underlying9 Tryd.underlying30 Tryd.underlying5 ((rd_T53 l0_8 x3_3).f0) rfl q15y8 (Below.refl _ _) (Nat.le_refl _) ?_
           intro v232 w82 ho83 hb hg_ hnew_
           clear hg_ hnew_
           (first | rw [← Ny231.out] at ho83 | (simp only [Int.reduceToNat] at ho83; rw [← Ny231.out] at ho83))
           have HO233 := Aside0.mk (Kd.V_lower (Kd.V_mono (ok' := fun k_ => k_ ≠ gb217) ho83 (fun k_ hk_ => (Kd.freshB (g := gb217) (o := .cells #[.int .u64 a0_0, .int .u64 a0_1, .int .u64 a0_2, .string a0_3, .string a0_4, .int .i64 a0_5, .int .i64 a0_6, .int .i64 a0_7, .slice (some ad222) l0_8.length c0_8, .slice A0_9 l0_9.length c0_9, .slice A0_10 l0_10.length c0_10] 27 (0, 0)) q15y1 k_ hk_))) (below_size q15y0))
           replace BK217 := Aside0.mk (blk_below q15y1 hb)
           replace HB := Aside0.mk (below_step q15y0 hb)
           clear hb ho83
           refine hK.out _ _ ⟨q15k BK217.out 0, q15k BK217.out 1, q15k BK217.out 2, q15k BK217.out 3, q15k BK217.out 4, q15k BK217.out 5, q15k BK217.out 6, q15k BK217.out 7, q15k BK217.out 8, q15k BK217.out 9, q15k BK217.out 10, (q15h HB.out hw222_0:), (q15h HB.out hw222_1:), (q15h HB.out hw222_2:), (q15h HB.out hw222_3:), (q15h HB.out hw222_4:), (q15h HB.out hw224_0:), (q15h HB.out hw224_1:), (q15h HB.out hw224_2:), (q15h HB.out hw224_3:), (q15h HB.out hw224_4:), (q15h HB.out hw226_0:), (q15h HB.out hw226_1:), (q15h HB.out hw226_2:), (q15h HB.out hw226_3:), (q15h HB.out hw226_4:), (q15h HB.out hw230_0:), (q15h HB.out hw230_1:), (q15h HB.out hw230_2:), (q15h HB.out hw230_3:), (q15h HB.out hw230_4:)⟩ (fun hHeld => ?_)
           clear hK K
           refine norm_ (a' := ?_) ?_ ?_
           rotate_left
           ·show Act.put _ (some 114) _ = _
            simp only [Act.put, q15a, q15b, q15c, i64_w, i32_w]
            rfl
           refine one_ (i := 29) (N := some 107) (q15m 41 137438953471) rfl rfl (one_of HT_.out (by kernel_rfl)) (by decide) (fun K hK => ?_)
           refine Go.Proofs.YtkgpnfjmahjlcaaDoor.Conv.V_conv_step _ 5 (by rfl) (N' := 107) rfl 9 30 _ rfl Tryd.underlying9 Tryd.underlying30 Tryd.underlying5 ((rd_T53 l0_8 (ji60)).f0) rfl q15y8 (Below.refl _ _) (Nat.le_refl _) ?_
           intro v228 w84 ho85 hb hg_ hnew_
           clear hg_ hnew_
           (first | rw [← Ny227.out] at ho85 | (simp only [Int.reduceToNat] at ho85; rw [← Ny227.out] at ho85))
           have HO229 := Aside0.mk (Kd.V_lower (Kd.V_mono (ok' := fun k_ => k_ ≠ gb217) ho85 (fun k_ hk_ => (Kd.freshB (g := gb217) (o := .cells #[.int .u64 a0_0, .int .u64 a0_1, .int .u64 a0_2, .string a0_3, .string a0_4, .int .i64 a0_5, .int .i64 a0_6, .int .i64 a0_7, .slice (some ad222) l0_8.length c0_8, .slice A0_9 l0_9.length c0_9, .slice A0_10 l0_10.length c0_10] 27 (0, 0)) q15y1 k_ hk_))) (below_size q15y0))
           replace HO233 := Aside0.mk (Kd.V_below q15y5 hb)
           replace BK217 := Aside0.mk (blk_below q15y1 hb)
           replace HB := Aside0.mk (below_step q15y0 hb)
           clear hb ho85
           refine hK.out _ _ ⟨q15k BK217.out 0, q15k BK217.out 1, q15k BK217.out 2, q15k BK217.out 3, q15k BK217.out 4, q15k BK217.out 5, q15k BK217.out 6, q15k BK217.out 7, q15k BK217.out 8, q15k BK217.out 9, q15k BK217.out 10, (q15h HB.out hw222_0:), (q15h HB.out hw222_1:), (q15h HB.out hw222_2:), (q15h HB.out hw222_3:), (q15h HB.out hw222_4:), (q15h HB.out hw224_0:), (q15h HB.out hw224_1:), (q15h HB.out hw224_2:), (q15h HB.out hw224_3:), (q15h HB.out hw224_4:), (q15h HB.out hw226_0:), (q15h HB.out hw226_1:), (q15h HB.out hw226_2:), (q15h HB.out hw226_3:), (q15h HB.out hw226_4:), (q15h HB.out hw230_0:), (q15h HB.out hw230_1:), (q15h HB.out hw230_2:), (q15h HB.out hw230_3:), (q15h HB.out hw230_4:)⟩ (fun hHeld => ?_)
           clear hK K
           refine norm_ (a' := ?_) ?_ ?_
           rotate_left
           ·show Act.put _ (some 107) _ = _
            simp only [Act.put, q15a, q15b, q15c, i64_w, i32_w]
            rfl
           exact norm_ (by simp only [putAll, Act.put, q15a, q15b, q15c]) (hCont (v228, v232) _ ⟨hHeld, q15y6, q15y5, q15y1, q15y0⟩)
         rintro ⟨v228, v232⟩ w86 ⟨hS_, h0_, h1_, h2_, h3_⟩
         have n0_ : Aside0 (Kd.V (Kd.int .u8) 5 w86 w.heap.size (fun k_ => k_ ≠ gb217) v228 y227) := ⟨h0_⟩
         have n1_ : Aside0 (Kd.V (Kd.int .u8) 5 w86 w.heap.size (fun k_ => k_ ≠ gb217) v232 y231) := ⟨h1_⟩
         have n2_ : Aside0 (w86.heap[gb217]? = some (.cells #[.int .u64 a0_0, .int .u64 a0_1, .int .u64 a0_2, .string a0_3, .string a0_4, .int .i64 a0_5, .int .i64 a0_6, .int .i64 a0_7, .slice (some ad222) l0_8.length c0_8, .slice A0_9 l0_9.length c0_9, .slice A0_10 l0_10.length c0_10] 27 (0, 0))) := ⟨h2_⟩
         have n3_ : Aside0 (Below w.heap.size w w86) := ⟨h3_⟩
         clear BK217
         clear HB
         clear h0_ h1_ h2_ h3_
         have HO229 := n0_
         have HO233 := n1_
         have BK217 := n2_
         have HB := n3_
         clear n0_ n1_ n2_ n3_
         have hHeld : w86.cell? ⟨gb217, 0, none⟩ = some (.int .u64 a0_0) ∧ w86.cell? ⟨gb217, 1, none⟩ = some (.int .u64 a0_1) ∧ w86.cell? ⟨gb217, 2, none⟩ = some (.int .u64 a0_2) ∧ w86.cell? ⟨gb217, 3, none⟩ = some (.string a0_3) ∧ w86.cell? ⟨gb217, 4, none⟩ = some (.string a0_4) ∧ w86.cell? ⟨gb217, 5, none⟩ = some (.int .i64 a0_5) ∧ w86.cell? ⟨gb217, 6, none⟩ = some (.int .i64 a0_6) ∧ w86.cell? ⟨gb217, 7, none⟩ = some (.int .i64 a0_7) ∧ w86.cell? ⟨gb217, 8, none⟩ = some (.slice (some ad222) l0_8.length c0_8) ∧ w86.cell? ⟨gb217, 9, none⟩ = some (.slice A0_9 l0_9.length c0_9) ∧ w86.cell? ⟨gb217, 10, none⟩ = some (.slice A0_10 l0_10.length c0_10) ∧ w86.cell? (ad222.add ((x3_3).toNat * 5)) = some (.string ((rd_T53 l0_8 x3_3).f0)) ∧ w86.cell? ⟨(ad222.add ((x3_3).toNat * 5)).block, (ad222.add ((x3_3).toNat * 5)).off + 1, none⟩ = some (.int .i64 ((rd_T53 l0_8 x3_3).f1.f0)) ∧ w86.cell? ⟨(ad222.add ((x3_3).toNat * 5)).block, (ad222.add ((x3_3).toNat * 5)).off + 2, none⟩ = some (.string ((rd_T53 l0_8 x3_3).f1.f1)) ∧ w86.cell? ⟨(ad222.add ((x3_3).toNat * 5)).block, (ad222.add ((x3_3).toNat * 5)).off + 3, none⟩ = some (.int .i64 ((rd_T53 l0_8 x3_3).f1.f2)) ∧ w86.cell? ⟨(ad222.add ((x3_3).toNat * 5)).block, (ad222.add ((x3_3).toNat * 5)).off + 4, none⟩ = some (.bool ((rd_T53 l0_8 x3_3).f1.f3)) ∧ w86.cell? (ad222.add ((x3_3).toNat * 5)) = some (.string ((rd_T53 l0_8 x3_3).f0)) ∧ w86.cell? ⟨(ad222.add ((x3_3).toNat * 5)).block, (ad222.add ((x3_3).toNat * 5)).off + 1, none⟩ = some (.int .i64 ((rd_T53 l0_8 x3_3).f1.f0)) ∧ w86.cell? ⟨(ad222.add ((x3_3).toNat * 5)).block, (ad222.add ((x3_3).toNat * 5)).off + 2, none⟩ = some (.string ((rd_T53 l0_8 x3_3).f1.f1)) ∧ w86.cell? ⟨(ad222.add ((x3_3).toNat * 5)).block, (ad222.add ((x3_3).toNat * 5)).off + 3, none⟩ = some (.int .i64 ((rd_T53 l0_8 x3_3).f1.f2)) ∧ w86.cell? ⟨(ad222.add ((x3_3).toNat * 5)).block, (ad222.add ((x3_3).toNat * 5)).off + 4, none⟩ = some (.bool ((rd_T53 l0_8 x3_3).f1.f3)) ∧ w86.cell? (ad222.add (((ji60)).toNat * 5)) = some (.string ((rd_T53 l0_8 (ji60)).f0)) ∧ w86.cell? ⟨(ad222.add (((ji60)).toNat * 5)).block, (ad222.add (((ji60)).toNat * 5)).off + 1, none⟩ = some (.int .i64 ((rd_T53 l0_8 (ji60)).f1.f0)) ∧ w86.cell? ⟨(ad222.add (((ji60)).toNat * 5)).block, (ad222.add (((ji60)).toNat * 5)).off + 2, none⟩ = some (.string ((rd_T53 l0_8 (ji60)).f1.f1)) ∧ w86.cell? ⟨(ad222.add (((ji60)).toNat * 5)).block, (ad222.add (((ji60)).toNat * 5)).off + 3, none⟩ = some (.int .i64 ((rd_T53 l0_8 (ji60)).f1.f2)) ∧ w86.cell? ⟨(ad222.add (((ji60)).toNat * 5)).block, (ad222.add (((ji60)).toNat * 5)).off + 4, none⟩ = some (.bool ((rd_T53 l0_8 (ji60)).f1.f3)) ∧ w86.cell? (ad222.add ((x3_3).toNat * 5)) = some (.string ((rd_T53 l0_8 x3_3).f0)) ∧ w86.cell? ⟨(ad222.add ((x3_3).toNat * 5)).block, (ad222.add ((x3_3).toNat * 5)).off + 1, none⟩ = some (.int .i64 ((rd_T53 l0_8 x3_3).f1.f0)) ∧ w86.cell? ⟨(ad222.add ((x3_3).toNat * 5)).block, (ad222.add ((x3_3).toNat * 5)).off + 2, none⟩ = some (.string ((rd_T53 l0_8 x3_3).f1.f1)) ∧ w86.cell? ⟨(ad222.add ((x3_3).toNat * 5)).block, (ad222.add ((x3_3).toNat * 5)).off + 3, none⟩ = some (.int .i64 ((rd_T53 l0_8 x3_3).f1.f2)) ∧ w86.cell? ⟨(ad222.add ((x3_3).toNat * 5)).block, (ad222.add ((x3_3).toNat * 5)).off + 4, none⟩ = some (.bool ((rd_T53 l0_8 x3_3).f1.f3)) := hS_
         obtain ⟨Ao87, co87, eo87⟩ := Kd.V_slice HO229.out
         (first | subst eo87 | (injection eo87 with f1_ f2_ f3_; have f4_ := f1_.symm; have f5_ := f3_.symm; clear f1_ f2_ f3_; subst f4_; subst f5_))
         obtain ⟨Ao88, co88, eo88⟩ := Kd.V_slice HO233.out
         (first | subst eo88 | (injection eo88 with f1_ f2_ f3_; have f4_ := f1_.symm; have f5_ := f3_.symm; clear f1_ f2_ f3_; subst f4_; subst f5_))
         refine norm_ (a' := ?_) ?_ ?_
         rotate_left
         ·simp only [putAll, Act.put, q15a, q15b, q15c]
          rfl
         refine one_ (i := 37) (N := some 115) (q15m 41 274877906943) rfl rfl (one_of HT_.out (by kernel_rfl)) (by decide) (fun K hK => ?_)
         refine goes_ Tryd.func39 (by kernel_rfl) rfl #[.slice Ao87 y227.length co87, .slice Ao88 y231.length co88] (by rfl) rfl rfl q15y3 ?_
         with_reducible refine (cambiumref01_Less.calls k3 _ _ y227 _ _ y231 false _ ?side1 ?side2 ?side3 ?side4 A65.out).mono ?_
         (case side1 => repeat (first | exact (Kd.V_reads' HO229.out).2.2 | (with_reducible refine Kd.C_alloc ?_ _) | (with_reducible refine Kd.C_drewN ?_ _) | (with_reducible refine Kd.C_drew ?_)))
         (case side2 => exact (Kd.V_reads' HO229.out).2.1)
         (case side3 => repeat (first | exact (Kd.V_reads' HO233.out).2.2 | (with_reducible refine Kd.C_alloc ?_ _) | (with_reducible refine Kd.C_drewN ?_ _) | (with_reducible refine Kd.C_drew ?_)))
         (case side4 => exact (Kd.V_reads' HO233.out).2.1)
         rintro e w' ⟨rfl, ⟨nd, rfl⟩⟩
         refine ⟨_, rfl, ?_⟩
         refine hK.out _ _ ⟨q15k BK217.out 0, q15k BK217.out 1, q15k BK217.out 2, q15k BK217.out 3, q15k BK217.out 4, q15k BK217.out 5, q15k BK217.out 6, q15k BK217.out 7, q15k BK217.out 8, q15k BK217.out 9, q15k BK217.out 10, (q15h HB.out hw222_0:), (q15h HB.out hw222_1:), (q15h HB.out hw222_2:), (q15h HB.out hw222_3:), (q15h HB.out hw222_4:), (q15h HB.out hw224_0:), (q15h HB.out hw224_1:), (q15h HB.out hw224_2:), (q15h HB.out hw224_3:), (q15h HB.out hw224_4:), (q15h HB.out hw226_0:), (q15h HB.out hw226_1:), (q15h HB.out hw226_2:), (q15h HB.out hw226_3:), (q15h HB.out hw226_4:), (q15h HB.out hw230_0:), (q15h HB.out hw230_1:), (q15h HB.out hw230_2:), (q15h HB.out hw230_3:), (q15h HB.out hw230_4:)⟩ (fun hHeld => ?_)
         clear hK K
         refine norm_ (a' := ?_) ?_ ?_
         rotate_left
         ·show Act.put _ (some 115) _ = _
          simp only [Act.put, q15a, q15b, q15c, i64_w, i32_w]
          rfl
         refine q15p (i := 38) (N := some 116) (q15m 41 549755813887) HT_.out ?_
         refine q15p (i := 39) (N := some 117) (q15m 41 1099511627775) HT_.out ?_
         refine q15p (i := 40) (N := some 118) (q15m 41 2199023255551) HT_.out ?_
         refine done_ (done_of HT_.out (by kernel_rfl)) ?_
         try go_wp2
         go_ret
         exact ⟨by first | rfl | (simp [errW_none, errW_some] <;> rfl) | (simp only [← hji60]; first | rfl | (simp [errW_none, errW_some] <;> rfl)) | (simp [*, errW_none, errW_some] <;> rfl), by repeat (first | (with_reducible first | exact HB.out | apply below_alloc | apply pw_below_drewN | apply below_drew1 | refine below_set ?_ GE217.out) | exact HB.out)⟩
       subst c66
       have H1 : (cambiumref16_May.l0 k3 (wrap64 (x3_3 + 1)) a0_0 a0_1 a0_2 a0_3 a0_4 a0_5 a0_6 a0_7 l0_8 l0_9 l0_10) = some r := by rw [if_pos rfl] at H; exact H
       clear H
       have H := H1
       clear H1
       have H' := Aside0.mk H
       clear H
       obtain ⟨hcz67_0, hcz67_1, hcz67_2, hcz67_3, hcz67_4, hcz67_5, hcz67_6, hcz67_7, hcz67_8, hcz67_9, hcz67_10, hfz67_0, hfz67_1, hfz67_2, hfz67_3, hfz67_4, hfz67_5, hfz67_6, hfz67_7, hfz67_8, hfz67_9, hfz67_10⟩ := q15cb11 BK217.out
       try go_wp2
       replace BK217 := Aside0.mk (blk_drew BK217.out)
       replace HB := Aside0.mk (below_drew1 HB.out)
       have p222 : 0 ≤ (x3_3 : Int) := of_decide_eq_true q15y2
       have q222 : x3_3 < (l0_8.length : Int) := of_decide_eq_true q15y2
       obtain ⟨ad222, e222, hx222_0, hx222_1, hx222_2, hx222_3, hx222_4⟩ := at_T53 HR0_8.out x3_3 p222 q222
       have hw222_4 := hx222_4
       have hw222_3 := hx222_3
       have hw222_2 := hx222_2
       have hw222_1 := hx222_1
       have hw222_0 := hx222_0
       cases e222
       replace hx222_0 := (HB.out.cell (World.block_lt_of_cell? w _ hx222_0)).trans hx222_0
       replace hx222_1 := (HB.out.cell (World.block_lt_of_cell? w _ hx222_1)).trans hx222_1
       replace hx222_2 := (HB.out.cell (World.block_lt_of_cell? w _ hx222_2)).trans hx222_2
       replace hx222_3 := (HB.out.cell (World.block_lt_of_cell? w _ hx222_3)).trans hx222_3
       replace hx222_4 := (HB.out.cell (World.block_lt_of_cell? w _ hx222_4)).trans hx222_4
       replace p222 := eq_true p222
       replace q222 := eq_true q222
       have p224 : 0 ≤ (x3_3 : Int) := of_decide_eq_true q15y2
       have q224 : x3_3 < (l0_8.length : Int) := of_decide_eq_true q15y2
       obtain ⟨ad224, e224, hx224_0, hx224_1, hx224_2, hx224_3, hx224_4⟩ := at_T53 HR0_8.out x3_3 p224 q224
       have hw224_4 := hx224_4
       have hw224_3 := hx224_3
       have hw224_2 := hx224_2
       have hw224_1 := hx224_1
       have hw224_0 := hx224_0
       obtain rfl : ad222 = ad224 := (by injection e224)
       replace hx224_0 := (HB.out.cell (World.block_lt_of_cell? w _ hx224_0)).trans hx224_0
       replace hx224_1 := (HB.out.cell (World.block_lt_of_cell? w _ hx224_1)).trans hx224_1
       replace hx224_2 := (HB.out.cell (World.block_lt_of_cell? w _ hx224_2)).trans hx224_2
       replace hx224_3 := (HB.out.cell (World.block_lt_of_cell? w _ hx224_3)).trans hx224_3
       replace hx224_4 := (HB.out.cell (World.block_lt_of_cell? w _ hx224_4)).trans hx224_4
       replace p224 := eq_true p224
       replace q224 := eq_true q224
       have p226 : 0 ≤ ((ji60) : Int) := of_decide_eq_true q15y2
       have q226 : (ji60) < (l0_8.length : Int) := of_decide_eq_true q15y2
       obtain ⟨ad226, e226, hx226_0, hx226_1, hx226_2, hx226_3, hx226_4⟩ := at_T53 HR0_8.out (ji60) p226 q226
       have hw226_4 := hx226_4
       have hw226_3 := hx226_3
       have hw226_2 := hx226_2
       have hw226_1 := hx226_1
       have hw226_0 := hx226_0
       obtain rfl : ad222 = ad226 := (by injection e226)
       replace hx226_0 := (HB.out.cell (World.block_lt_of_cell? w _ hx226_0)).trans hx226_0
       replace hx226_1 := (HB.out.cell (World.block_lt_of_cell? w _ hx226_1)).trans hx226_1
       replace hx226_2 := (HB.out.cell (World.block_lt_of_cell? w _ hx226_2)).trans hx226_2
       replace hx226_3 := (HB.out.cell (World.block_lt_of_cell? w _ hx226_3)).trans hx226_3
       replace hx226_4 := (HB.out.cell (World.block_lt_of_cell? w _ hx226_4)).trans hx226_4
       replace p226 := eq_true p226
       replace q226 := eq_true q226
       have p230 : 0 ≤ (x3_3 : Int) := of_decide_eq_true q15y2
       have q230 : x3_3 < (l0_8.length : Int) := of_decide_eq_true q15y2
       obtain ⟨ad230, e230, hx230_0, hx230_1, hx230_2, hx230_3, hx230_4⟩ := at_T53 HR0_8.out x3_3 p230 q230
       have hw230_4 := hx230_4
       have hw230_3 := hx230_3
       have hw230_2 := hx230_2
       have hw230_1 := hx230_1
       have hw230_0 := hx230_0
       obtain rfl : ad222 = ad230 := (by injection e230)
       replace hx230_0 := (HB.out.cell (World.block_lt_of_cell? w _ hx230_0)).trans hx230_0
       replace hx230_1 := (HB.out.cell (World.block_lt_of_cell? w _ hx230_1)).trans hx230_1
       replace hx230_2 := (HB.out.cell (World.block_lt_of_cell? w _ hx230_2)).trans hx230_2
       replace hx230_3 := (HB.out.cell (World.block_lt_of_cell? w _ hx230_3)).trans hx230_3
       replace hx230_4 := (HB.out.cell (World.block_lt_of_cell? w _ hx230_4)).trans hx230_4
       replace p230 := eq_true p230
       replace q230 := eq_true q230
       as_aux_lemma =>
        refine start_ (n := 41) (S := fun w' => w'.cell? ⟨gb217, 0, none⟩ = some (.int .u64 a0_0) ∧ w'.cell? ⟨gb217, 1, none⟩ = some (.int .u64 a0_1) ∧ w'.cell? ⟨gb217, 2, none⟩ = some (.int .u64 a0_2) ∧ w'.cell? ⟨gb217, 3, none⟩ = some (.string a0_3) ∧ w'.cell? ⟨gb217, 4, none⟩ = some (.string a0_4) ∧ w'.cell? ⟨gb217, 5, none⟩ = some (.int .i64 a0_5) ∧ w'.cell? ⟨gb217, 6, none⟩ = some (.int .i64 a0_6) ∧ w'.cell? ⟨gb217, 7, none⟩ = some (.int .i64 a0_7) ∧ w'.cell? ⟨gb217, 8, none⟩ = some (.slice (some ad222) l0_8.length c0_8) ∧ w'.cell? ⟨gb217, 9, none⟩ = some (.slice A0_9 l0_9.length c0_9) ∧ w'.cell? ⟨gb217, 10, none⟩ = some (.slice A0_10 l0_10.length c0_10) ∧ w'.cell? (ad222.add ((x3_3).toNat * 5)) = some (.string ((rd_T53 l0_8 x3_3).f0)) ∧ w'.cell? ⟨(ad222.add ((x3_3).toNat * 5)).block, (ad222.add ((x3_3).toNat * 5)).off + 1, none⟩ = some (.int .i64 ((rd_T53 l0_8 x3_3).f1.f0)) ∧ w'.cell? ⟨(ad222.add ((x3_3).toNat * 5)).block, (ad222.add ((x3_3).toNat * 5)).off + 2, none⟩ = some (.string ((rd_T53 l0_8 x3_3).f1.f1)) ∧ w'.cell? ⟨(ad222.add ((x3_3).toNat * 5)).block, (ad222.add ((x3_3).toNat * 5)).off + 3, none⟩ = some (.int .i64 ((rd_T53 l0_8 x3_3).f1.f2)) ∧ w'.cell? ⟨(ad222.add ((x3_3).toNat * 5)).block, (ad222.add ((x3_3).toNat * 5)).off + 4, none⟩ = some (.bool ((rd_T53 l0_8 x3_3).f1.f3)) ∧ w'.cell? (ad222.add ((x3_3).toNat * 5)) = some (.string ((rd_T53 l0_8 x3_3).f0)) ∧ w'.cell? ⟨(ad222.add ((x3_3).toNat * 5)).block, (ad222.add ((x3_3).toNat * 5)).off + 1, none⟩ = some (.int .i64 ((rd_T53 l0_8 x3_3).f1.f0)) ∧ w'.cell? ⟨(ad222.add ((x3_3).toNat * 5)).block, (ad222.add ((x3_3).toNat * 5)).off + 2, none⟩ = some (.string ((rd_T53 l0_8 x3_3).f1.f1)) ∧ w'.cell? ⟨(ad222.add ((x3_3).toNat * 5)).block, (ad222.add ((x3_3).toNat * 5)).off + 3, none⟩ = some (.int .i64 ((rd_T53 l0_8 x3_3).f1.f2)) ∧ w'.cell? ⟨(ad222.add ((x3_3).toNat * 5)).block, (ad222.add ((x3_3).toNat * 5)).off + 4, none⟩ = some (.bool ((rd_T53 l0_8 x3_3).f1.f3)) ∧ w'.cell? (ad222.add (((ji60)).toNat * 5)) = some (.string ((rd_T53 l0_8 (ji60)).f0)) ∧ w'.cell? ⟨(ad222.add (((ji60)).toNat * 5)).block, (ad222.add (((ji60)).toNat * 5)).off + 1, none⟩ = some (.int .i64 ((rd_T53 l0_8 (ji60)).f1.f0)) ∧ w'.cell? ⟨(ad222.add (((ji60)).toNat * 5)).block, (ad222.add (((ji60)).toNat * 5)).off + 2, none⟩ = some (.string ((rd_T53 l0_8 (ji60)).f1.f1)) ∧ w'.cell? ⟨(ad222.add (((ji60)).toNat * 5)).block, (ad222.add (((ji60)).toNat * 5)).off + 3, none⟩ = some (.int .i64 ((rd_T53 l0_8 (ji60)).f1.f2)) ∧ w'.cell? ⟨(ad222.add (((ji60)).toNat * 5)).block, (ad222.add (((ji60)).toNat * 5)).off + 4, none⟩ = some (.bool ((rd_T53 l0_8 (ji60)).f1.f3)) ∧ w'.cell? (ad222.add ((x3_3).toNat * 5)) = some (.string ((rd_T53 l0_8 x3_3).f0)) ∧ w'.cell? ⟨(ad222.add ((x3_3).toNat * 5)).block, (ad222.add ((x3_3).toNat * 5)).off + 1, none⟩ = some (.int .i64 ((rd_T53 l0_8 x3_3).f1.f0)) ∧ w'.cell? ⟨(ad222.add ((x3_3).toNat * 5)).block, (ad222.add ((x3_3).toNat * 5)).off + 2, none⟩ = some (.string ((rd_T53 l0_8 x3_3).f1.f1)) ∧ w'.cell? ⟨(ad222.add ((x3_3).toNat * 5)).block, (ad222.add ((x3_3).toNat * 5)).off + 3, none⟩ = some (.int .i64 ((rd_T53 l0_8 x3_3).f1.f2)) ∧ w'.cell? ⟨(ad222.add ((x3_3).toNat * 5)).block, (ad222.add ((x3_3).toNat * 5)).off + 4, none⟩ = some (.bool ((rd_T53 l0_8 x3_3).f1.f3))) (ds := []) #[false, false, false, false, false, false, false, false, false, false, false, false, false, false, false, false, false, false, false, false, false, false, false, false, false, false, false, false, false, false, false, false, false, false, false, false, false, false, false, false, false] (by kernel_rfl) rfl rfl ⟨q15k BK217.out 0, q15k BK217.out 1, q15k BK217.out 2, q15k BK217.out 3, q15k BK217.out 4, q15k BK217.out 5, q15k BK217.out 6, q15k BK217.out 7, q15k BK217.out 8, q15k BK217.out 9, q15k BK217.out 10, (q15h HB.out hw222_0:), (q15h HB.out hw222_1:), (q15h HB.out hw222_2:), (q15h HB.out hw222_3:), (q15h HB.out hw222_4:), (q15h HB.out hw224_0:), (q15h HB.out hw224_1:), (q15h HB.out hw224_2:), (q15h HB.out hw224_3:), (q15h HB.out hw224_4:), (q15h HB.out hw226_0:), (q15h HB.out hw226_1:), (q15h HB.out hw226_2:), (q15h HB.out hw226_3:), (q15h HB.out hw226_4:), (q15h HB.out hw230_0:), (q15h HB.out hw230_1:), (q15h HB.out hw230_2:), (q15h HB.out hw230_3:), (q15h HB.out hw230_4:)⟩ (fun hHeld => ?_); refine with_tabW cambiumref16_May.tab8 cambiumref16_May.bits8 (fun HT_ HW_ => ?_)
        generalize wr.drew = w68 at BK217 HB hx222_0 hx222_1 hx222_2 hx222_3 hx222_4 hx224_0 hx224_1 hx224_2 hx224_3 hx224_4 hx226_0 hx226_1 hx226_2 hx226_3 hx226_4 hx230_0 hx230_1 hx230_2 hx230_3 hx230_4 hHeld ⊢
        refine q15p (i := 0) (N := some 78) (q15m 41 1) HT_.out ?_
        refine q15p (i := 2) (N := some 80) (q15m 41 5) HT_.out ?_
        refine take_ (i := 1) (N := some 79) (v := ?_) (a' := ?_) (q15m 41 7) rfl rfl (take_ofW HT_.out HW_.out (by kernel_rfl)) (fun _ _ _ h => h) (Or.inl ⟨by rfl, ?_⟩) hHeld ?_ ?_; rotate_left; (rintro w' ⟨s0, s1, s2, s3, s4, s5, s6, s7, s8, s9, s10, s11, s12, s13, s14, s15, s16, s17, s18, s19, s20, s21, s22, s23, s24, s25, s26, s27, s28, s29, s30⟩; go_simp; with_reducible rfl); rotate_left; (simp only [Act.put, q15a, q15b, q15c, i64_w, i32_w]; rfl)
        refine q15p (i := 3) (N := some 81) (q15m 41 15) HT_.out ?_
        refine q15p (i := 4) (N := some 82) (q15m 41 31) HT_.out ?_
        refine take_ (i := 5) (N := some 83) (v := ?_) (a' := ?_) (q15m 41 63) rfl rfl (take_ofW HT_.out HW_.out (by kernel_rfl)) (fun _ _ _ h => h) (Or.inl ⟨by rfl, ?_⟩) hHeld ?_ ?_; rotate_left; (rintro w' ⟨s0, s1, s2, s3, s4, s5, s6, s7, s8, s9, s10, s11, s12, s13, s14, s15, s16, s17, s18, s19, s20, s21, s22, s23, s24, s25, s26, s27, s28, s29, s30⟩; go_simp; with_reducible rfl); rotate_left; (simp only [Act.put, q15a, q15b, q15c, i64_w, i32_w]; rfl)
        refine one_ (i := 6) (N := some 84) (q15m 41 127) rfl rfl (one_of HT_.out (by kernel_rfl)) (by decide) (fun K hK => ?_)
        refine goes_ Tryd.func36 (by kernel_rfl) rfl #[.string ((rd_T53 l0_8 x3_3).f0)] (by rfl) rfl rfl q15y3 ?_
        with_reducible refine (cambiumref16_Name.calls k3 ((rd_T53 l0_8 x3_3).f0) true _ A55.out).mono ?_
        rintro e w69 ⟨rfl, hb⟩
        refine ⟨_, rfl, ?_⟩
        replace BK217 := Aside0.mk (blk_below q15y1 hb)
        replace HB := Aside0.mk (below_step q15y0 hb)
        (try clear hb)
        (try clear hb2)
        (try clear hk)
        (try clear hi)
        refine hK.out _ _ ⟨q15k BK217.out 0, q15k BK217.out 1, q15k BK217.out 2, q15k BK217.out 3, q15k BK217.out 4, q15k BK217.out 5, q15k BK217.out 6, q15k BK217.out 7, q15k BK217.out 8, q15k BK217.out 9, q15k BK217.out 10, (q15h HB.out hw222_0:), (q15h HB.out hw222_1:), (q15h HB.out hw222_2:), (q15h HB.out hw222_3:), (q15h HB.out hw222_4:), (q15h HB.out hw224_0:), (q15h HB.out hw224_1:), (q15h HB.out hw224_2:), (q15h HB.out hw224_3:), (q15h HB.out hw224_4:), (q15h HB.out hw226_0:), (q15h HB.out hw226_1:), (q15h HB.out hw226_2:), (q15h HB.out hw226_3:), (q15h HB.out hw226_4:), (q15h HB.out hw230_0:), (q15h HB.out hw230_1:), (q15h HB.out hw230_2:), (q15h HB.out hw230_3:), (q15h HB.out hw230_4:)⟩ (fun hHeld => ?_)
        clear hK K
        refine norm_ (a' := ?_) ?_ ?_
        rotate_left
        ·show Act.put _ (some 84) _ = _
         simp only [Act.put, q15a, q15b, q15c, i64_w, i32_w]
         rfl
        refine q15p (i := 7) (N := some 85) (q15m 41 255) HT_.out ?_
        refine q15p (i := 8) (N := some 86) (q15m 41 511) HT_.out ?_
        refine q15p (i := 9) (N := some 87) (q15m 41 1023) HT_.out ?_
        refine q15p (i := 11) (N := some 89) (q15m 41 3071) HT_.out ?_
        refine take_ (i := 10) (N := some 88) (v := ?_) (a' := ?_) (q15m 41 4095) rfl rfl (take_ofW HT_.out HW_.out (by kernel_rfl)) (fun _ _ _ h => h) (Or.inl ⟨by rfl, ?_⟩) hHeld ?_ ?_; rotate_left; (rintro w' ⟨s0, s1, s2, s3, s4, s5, s6, s7, s8, s9, s10, s11, s12, s13, s14, s15, s16, s17, s18, s19, s20, s21, s22, s23, s24, s25, s26, s27, s28, s29, s30⟩; go_simp; with_reducible rfl); rotate_left; (simp only [Act.put, q15a, q15b, q15c, i64_w, i32_w]; rfl)
        refine q15p (i := 12) (N := some 90) (q15m 41 8191) HT_.out ?_
        refine q15p (i := 13) (N := some 91) (q15m 41 16383) HT_.out ?_
        refine take_ (i := 14) (N := some 92) (v := ?_) (a' := ?_) (q15m 41 32767) rfl rfl (take_ofW HT_.out HW_.out (by kernel_rfl)) (fun _ _ _ h => h) (Or.inl ⟨by rfl, ?_⟩) hHeld ?_ ?_; rotate_left; (rintro w' ⟨s0, s1, s2, s3, s4, s5, s6, s7, s8, s9, s10, s11, s12, s13, s14, s15, s16, s17, s18, s19, s20, s21, s22, s23, s24, s25, s26, s27, s28, s29, s30⟩; go_simp; with_reducible rfl); rotate_left; (simp only [Act.put, q15a, q15b, q15c, i64_w, i32_w]; rfl)
        refine one_ (i := 15) (N := some 93) (q15m 41 65535) rfl rfl (one_of HT_.out (by kernel_rfl)) (by decide) (fun K hK => ?_)
        refine goes_ Tryd.func38 (by kernel_rfl) rfl #[.agg #[.int .i64 ((rd_T53 l0_8 x3_3).f1.f0), .string ((rd_T53 l0_8 x3_3).f1.f1), .int .i64 ((rd_T53 l0_8 x3_3).f1.f2), .bool ((rd_T53 l0_8 x3_3).f1.f3)]] (by rfl) rfl rfl q15y3 ?_
        with_reducible refine (cambiumref16_Value.calls k3 ((rd_T53 l0_8 x3_3).f1.f0) ((rd_T53 l0_8 x3_3).f1.f1) ((rd_T53 l0_8 x3_3).f1.f2) ((rd_T53 l0_8 x3_3).f1.f3) true _ A57.out).mono ?_
        rintro e w70 ⟨rfl, hb⟩
        refine ⟨_, rfl, ?_⟩
        replace BK217 := Aside0.mk (blk_below q15y1 hb)
        replace HB := Aside0.mk (below_step q15y0 hb)
        (try clear hb)
        (try clear hb2)
        (try clear hk)
        (try clear hi)
        refine hK.out _ _ ⟨q15k BK217.out 0, q15k BK217.out 1, q15k BK217.out 2, q15k BK217.out 3, q15k BK217.out 4, q15k BK217.out 5, q15k BK217.out 6, q15k BK217.out 7, q15k BK217.out 8, q15k BK217.out 9, q15k BK217.out 10, (q15h HB.out hw222_0:), (q15h HB.out hw222_1:), (q15h HB.out hw222_2:), (q15h HB.out hw222_3:), (q15h HB.out hw222_4:), (q15h HB.out hw224_0:), (q15h HB.out hw224_1:), (q15h HB.out hw224_2:), (q15h HB.out hw224_3:), (q15h HB.out hw224_4:), (q15h HB.out hw226_0:), (q15h HB.out hw226_1:), (q15h HB.out hw226_2:), (q15h HB.out hw226_3:), (q15h HB.out hw226_4:), (q15h HB.out hw230_0:), (q15h HB.out hw230_1:), (q15h HB.out hw230_2:), (q15h HB.out hw230_3:), (q15h HB.out hw230_4:)⟩ (fun hHeld => ?_)
        clear hK K
        refine norm_ (a' := ?_) ?_ ?_
        rotate_left
        ·show Act.put _ (some 93) _ = _
         simp only [Act.put, q15a, q15b, q15c, i64_w, i32_w]
         rfl
        refine q15p (i := 16) (N := some 94) (q15m 41 131071) HT_.out ?_
        refine q15p (i := 17) (N := some 95) (q15m 41 262143) HT_.out ?_
        refine q15p (i := 18) (N := some 96) (q15m 41 524287) HT_.out ?_
        refine q15p (i := 19) (N := some 97) (q15m 41 1048575) HT_.out ?_
        refine q15p (i := 20) (N := some 98) (q15m 41 2097151) HT_.out ?_
        refine q15p (i := 21) (N := some 99) (q15m 41 4194303) HT_.out ?_
        refine q15p (i := 22) (N := some 100) (q15m 41 8388607) HT_.out ?_
        refine q15p (i := 24) (N := some 102) (q15m 41 25165823) HT_.out ?_
        refine q15p (i := 25) (N := some 103) (q15m 41 58720255) HT_.out ?_
        refine q15p (i := 30) (N := some 108) (q15m 41 1132462079) HT_.out ?_
        refine q15p (i := 32) (N := some 110) (q15m 41 5427429375) HT_.out ?_
        refine take_ (i := 23) (N := some 101) (v := ?_) (a' := ?_) (q15m 41 5435817983) rfl rfl (take_ofW HT_.out HW_.out (by kernel_rfl)) (fun _ _ _ h => h) (Or.inl ⟨by rfl, ?_⟩) hHeld ?_ ?_; rotate_left; (rintro w' ⟨s0, s1, s2, s3, s4, s5, s6, s7, s8, s9, s10, s11, s12, s13, s14, s15, s16, s17, s18, s19, s20, s21, s22, s23, s24, s25, s26, s27, s28, s29, s30⟩; go_simp; with_reducible rfl); rotate_left; (simp only [Act.put, q15a, q15b, q15c, i64_w, i32_w]; rfl)
        refine q15p (i := 26) (N := some 104) (q15m 41 5502926847) HT_.out ?_
        refine q15p (i := 27) (N := some 105) (q15m 41 5637144575) HT_.out ?_
        refine take_ (i := 28) (N := some 106) (v := ?_) (a' := ?_) (q15m 41 5905580031) rfl rfl (take_ofW HT_.out HW_.out (by kernel_rfl)) (fun _ _ _ h => h) (Or.inl ⟨by rfl, ?_⟩) hHeld ?_ ?_; rotate_left; (rintro w' ⟨s0, s1, s2, s3, s4, s5, s6, s7, s8, s9, s10, s11, s12, s13, s14, s15, s16, s17, s18, s19, s20, s21, s22, s23, s24, s25, s26, s27, s28, s29, s30⟩; go_simp; with_reducible rfl); rotate_left; (simp only [Act.put, q15a, q15b, q15c, i64_w, i32_w]; rfl)
        refine take_ (i := 31) (N := some 109) (v := ?_) (a' := ?_) (q15m 41 8053063679) rfl rfl (take_ofW HT_.out HW_.out (by kernel_rfl)) (fun _ _ _ h => h) (Or.inl ⟨by rfl, ?_⟩) hHeld ?_ ?_; rotate_left; (rintro w' ⟨s0, s1, s2, s3, s4, s5, s6, s7, s8, s9, s10, s11, s12, s13, s14, s15, s16, s17, s18, s19, s20, s21, s22, s23, s24, s25, s26, s27, s28, s29, s30⟩; go_simp; with_reducible rfl); rotate_left; (simp only [Act.put, q15a, q15b, q15c, i64_w, i32_w]; rfl)
        refine q15p (i := 33) (N := some 111) (q15m 41 16642998271) HT_.out ?_
        refine q15p (i := 34) (N := some 112) (q15m 41 33822867455) HT_.out ?_
        refine take_ (i := 35) (N := some 113) (v := ?_) (a' := ?_) (q15m 41 68182605823) rfl rfl (take_ofW HT_.out HW_.out (by kernel_rfl)) (fun _ _ _ h => h) (Or.inl ⟨by rfl, ?_⟩) hHeld ?_ ?_; rotate_left; (rintro w' ⟨s0, s1, s2, s3, s4, s5, s6, s7, s8, s9, s10, s11, s12, s13, s14, s15, s16, s17, s18, s19, s20, s21, s22, s23, s24, s25, s26, s27, s28, s29, s30⟩; go_simp; with_reducible rfl); rotate_left; (simp only [Act.put, q15a, q15b, q15c, i64_w, i32_w]; rfl)
        refine join_ (σ := Value × Value) 4 (q15m 41 137438953471) (fun s_ => [(107, s_.1), (114, s_.2)]) (fun s_ w' => (w'.cell? ⟨gb217, 0, none⟩ = some (.int .u64 a0_0) ∧ w'.cell? ⟨gb217, 1, none⟩ = some (.int .u64 a0_1) ∧ w'.cell? ⟨gb217, 2, none⟩ = some (.int .u64 a0_2) ∧ w'.cell? ⟨gb217, 3, none⟩ = some (.string a0_3) ∧ w'.cell? ⟨gb217, 4, none⟩ = some (.string a0_4) ∧ w'.cell? ⟨gb217, 5, none⟩ = some (.int .i64 a0_5) ∧ w'.cell? ⟨gb217, 6, none⟩ = some (.int .i64 a0_6) ∧ w'.cell? ⟨gb217, 7, none⟩ = some (.int .i64 a0_7) ∧ w'.cell? ⟨gb217, 8, none⟩ = some (.slice (some ad222) l0_8.length c0_8) ∧ w'.cell? ⟨gb217, 9, none⟩ = some (.slice A0_9 l0_9.length c0_9) ∧ w'.cell? ⟨gb217, 10, none⟩ = some (.slice A0_10 l0_10.length c0_10) ∧ w'.cell? (ad222.add ((x3_3).toNat * 5)) = some (.string ((rd_T53 l0_8 x3_3).f0)) ∧ w'.cell? ⟨(ad222.add ((x3_3).toNat * 5)).block, (ad222.add ((x3_3).toNat * 5)).off + 1, none⟩ = some (.int .i64 ((rd_T53 l0_8 x3_3).f1.f0)) ∧ w'.cell? ⟨(ad222.add ((x3_3).toNat * 5)).block, (ad222.add ((x3_3).toNat * 5)).off + 2, none⟩ = some (.string ((rd_T53 l0_8 x3_3).f1.f1)) ∧ w'.cell? ⟨(ad222.add ((x3_3).toNat * 5)).block, (ad222.add ((x3_3).toNat * 5)).off + 3, none⟩ = some (.int .i64 ((rd_T53 l0_8 x3_3).f1.f2)) ∧ w'.cell? ⟨(ad222.add ((x3_3).toNat * 5)).block, (ad222.add ((x3_3).toNat * 5)).off + 4, none⟩ = some (.bool ((rd_T53 l0_8 x3_3).f1.f3)) ∧ w'.cell? (ad222.add ((x3_3).toNat * 5)) = some (.string ((rd_T53 l0_8 x3_3).f0)) ∧ w'.cell? ⟨(ad222.add ((x3_3).toNat * 5)).block, (ad222.add ((x3_3).toNat * 5)).off + 1, none⟩ = some (.int .i64 ((rd_T53 l0_8 x3_3).f1.f0)) ∧ w'.cell? ⟨(ad222.add ((x3_3).toNat * 5)).block, (ad222.add ((x3_3).toNat * 5)).off + 2, none⟩ = some (.string ((rd_T53 l0_8 x3_3).f1.f1)) ∧ w'.cell? ⟨(ad222.add ((x3_3).toNat * 5)).block, (ad222.add ((x3_3).toNat * 5)).off + 3, none⟩ = some (.int .i64 ((rd_T53 l0_8 x3_3).f1.f2)) ∧ w'.cell? ⟨(ad222.add ((x3_3).toNat * 5)).block, (ad222.add ((x3_3).toNat * 5)).off + 4, none⟩ = some (.bool ((rd_T53 l0_8 x3_3).f1.f3)) ∧ w'.cell? (ad222.add (((ji60)).toNat * 5)) = some (.string ((rd_T53 l0_8 (ji60)).f0)) ∧ w'.cell? ⟨(ad222.add (((ji60)).toNat * 5)).block, (ad222.add (((ji60)).toNat * 5)).off + 1, none⟩ = some (.int .i64 ((rd_T53 l0_8 (ji60)).f1.f0)) ∧ w'.cell? ⟨(ad222.add (((ji60)).toNat * 5)).block, (ad222.add (((ji60)).toNat * 5)).off + 2, none⟩ = some (.string ((rd_T53 l0_8 (ji60)).f1.f1)) ∧ w'.cell? ⟨(ad222.add (((ji60)).toNat * 5)).block, (ad222.add (((ji60)).toNat * 5)).off + 3, none⟩ = some (.int .i64 ((rd_T53 l0_8 (ji60)).f1.f2)) ∧ w'.cell? ⟨(ad222.add (((ji60)).toNat * 5)).block, (ad222.add (((ji60)).toNat * 5)).off + 4, none⟩ = some (.bool ((rd_T53 l0_8 (ji60)).f1.f3)) ∧ w'.cell? (ad222.add ((x3_3).toNat * 5)) = some (.string ((rd_T53 l0_8 x3_3).f0)) ∧ w'.cell? ⟨(ad222.add ((x3_3).toNat * 5)).block, (ad222.add ((x3_3).toNat * 5)).off + 1, none⟩ = some (.int .i64 ((rd_T53 l0_8 x3_3).f1.f0)) ∧ w'.cell? ⟨(ad222.add ((x3_3).toNat * 5)).block, (ad222.add ((x3_3).toNat * 5)).off + 2, none⟩ = some (.string ((rd_T53 l0_8 x3_3).f1.f1)) ∧ w'.cell? ⟨(ad222.add ((x3_3).toNat * 5)).block, (ad222.add ((x3_3).toNat * 5)).off + 3, none⟩ = some (.int .i64 ((rd_T53 l0_8 x3_3).f1.f2)) ∧ w'.cell? ⟨(ad222.add ((x3_3).toNat * 5)).block, (ad222.add ((x3_3).toNat * 5)).off + 4, none⟩ = some (.bool ((rd_T53 l0_8 x3_3).f1.f3))) ∧ (Kd.V (Kd.int .u8) 5 w' w.heap.size (fun k_ => k_ ≠ gb217) s_.1 y227) ∧ (Kd.V (Kd.int .u8) 5 w' w.heap.size (fun k_ => k_ ≠ gb217) s_.2 y231) ∧ (w'.heap[gb217]? = some (.cells #[.int .u64 a0_0, .int .u64 a0_1, .int .u64 a0_2, .string a0_3, .string a0_4, .int .i64 a0_5, .int .i64 a0_6, .int .i64 a0_7, .slice (some ad222) l0_8.length c0_8, .slice A0_9 l0_9.length c0_9, .slice A0_10 l0_10.length c0_10] 27 (0, 0))) ∧ (Below w.heap.size w w')) ?_ ?_
        rotate_left
        ·intro hCont
         refine two_ (i := 29) (j := 36) (Ni := some 107) (Nj := some 114) (q15m 41 68719476735) (q15m 41 136902082559) rfl rfl rfl rfl (two_of HT_.out (by kernel_rfl)) (by decide) (by decide) (fun K hK => ?_) (fun K hK => ?_)
         ·skip
          refine Go.Proofs.YtkgpnfjmahjlcaaDoor.Conv.V_conv_step _ 5 (by rfl) (N' := 107) rfl 9 30 _ rfl Tryd.underlying9 Tryd.underlying30 Tryd.underlying5 ((rd_T53 l0_8 (ji60)).f0) rfl q15y8 (Below.refl _ _) (Nat.le_refl _) ?_
          intro v228 w71 ho72 hb hg_ hnew_
          clear hg_ hnew_
          (first | rw [← Ny227.out] at ho72 | (simp only [Int.reduceToNat] at ho72; rw [← Ny227.out] at ho72))
          have HO229 := Aside0.mk (Kd.V_lower (Kd.V_mono (ok' := fun k_ => k_ ≠ gb217) ho72 (fun k_ hk_ => (Kd.freshB (g := gb217) (o := .cells #[.int .u64 a0_0, .int .u64 a0_1, .int .u64 a0_2, .string a0_3, .string a0_4, .int .i64 a0_5, .int .i64 a0_6, .int .i64 a0_7, .slice (some ad222) l0_8.length c0_8, .slice A0_9 l0_9.length c0_9, .slice A0_10 l0_10.length c0_10] 27 (0, 0)) q15y1 k_ hk_))) (below_size q15y0))
          replace BK217 := Aside0.mk (blk_below q15y1 hb)
          replace HB := Aside0.mk (below_step q15y0 hb)
          clear hb ho72
          refine hK.out _ _ ⟨q15k BK217.out 0, q15k BK217.out 1, q15k BK217.out 2, q15k BK217.out 3, q15k BK217.out 4, q15k BK217.out 5, q15k BK217.out 6, q15k BK217.out 7, q15k BK217.out 8, q15k BK217.out 9, q15k BK217.out 10, (q15h HB.out hw222_0:), (q15h HB.out hw222_1:), (q15h HB.out hw222_2:), (q15h HB.out hw222_3:), (q15h HB.out hw222_4:), (q15h HB.out hw224_0:), (q15h HB.out hw224_1:), (q15h HB.out hw224_2:), (q15h HB.out hw224_3:), (q15h HB.out hw224_4:), (q15h HB.out hw226_0:), (q15h HB.out hw226_1:), (q15h HB.out hw226_2:), (q15h HB.out hw226_3:), (q15h HB.out hw226_4:), (q15h HB.out hw230_0:), (q15h HB.out hw230_1:), (q15h HB.out hw230_2:), (q15h HB.out hw230_3:), (q15h HB.out hw230_4:)⟩ (fun hHeld => ?_)
          clear hK K
          refine norm_ (a' := ?_) ?_ ?_
          rotate_left
          ·show Act.put _ (some 107) _ = _
           simp only [Act.put, q15a, q15b, q15c, i64_w, i32_w]
           rfl
          refine one_ (i := 36) (N := some 114) (q15m 41 137438953471) rfl rfl (one_of HT_.out (by kernel_rfl)) (by decide) (fun K hK => ?_)
          refine Go.Proofs.YtkgpnfjmahjlcaaDoor.Conv.V_conv_step _ 5 (by rfl) (N' := 114) rfl 9 30 _ rfl Tryd.underlying9 Tryd.underlying30 Tryd.underlying5 ((rd_T53 l0_8 x3_3).f0) rfl q15y8 (Below.refl _ _) (Nat.le_refl _) ?_
          intro v232 w73 ho74 hb hg_ hnew_
          clear hg_ hnew_
          (first | rw [← Ny231.out] at ho74 | (simp only [Int.reduceToNat] at ho74; rw [← Ny231.out] at ho74))
          have HO233 := Aside0.mk (Kd.V_lower (Kd.V_mono (ok' := fun k_ => k_ ≠ gb217) ho74 (fun k_ hk_ => (Kd.freshB (g := gb217) (o := .cells #[.int .u64 a0_0, .int .u64 a0_1, .int .u64 a0_2, .string a0_3, .string a0_4, .int .i64 a0_5, .int .i64 a0_6, .int .i64 a0_7, .slice (some ad222) l0_8.length c0_8, .slice A0_9 l0_9.length c0_9, .slice A0_10 l0_10.length c0_10] 27 (0, 0)) q15y1 k_ hk_))) (below_size q15y0))
          replace HO229 := Aside0.mk (Kd.V_below q15y6 hb)
          replace BK217 := Aside0.mk (blk_below q15y1 hb)
          replace HB := Aside0.mk (below_step q15y0 hb)
          clear hb ho74
          refine hK.out _ _ ⟨q15k BK217.out 0, q15k BK217.out 1, q15k BK217.out 2, q15k BK217.out 3, q15k BK217.out 4, q15k BK217.out 5, q15k BK217.out 6, q15k BK217.out 7, q15k BK217.out 8, q15k BK217.out 9, q15k BK217.out 10, (q15h HB.out hw222_0:), (q15h HB.out hw222_1:), (q15h HB.out hw222_2:), (q15h HB.out hw222_3:), (q15h HB.out hw222_4:), (q15h HB.out hw224_0:), (q15h HB.out hw224_1:), (q15h HB.out hw224_2:), (q15h HB.out hw224_3:), (q15h HB.out hw224_4:), (q15h HB.out hw226_0:), (q15h HB.out hw226_1:), (q15h HB.out hw226_2:), (q15h HB.out hw226_3:), (q15h HB.out hw226_4:), (q15h HB.out hw230_0:), (q15h HB.out hw230_1:), (q15h HB.out hw230_2:), (q15h HB.out hw230_3:), (q15h HB.out hw230_4:)⟩ (fun hHeld => ?_)
          clear hK K
          refine norm_ (a' := ?_) ?_ ?_
          rotate_left
          ·show Act.put _ (some 114) _ = _
           simp only [Act.put, q15a, q15b, q15c, i64_w, i32_w]
           rfl
          exact norm_ (by simp only [putAll, Act.put, q15a, q15b, q15c]) (hCont (v228, v232) _ ⟨hHeld, q15y6, q15y5, q15y1, q15y0⟩)
         ·skip
          refine Go.Proofs.YtkgpnfjmahjlcaaDoor.Conv.V_conv_step _ 5 (by rfl) (N' := 114) rfl 9 30 _ rfl Tryd.underlying9 Tryd.underlying30 Tryd.underlying5 ((rd_T53 l0_8 x3_3).f0) rfl q15y8 (Below.refl _ _) (Nat.le_refl _) ?_
          intro v232 w71 ho72 hb hg_ hnew_
          clear hg_ hnew_
          (first | rw [← Ny231.out] at ho72 | (simp only [Int.reduceToNat] at ho72; rw [← Ny231.out] at ho72))
          have HO233 := Aside0.mk (Kd.V_lower (Kd.V_mono (ok' := fun k_ => k_ ≠ gb217) ho72 (fun k_ hk_ => (Kd.freshB (g := gb217) (o := .cells #[.int .u64 a0_0, .int .u64 a0_1, .int .u64 a0_2, .string a0_3, .string a0_4, .int .i64 a0_5, .int .i64 a0_6, .int .i64 a0_7, .slice (some ad222) l0_8.length c0_8, .slice A0_9 l0_9.length c0_9, .slice A0_10 l0_10.length c0_10] 27 (0, 0)) q15y1 k_ hk_))) (below_size q15y0))
          replace BK217 := Aside0.mk (blk_below q15y1 hb)
          replace HB := Aside0.mk (below_step q15y0 hb)
          clear hb ho72
          refine hK.out _ _ ⟨q15k BK217.out 0, q15k BK217.out 1, q15k BK217.out 2, q15k BK217.out 3, q15k BK217.out 4, q15k BK217.out 5, q15k BK217.out 6, q15k BK217.out 7, q15k BK217.out 8, q15k BK217.out 9, q15k BK217.out 10, (q15h HB.out hw222_0:), (q15h HB.out hw222_1:), (q15h HB.out hw222_2:), (q15h HB.out hw222_3:), (q15h HB.out hw222_4:), (q15h HB.out hw224_0:), (q15h HB.out hw224_1:), (q15h HB.out hw224_2:), (q15h HB.out hw224_3:), (q15h HB.out hw224_4:), (q15h HB.out hw226_0:), (q15h HB.out hw226_1:), (q15h HB.out hw226_2:), (q15h HB.out hw226_3:), (q15h HB.out hw226_4:), (q15h HB.out hw230_0:), (q15h HB.out hw230_1:), (q15h HB.out hw230_2:), (q15h HB.out hw230_3:), (q15h HB.out hw230_4:)⟩ (fun hHeld => ?_)
          clear hK K
          refine norm_ (a' := ?_) ?_ ?_
          rotate_left
          ·show Act.put _ (some 114) _ = _
           simp only [Act.put, q15a, q15b, q15c, i64_w, i32_w]
           rfl
          refine one_ (i := 29) (N := some 107) (q15m 41 137438953471) rfl rfl (one_of HT_.out (by kernel_rfl)) (by decide) (fun K hK => ?_)
          refine Go.Proofs.YtkgpnfjmahjlcaaDoor.Conv.V_conv_step _ 5 (by rfl) (N' := 107) rfl 9 30 _ rfl Tryd.underlying9 Tryd.underlying30 Tryd.underlying5 ((rd_T53 l0_8 (ji60)).f0) rfl q15y8 (Below.refl _ _) (Nat.le_refl _) ?_
          intro v228 w73 ho74 hb hg_ hnew_
          clear hg_ hnew_
          (first | rw [← Ny227.out] at ho74 | (simp only [Int.reduceToNat] at ho74; rw [← Ny227.out] at ho74))
          have HO229 := Aside0.mk (Kd.V_lower (Kd.V_mono (ok' := fun k_ => k_ ≠ gb217) ho74 (fun k_ hk_ => (Kd.freshB (g := gb217) (o := .cells #[.int .u64 a0_0, .int .u64 a0_1, .int .u64 a0_2, .string a0_3, .string a0_4, .int .i64 a0_5, .int .i64 a0_6, .int .i64 a0_7, .slice (some ad222) l0_8.length c0_8, .slice A0_9 l0_9.length c0_9, .slice A0_10 l0_10.length c0_10] 27 (0, 0)) q15y1 k_ hk_))) (below_size q15y0))
          replace HO233 := Aside0.mk (Kd.V_below q15y5 hb)
          replace BK217 := Aside0.mk (blk_below q15y1 hb)
          replace HB := Aside0.mk (below_step q15y0 hb)
          clear hb ho74
          refine hK.out _ _ ⟨q15k BK217.out 0, q15k BK217.out 1, q15k BK217.out 2, q15k BK217.out 3, q15k BK217.out 4, q15k BK217.out 5, q15k BK217.out 6, q15k BK217.out 7, q15k BK217.out 8, q15k BK217.out 9, q15k BK217.out 10, (q15h HB.out hw222_0:), (q15h HB.out hw222_1:), (q15h HB.out hw222_2:), (q15h HB.out hw222_3:), (q15h HB.out hw222_4:), (q15h HB.out hw224_0:), (q15h HB.out hw224_1:), (q15h HB.out hw224_2:), (q15h HB.out hw224_3:), (q15h HB.out hw224_4:), (q15h HB.out hw226_0:), (q15h HB.out hw226_1:), (q15h HB.out hw226_2:), (q15h HB.out hw226_3:), (q15h HB.out hw226_4:), (q15h HB.out hw230_0:), (q15h HB.out hw230_1:), (q15h HB.out hw230_2:), (q15h HB.out hw230_3:), (q15h HB.out hw230_4:)⟩ (fun hHeld => ?_)
          clear hK K
          refine norm_ (a' := ?_) ?_ ?_
          rotate_left
          ·show Act.put _ (some 107) _ = _
           simp only [Act.put, q15a, q15b, q15c, i64_w, i32_w]
           rfl
          exact norm_ (by simp only [putAll, Act.put, q15a, q15b, q15c]) (hCont (v228, v232) _ ⟨hHeld, q15y6, q15y5, q15y1, q15y0⟩)
        rintro ⟨v228, v232⟩ w75 ⟨hS_, h0_, h1_, h2_, h3_⟩
        have n0_ : Aside0 (Kd.V (Kd.int .u8) 5 w75 w.heap.size (fun k_ => k_ ≠ gb217) v228 y227) := ⟨h0_⟩
        have n1_ : Aside0 (Kd.V (Kd.int .u8) 5 w75 w.heap.size (fun k_ => k_ ≠ gb217) v232 y231) := ⟨h1_⟩
        have n2_ : Aside0 (w75.heap[gb217]? = some (.cells #[.int .u64 a0_0, .int .u64 a0_1, .int .u64 a0_2, .string a0_3, .string a0_4, .int .i64 a0_5, .int .i64 a0_6, .int .i64 a0_7, .slice (some ad222) l0_8.length c0_8, .slice A0_9 l0_9.length c0_9, .slice A0_10 l0_10.length c0_10] 27 (0, 0))) := ⟨h2_⟩
        have n3_ : Aside0 (Below w.heap.size w w75) := ⟨h3_⟩
        clear BK217
        clear HB
        clear h0_ h1_ h2_ h3_
        have HO229 := n0_
        have HO233 := n1_
        have BK217 := n2_
        have HB := n3_
        clear n0_ n1_ n2_ n3_
        have hHeld : w75.cell? ⟨gb217, 0, none⟩ = some (.int .u64 a0_0) ∧ w75.cell? ⟨gb217, 1, none⟩ = some (.int .u64 a0_1) ∧ w75.cell? ⟨gb217, 2, none⟩ = some (.int .u64 a0_2) ∧ w75.cell? ⟨gb217, 3, none⟩ = some (.string a0_3) ∧ w75.cell? ⟨gb217, 4, none⟩ = some (.string a0_4) ∧ w75.cell? ⟨gb217, 5, none⟩ = some (.int .i64 a0_5) ∧ w75.cell? ⟨gb217, 6, none⟩ = some (.int .i64 a0_6) ∧ w75.cell? ⟨gb217, 7, none⟩ = some (.int .i64 a0_7) ∧ w75.cell? ⟨gb217, 8, none⟩ = some (.slice (some ad222) l0_8.length c0_8) ∧ w75.cell? ⟨gb217, 9, none⟩ = some (.slice A0_9 l0_9.length c0_9) ∧ w75.cell? ⟨gb217, 10, none⟩ = some (.slice A0_10 l0_10.length c0_10) ∧ w75.cell? (ad222.add ((x3_3).toNat * 5)) = some (.string ((rd_T53 l0_8 x3_3).f0)) ∧ w75.cell? ⟨(ad222.add ((x3_3).toNat * 5)).block, (ad222.add ((x3_3).toNat * 5)).off + 1, none⟩ = some (.int .i64 ((rd_T53 l0_8 x3_3).f1.f0)) ∧ w75.cell? ⟨(ad222.add ((x3_3).toNat * 5)).block, (ad222.add ((x3_3).toNat * 5)).off + 2, none⟩ = some (.string ((rd_T53 l0_8 x3_3).f1.f1)) ∧ w75.cell? ⟨(ad222.add ((x3_3).toNat * 5)).block, (ad222.add ((x3_3).toNat * 5)).off + 3, none⟩ = some (.int .i64 ((rd_T53 l0_8 x3_3).f1.f2)) ∧ w75.cell? ⟨(ad222.add ((x3_3).toNat * 5)).block, (ad222.add ((x3_3).toNat * 5)).off + 4, none⟩ = some (.bool ((rd_T53 l0_8 x3_3).f1.f3)) ∧ w75.cell? (ad222.add ((x3_3).toNat * 5)) = some (.string ((rd_T53 l0_8 x3_3).f0)) ∧ w75.cell? ⟨(ad222.add ((x3_3).toNat * 5)).block, (ad222.add ((x3_3).toNat * 5)).off + 1, none⟩ = some (.int .i64 ((rd_T53 l0_8 x3_3).f1.f0)) ∧ w75.cell? ⟨(ad222.add ((x3_3).toNat * 5)).block, (ad222.add ((x3_3).toNat * 5)).off + 2, none⟩ = some (.string ((rd_T53 l0_8 x3_3).f1.f1)) ∧ w75.cell? ⟨(ad222.add ((x3_3).toNat * 5)).block, (ad222.add ((x3_3).toNat * 5)).off + 3, none⟩ = some (.int .i64 ((rd_T53 l0_8 x3_3).f1.f2)) ∧ w75.cell? ⟨(ad222.add ((x3_3).toNat * 5)).block, (ad222.add ((x3_3).toNat * 5)).off + 4, none⟩ = some (.bool ((rd_T53 l0_8 x3_3).f1.f3)) ∧ w75.cell? (ad222.add (((ji60)).toNat * 5)) = some (.string ((rd_T53 l0_8 (ji60)).f0)) ∧ w75.cell? ⟨(ad222.add (((ji60)).toNat * 5)).block, (ad222.add (((ji60)).toNat * 5)).off + 1, none⟩ = some (.int .i64 ((rd_T53 l0_8 (ji60)).f1.f0)) ∧ w75.cell? ⟨(ad222.add (((ji60)).toNat * 5)).block, (ad222.add (((ji60)).toNat * 5)).off + 2, none⟩ = some (.string ((rd_T53 l0_8 (ji60)).f1.f1)) ∧ w75.cell? ⟨(ad222.add (((ji60)).toNat * 5)).block, (ad222.add (((ji60)).toNat * 5)).off + 3, none⟩ = some (.int .i64 ((rd_T53 l0_8 (ji60)).f1.f2)) ∧ w75.cell? ⟨(ad222.add (((ji60)).toNat * 5)).block, (ad222.add (((ji60)).toNat * 5)).off + 4, none⟩ = some (.bool ((rd_T53 l0_8 (ji60)).f1.f3)) ∧ w75.cell? (ad222.add ((x3_3).toNat * 5)) = some (.string ((rd_T53 l0_8 x3_3).f0)) ∧ w75.cell? ⟨(ad222.add ((x3_3).toNat * 5)).block, (ad222.add ((x3_3).toNat * 5)).off + 1, none⟩ = some (.int .i64 ((rd_T53 l0_8 x3_3).f1.f0)) ∧ w75.cell? ⟨(ad222.add ((x3_3).toNat * 5)).block, (ad222.add ((x3_3).toNat * 5)).off + 2, none⟩ = some (.string ((rd_T53 l0_8 x3_3).f1.f1)) ∧ w75.cell? ⟨(ad222.add ((x3_3).toNat * 5)).block, (ad222.add ((x3_3).toNat * 5)).off + 3, none⟩ = some (.int .i64 ((rd_T53 l0_8 x3_3).f1.f2)) ∧ w75.cell? ⟨(ad222.add ((x3_3).toNat * 5)).block, (ad222.add ((x3_3).toNat * 5)).off + 4, none⟩ = some (.bool ((rd_T53 l0_8 x3_3).f1.f3)) := hS_
        obtain ⟨Ao76, co76, eo76⟩ := Kd.V_slice HO229.out
        (first | subst eo76 | (injection eo76 with f1_ f2_ f3_; have f4_ := f1_.symm; have f5_ := f3_.symm; clear f1_ f2_ f3_; subst f4_; subst f5_))
        obtain ⟨Ao77, co77, eo77⟩ := Kd.V_slice HO233.out
        (first | subst eo77 | (injection eo77 with f1_ f2_ f3_; have f4_ := f1_.symm; have f5_ := f3_.symm; clear f1_ f2_ f3_; subst f4_; subst f5_))
        refine norm_ (a' := ?_) ?_ ?_
        rotate_left
        ·simp only [putAll, Act.put, q15a, q15b, q15c]
         rfl
        refine one_ (i := 37) (N := some 115) (q15m 41 274877906943) rfl rfl (one_of HT_.out (by kernel_rfl)) (by decide) (fun K hK => ?_)
        refine goes_ Tryd.func39 (by kernel_rfl) rfl #[.slice Ao76 y227.length co76, .slice Ao77 y231.length co77] (by rfl) rfl rfl q15y3 ?_
        with_reducible refine (cambiumref01_Less.calls k3 _ _ y227 _ _ y231 true _ ?side1 ?side2 ?side3 ?side4 A65.out).mono ?_
        (case side1 => repeat (first | exact (Kd.V_reads' HO229.out).2.2 | (with_reducible refine Kd.C_alloc ?_ _) | (with_reducible refine Kd.C_drewN ?_ _) | (with_reducible refine Kd.C_drew ?_)))
        (case side2 => exact (Kd.V_reads' HO229.out).2.1)
        (case side3 => repeat (first | exact (Kd.V_reads' HO233.out).2.2 | (with_reducible refine Kd.C_alloc ?_ _) | (with_reducible refine Kd.C_drewN ?_ _) | (with_reducible refine Kd.C_drew ?_)))
        (case side4 => exact (Kd.V_reads' HO233.out).2.1)
        rintro e w' ⟨rfl, ⟨nd, rfl⟩⟩
        refine ⟨_, rfl, ?_⟩
        refine hK.out _ _ ⟨q15k BK217.out 0, q15k BK217.out 1, q15k BK217.out 2, q15k BK217.out 3, q15k BK217.out 4, q15k BK217.out 5, q15k BK217.out 6, q15k BK217.out 7, q15k BK217.out 8, q15k BK217.out 9, q15k BK217.out 10, (q15h HB.out hw222_0:), (q15h HB.out hw222_1:), (q15h HB.out hw222_2:), (q15h HB.out hw222_3:), (q15h HB.out hw222_4:), (q15h HB.out hw224_0:), (q15h HB.out hw224_1:), (q15h HB.out hw224_2:), (q15h HB.out hw224_3:), (q15h HB.out hw224_4:), (q15h HB.out hw226_0:), (q15h HB.out hw226_1:), (q15h HB.out hw226_2:), (q15h HB.out hw226_3:), (q15h HB.out hw226_4:), (q15h HB.out hw230_0:), (q15h HB.out hw230_1:), (q15h HB.out hw230_2:), (q15h HB.out hw230_3:), (q15h HB.out hw230_4:)⟩ (fun hHeld => ?_)
        clear hK K
        refine norm_ (a' := ?_) ?_ ?_
        rotate_left
        ·show Act.put _ (some 115) _ = _
         simp only [Act.put, q15a, q15b, q15c, i64_w, i32_w]
         rfl
        refine q15p (i := 38) (N := some 116) (q15m 41 549755813887) HT_.out ?_
        refine q15p (i := 39) (N := some 117) (q15m 41 1099511627775) HT_.out ?_
        refine q15p (i := 40) (N := some 118) (q15m 41 2199023255551) HT_.out ?_
        refine done_ (done_of HT_.out (by kernel_rfl)) ?_
        try go_wp2
        go_roundg k3
        case measure => have := HJ1.out; have := HJ45.out; have := HK3.out; omega
        case rel => exact ⟨(wrap64 (x3_3 + 1)), q15y4, H', ⟨by have := HJ1.out; have := HJ45.out; have := HK3.out; omega⟩, ⟨by (with_reducible repeat (first | refine blk_drewN ?_ _ | refine blk_drew ?_ | refine blk_alloc ?_ _)); exact BK217.out⟩, ⟨by repeat (first | (with_reducible first | exact HB.out | apply below_alloc | apply pw_below_drewN | apply below_drew1 | refine below_set ?_ GE217.out) | exact HB.out)⟩⟩
end Go.Proofs.YtkgpnfjmahjlcaaDoor.PAll
