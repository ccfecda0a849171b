-- Written by a program: the kit's print.py, driven for several laws at once. Not trusted: Lean checks it.
import Derived.Test.YtoigebnhnkdbbaaPAllx0
namespace Go.Proofs.Ytoigebnhnkdbbaa.PAll
open Go.RowKit Go.Proofs.YtoigebnhnkdbbaaW.PrintWords Go.Proofs.YtoigebnhnkdbbaaW.PrintLast Go.Proofs.YtoigebnhnkdbbaaW.PrintMore
attribute [local go_sem] max2_int min2_int max_two min_two max_three min_three max_four min_four   -- for this text's walks alone
set_option linter.unusedVariables false
set_option linter.unusedSimpArgs false

/-! ### cambiumref26_Sum: function 13 -/
def q11m (n m : Nat) : Array Bool := ((List.range n).map (Nat.testBit m)).toArray
theorem q11a {α : Type} (xs : List α) (i : Nat) (x : α) : xs.toArray.setIfInBounds i x = (xs.set i x).toArray := List.setIfInBounds_toArray ..
theorem q11b {α : Type} (x y : α) (xs : List α) : (x :: xs).set 0 y = y :: xs := List.set_cons_zero ..
theorem q11c {α : Type} (x y : α) (xs : List α) (n : Nat) : (x :: xs).set (n + 1) y = x :: xs.set n y := List.set_cons_succ ..
theorem q11h {w w' : World} {p : Addr} {v : Value} (h : Below w.heap.size w w') (x : w.cell? p = some v) : w'.cell? p = some v := (h.cell (World.block_lt_of_cell? w _ x)).trans x
theorem q11p {P : Program} {md : Region.Mode} {ops : Array Oper} {Q : Exit → Act → World → Prop} {S : World → Prop} {ds : List Nat} {T : Bool × List (List Nat × List Nat)} {i : Nat} {N : Option Tmp} {oi : Oper} {v : Value} {fuel : Nat} {l : Array Bool} {a : Act} {w : World} (l' : Array Bool) (hT : rtab md ops = T) {a' : Act}
    (h : wpAnyLast P md ops Q S ds fuel l' a' w) (hi : ops[i]? = some oi := by rfl) (hN : oi.dst = N := by rfl) (hc : anyT T l.toList l'.toList i = true := by kernel_rfl) (hQ : ∀ c a w, Q (.panic c) (a.put oi.dst v) w → Q (.panic c) a w := by exact fun _ _ _ h => h)
    (hw : Region.wanted oi (yielded ops a.tmps) = true := by rfl) (hy : ∀ w', (execOp a.eval oi).run P w' = .ok (.value v) w' := by intro w'; go_simp; with_reducible rfl) (ha : a.put N v = a' := by simp only [Act.put, q11a, q11b, q11c, i64_w, i32_w]; rfl) :
    wpAnyLast P md ops Q S ds (fuel + 1) l a w := pure_ l' hi hN (any_of hT hc) hQ (Or.inl ⟨hw, hy⟩) ha h
theorem q11u {P : Program} {md : Region.Mode} {ops : Array Oper} {Q : Exit → Act → World → Prop} {S : World → Prop} {ds : List Nat} {T : Bool × List (List Nat × List Nat)} {i : Nat} {N : Option Tmp} {oi : Oper} {fuel : Nat} {l : Array Bool} {a : Act} {w : World} (l' : Array Bool) (hT : rtab md ops = T) {a' : Act}
    (h : wpAnyLast P md ops Q S ds fuel l' a' w) (hi : ops[i]? = some oi := by rfl) (hN : oi.dst = N := by rfl) (hc : anyT T l.toList l'.toList i = true := by kernel_rfl) (hQ : ∀ c a w, Q (.panic c) (a.put oi.dst undef) w → Q (.panic c) a w := by exact fun _ _ _ h => h)
    (hw : Region.wanted oi (yielded ops a.tmps) = false := by rfl) (ha : a.put N undef = a' := by simp only [Act.put, q11a, q11b, q11c, i64_w, i32_w]; rfl) :
    wpAnyLast P md ops Q S ds (fuel + 1) l a w := pure_ l' hi hN (any_of hT hc) hQ (Or.inr ⟨hw, rfl⟩) ha h
theorem q11k {w : World} {g : Nat} {cs : Array Value} {t : TypeId} (h : w.heap[g]? = some (.cells cs t (0, 0))) (i : Nat) {v : Value} (e : cs[i]? = some v := by rfl) : w.cell? ⟨g, i, none⟩ = some v := (blk_cell h i).trans e
theorem q11y0 {P : Prop} (h : P := by repeat (first | (with_reducible first | exact HB.out | apply below_alloc | apply pw_below_drewN | apply below_drew1 | refine below_set ?_ GE220.out) | exact HB.out)) : P := h
theorem q11y1 {P : Prop} (h : P := by repeat (first | (with_reducible first | exact HB.out | apply below_alloc | apply pw_below_drewN | apply below_drew1) | exact HB.out)) : P := h
theorem q11y2 {P : Prop} (h : P := by (with_reducible repeat (first | refine blk_drewN ?_ _ | refine blk_drew ?_ | refine blk_alloc ?_ _)); exact BK220.out) : P := h
theorem q11y3 {P : Prop} (h : P := by first | (with_reducible assumption) | assumption) : P := h
theorem q11y4 {P : Prop} (h : P := by first | rfl | (simp; done) | (simp [*]; done)) : P := h

mutual
def cambiumref26_Sum.l0 : Nat → List (S38) → Int → Int → Int → Int → Int → Int → Option (Int × Int × Int × Int × Int)
 | 0, _, _, _, _, _, _, _ => none
 | k + 1, x0, x4, x222000, x222001, x222002, x222003, x222004 => if x4 < (x0.length : Int) then (if 0 ≤ x4 then (if x4 = 0 then (cambiumref26_Sum.j1 k x0 x4 (wrap64 (((rd_T38 x0 x4).f5) + ((rd_T38 x0 x4).f6))) true x222000 x222001 x222002 x222003 x222004) else (cambiumref26_Sum.j1 k x0 x4 (wrap64 (((rd_T38 x0 x4).f5) + ((rd_T38 x0 x4).f6))) (decide (((rd_T38 x0 x4).f5) < x222002)) x222000 x222001 x222002 x222003 x222004)) else (none)) else (some (x222000, x222001, x222002, x222003, x222004))
def cambiumref26_Sum.j1 : Nat → List (S38) → Int → Int → Bool → Int → Int → Int → Int → Int → Option (Int × Int × Int × Int × Int)
 | 0, _, _, _, _, _, _, _, _, _ => none
 | k + 1, x0, x4, x5, x36, x222000, x222001, x222002, x222003, x222004 => if x36 = true then (if 0 ≤ x4 then (if x4 < (x0.length : Int) then (cambiumref26_Sum.j2 k x0 x4 x5 x222000 x222001 ((rd_T38 x0 x4).f5) x222003 x222004) else (none)) else (none)) else (cambiumref26_Sum.j2 k x0 x4 x5 x222000 x222001 x222002 x222003 x222004)
def cambiumref26_Sum.j2 : Nat → List (S38) → Int → Int → Int → Int → Int → Int → Int → Option (Int × Int × Int × Int × Int)
 | 0, _, _, _, _, _, _, _, _ => none
 | k + 1, x0, x4, x5, x222000, x222001, x222002, x222003, x222004 => if x4 = 0 then (cambiumref26_Sum.j3 k x0 x4 x5 true x222000 x222001 x222002 x222003 x222004) else (cambiumref26_Sum.j3 k x0 x4 x5 (decide (x5 > x222003)) x222000 x222001 x222002 x222003 x222004)
def cambiumref26_Sum.j3 : Nat → List (S38) → Int → Int → Bool → Int → Int → Int → Int → Int → Option (Int × Int × Int × Int × Int)
 | 0, _, _, _, _, _, _, _, _, _ => none
 | k + 1, x0, x4, x5, x50, x222000, x222001, x222002, x222003, x222004 => if x50 = true then (cambiumref26_Sum.j4 k x0 x4 x222000 x222001 x222002 x5 x222004) else (cambiumref26_Sum.j4 k x0 x4 x222000 x222001 x222002 x222003 x222004)
def cambiumref26_Sum.j4 : Nat → List (S38) → Int → Int → Int → Int → Int → Int → Option (Int × Int × Int × Int × Int)
 | 0, _, _, _, _, _, _, _ => none
 | k + 1, x0, x4, x222000, x222001, x222002, x222003, x222004 => if 0 ≤ x4 then (if x4 < (x0.length : Int) then (if ((rd_T38 x0 x4).f7) = 2 then (cambiumref26_Sum.j5 k x0 x4 x222000 (wrap64 (x222001 + 1)) x222002 x222003 x222004) else (cambiumref26_Sum.j5 k x0 x4 x222000 x222001 x222002 x222003 x222004)) else (none)) else (none)
def cambiumref26_Sum.j5 : Nat → List (S38) → Int → Int → Int → Int → Int → Int → Option (Int × Int × Int × Int × Int)
 | 0, _, _, _, _, _, _, _ => none
 | k + 1, x0, x4, x222000, x222001, x222002, x222003, x222004 => cambiumref26_Sum.l1 k x0 x4 true 0 (wrap64 (x222000 + 1)) x222001 x222002 x222003 x222004
def cambiumref26_Sum.l1 : Nat → List (S38) → Int → Bool → Int → Int → Int → Int → Int → Int → Option (Int × Int × Int × Int × Int)
 | 0, _, _, _, _, _, _, _, _, _ => none
 | k + 1, x0, x4, x6, x7, x222000, x222001, x222002, x222003, x222004 => if x7 < x4 then (if x6 = true then (if 0 ≤ x7 then (if x7 < (x0.length : Int) then (if 0 ≤ x4 then (if x4 < (x0.length : Int) then (cambiumref26_Sum.l1 k x0 x4 (((rd_T38 x0 x7).f3).toList != ((rd_T38 x0 x4).f3).toList) (wrap64 (x7 + 1)) x222000 x222001 x222002 x222003 x222004) else (none)) else (none)) else (none)) else (none)) else (cambiumref26_Sum.l1 k x0 x4 false (wrap64 (x7 + 1)) x222000 x222001 x222002 x222003 x222004)) else (if x6 = true then (cambiumref26_Sum.l0 k x0 (wrap64 (x4 + 1)) x222000 x222001 x222002 x222003 (wrap64 (x222004 + 1))) else (cambiumref26_Sum.l0 k x0 (wrap64 (x4 + 1)) x222000 x222001 x222002 x222003 x222004))
end
def cambiumref26_Sum.f (k : Nat) (l0 : List (S38)) : Option (Int × Int × Int × Int × Int) := cambiumref26_Sum.l0 k l0 0 0 0 0 0 0
theorem cambiumref26_Sum.mono_l : ∀ k, (∀ y0 y1 y2 y3 y4 y5 y6, LeO (cambiumref26_Sum.l0 k y0 y1 y2 y3 y4 y5 y6) (cambiumref26_Sum.l0 (k + 1) y0 y1 y2 y3 y4 y5 y6)) ∧ (∀ y0 y1 y2 y3 y4 y5 y6 y7 y8, LeO (cambiumref26_Sum.j1 k y0 y1 y2 y3 y4 y5 y6 y7 y8) (cambiumref26_Sum.j1 (k + 1) y0 y1 y2 y3 y4 y5 y6 y7 y8)) ∧ (∀ y0 y1 y2 y3 y4 y5 y6 y7, LeO (cambiumref26_Sum.j2 k y0 y1 y2 y3 y4 y5 y6 y7) (cambiumref26_Sum.j2 (k + 1) y0 y1 y2 y3 y4 y5 y6 y7)) ∧ (∀ y0 y1 y2 y3 y4 y5 y6 y7 y8, LeO (cambiumref26_Sum.j3 k y0 y1 y2 y3 y4 y5 y6 y7 y8) (cambiumref26_Sum.j3 (k + 1) y0 y1 y2 y3 y4 y5 y6 y7 y8)) ∧ (∀ y0 y1 y2 y3 y4 y5 y6, LeO (cambiumref26_Sum.j4 k y0 y1 y2 y3 y4 y5 y6) (cambiumref26_Sum.j4 (k + 1) y0 y1 y2 y3 y4 y5 y6)) ∧ (∀ y0 y1 y2 y3 y4 y5 y6, LeO (cambiumref26_Sum.j5 k y0 y1 y2 y3 y4 y5 y6) (cambiumref26_Sum.j5 (k + 1) y0 y1 y2 y3 y4 y5 y6)) ∧ (∀ y0 y1 y2 y3 y4 y5 y6 y7 y8, LeO (cambiumref26_Sum.l1 k y0 y1 y2 y3 y4 y5 y6 y7 y8) (cambiumref26_Sum.l1 (k + 1) y0 y1 y2 y3 y4 y5 y6 y7 y8))
 | 0 => ⟨fun _ _ _ _ _ _ _ r h => by simp [cambiumref26_Sum.l0] at h, fun _ _ _ _ _ _ _ _ _ r h => by simp [cambiumref26_Sum.j1] at h, fun _ _ _ _ _ _ _ _ r h => by simp [cambiumref26_Sum.j2] at h, fun _ _ _ _ _ _ _ _ _ r h => by simp [cambiumref26_Sum.j3] at h, fun _ _ _ _ _ _ _ r h => by simp [cambiumref26_Sum.j4] at h, fun _ _ _ _ _ _ _ r h => by simp [cambiumref26_Sum.j5] at h, fun _ _ _ _ _ _ _ _ _ r h => by simp [cambiumref26_Sum.l1] at h⟩
 | k + 1 => by
  obtain ⟨ih0, ih1, ih2, ih3, ih4, ih5, ih6⟩ := cambiumref26_Sum.mono_l k
  refine ⟨?_, ?_, ?_, ?_, ?_, ?_, ?_⟩
  ·intro y0 y1 y2 y3 y4 y5 y6
   unfold cambiumref26_Sum.l0
   repeat' first
   | (with_reducible exact ih0 _ _ _ _ _ _ _)
   | (with_reducible exact ih1 _ _ _ _ _ _ _ _ _)
   | (with_reducible exact ih2 _ _ _ _ _ _ _ _)
   | (with_reducible exact ih3 _ _ _ _ _ _ _ _ _)
   | (with_reducible exact ih4 _ _ _ _ _ _ _)
   | (with_reducible exact ih5 _ _ _ _ _ _ _)
   | (with_reducible exact ih6 _ _ _ _ _ _ _ _ _)
   | (with_reducible exact LeO.refl _)
   | (with_reducible exact LeO.none _)
   | (with_reducible refine LeO.ite ?_ ?_)
   | (with_reducible refine LeO.bind ?_ (fun _ => ?_))
   | exact ih0 _ _ _ _ _ _ _
   | exact ih1 _ _ _ _ _ _ _ _ _
   | exact ih2 _ _ _ _ _ _ _ _
   | exact ih3 _ _ _ _ _ _ _ _ _
   | exact ih4 _ _ _ _ _ _ _
   | exact ih5 _ _ _ _ _ _ _
   | exact ih6 _ _ _ _ _ _ _ _ _
   | exact LeO.none _
   | refine LeO.ite ?_ ?_
   | refine LeO.bind ?_ (fun _ => ?_)
  ·intro y0 y1 y2 y3 y4 y5 y6 y7 y8
   unfold cambiumref26_Sum.j1
   repeat' first
   | (with_reducible exact ih0 _ _ _ _ _ _ _)
   | (with_reducible exact ih1 _ _ _ _ _ _ _ _ _)
   | (with_reducible exact ih2 _ _ _ _ _ _ _ _)
   | (with_reducible exact ih3 _ _ _ _ _ _ _ _ _)
   | (with_reducible exact ih4 _ _ _ _ _ _ _)
   | (with_reducible exact ih5 _ _ _ _ _ _ _)
   | (with_reducible exact ih6 _ _ _ _ _ _ _ _ _)
   | (with_reducible exact LeO.refl _)
   | (with_reducible exact LeO.none _)
   | (with_reducible refine LeO.ite ?_ ?_)
   | (with_reducible refine LeO.bind ?_ (fun _ => ?_))
   | exact ih0 _ _ _ _ _ _ _
   | exact ih1 _ _ _ _ _ _ _ _ _
   | exact ih2 _ _ _ _ _ _ _ _
   | exact ih3 _ _ _ _ _ _ _ _ _
   | exact ih4 _ _ _ _ _ _ _
   | exact ih5 _ _ _ _ _ _ _
   | exact ih6 _ _ _ _ _ _ _ _ _
   | exact LeO.none _
   | refine LeO.ite ?_ ?_
   | refine LeO.bind ?_ (fun _ => ?_)
  ·intro y0 y1 y2 y3 y4 y5 y6 y7
   unfold cambiumref26_Sum.j2
   repeat' first
   | (with_reducible exact ih0 _ _ _ _ _ _ _)
   | (with_reducible exact ih1 _ _ _ _ _ _ _ _ _)
   | (with_reducible exact ih2 _ _ _ _ _ _ _ _)
   | (with_reducible exact ih3 _ _ _ _ _ _ _ _ _)
   | (with_reducible exact ih4 _ _ _ _ _ _ _)
   | (with_reducible exact ih5 _ _ _ _ _ _ _)
   | (with_reducible exact ih6 _ _ _ _ _ _ _ _ _)
   | (with_reducible exact LeO.refl _)
   | (with_reducible exact LeO.none _)
   | (with_reducible refine LeO.ite ?_ ?_)
   | (with_reducible refine LeO.bind ?_ (fun _ => ?_))
   | exact ih0 _ _ _ _ _ _ _
   | exact ih1 _ _ _ _ _ _ _ _ _
   | exact ih2 _ _ _ _ _ _ _ _
   | exact ih3 _ _ _ _ _ _ _ _ _
   | exact ih4 _ _ _ _ _ _ _
   | exact ih5 _ _ _ _ _ _ _
   | exact ih6 _ _ _ _ _ _ _ _ _
   | exact LeO.none _
   | refine LeO.ite ?_ ?_
   | refine LeO.bind ?_ (fun _ => ?_)
  ·intro y0 y1 y2 y3 y4 y5 y6 y7 y8
   unfold cambiumref26_Sum.j3
   repeat' first
   | (with_reducible exact ih0 _ _ _ _ _ _ _)
   | (with_reducible exact ih1 _ _ _ _ _ _ _ _ _)
   | (with_reducible exact ih2 _ _ _ _ _ _ _ _)
   | (with_reducible exact ih3 _ _ _ _ _ _ _ _ _)
   | (with_reducible exact ih4 _ _ _ _ _ _ _)
   | (with_reducible exact ih5 _ _ _ _ _ _ _)
   | (with_reducible exact ih6 _ _ _ _ _ _ _ _ _)
   | (with_reducible exact LeO.refl _)
   | (with_reducible exact LeO.none _)
   | (with_reducible refine LeO.ite ?_ ?_)
   | (with_reducible refine LeO.bind ?_ (fun _ => ?_))
   | exact ih0 _ _ _ _ _ _ _
   | exact ih1 _ _ _ _ _ _ _ _ _
   | exact ih2 _ _ _ _ _ _ _ _
   | exact ih3 _ _ _ _ _ _ _ _ _
   | exact ih4 _ _ _ _ _ _ _
   | exact ih5 _ _ _ _ _ _ _
   | exact ih6 _ _ _ _ _ _ _ _ _
   | exact LeO.none _
   | refine LeO.ite ?_ ?_
   | refine LeO.bind ?_ (fun _ => ?_)
  ·intro y0 y1 y2 y3 y4 y5 y6
   unfold cambiumref26_Sum.j4
   repeat' first
   | (with_reducible exact ih0 _ _ _ _ _ _ _)
   | (with_reducible exact ih1 _ _ _ _ _ _ _ _ _)
   | (with_reducible exact ih2 _ _ _ _ _ _ _ _)
   | (with_reducible exact ih3 _ _ _ _ _ _ _ _ _)
   | (with_reducible exact ih4 _ _ _ _ _ _ _)
   | (with_reducible exact ih5 _ _ _ _ _ _ _)
   | (with_reducible exact ih6 _ _ _ _ _ _ _ _ _)
   | (with_reducible exact LeO.refl _)
   | (with_reducible exact LeO.none _)
   | (with_reducible refine LeO.ite ?_ ?_)
   | (with_reducible refine LeO.bind ?_ (fun _ => ?_))
   | exact ih0 _ _ _ _ _ _ _
   | exact ih1 _ _ _ _ _ _ _ _ _
   | exact ih2 _ _ _ _ _ _ _ _
   | exact ih3 _ _ _ _ _ _ _ _ _
   | exact ih4 _ _ _ _ _ _ _
   | exact ih5 _ _ _ _ _ _ _
   | exact ih6 _ _ _ _ _ _ _ _ _
   | exact LeO.none _
   | refine LeO.ite ?_ ?_
   | refine LeO.bind ?_ (fun _ => ?_)
  ·intro y0 y1 y2 y3 y4 y5 y6
   unfold cambiumref26_Sum.j5
   repeat' first
   | (with_reducible exact ih0 _ _ _ _ _ _ _)
   | (with_reducible exact ih1 _ _ _ _ _ _ _ _ _)
   | (with_reducible exact ih2 _ _ _ _ _ _ _ _)
   | (with_reducible exact ih3 _ _ _ _ _ _ _ _ _)
   | (with_reducible exact ih4 _ _ _ _ _ _ _)
   | (with_reducible exact ih5 _ _ _ _ _ _ _)
   | (with_reducible exact ih6 _ _ _ _ _ _ _ _ _)
   | (with_reducible exact LeO.refl _)
   | (with_reducible exact LeO.none _)
   | (with_reducible refine LeO.ite ?_ ?_)
   | (with_reducible refine LeO.bind ?_ (fun _ => ?_))
   | exact ih0 _ _ _ _ _ _ _
   | exact ih1 _ _ _ _ _ _ _ _ _
   | exact ih2 _ _ _ _ _ _ _ _
   | exact ih3 _ _ _ _ _ _ _ _ _
   | exact ih4 _ _ _ _ _ _ _
   | exact ih5 _ _ _ _ _ _ _
   | exact ih6 _ _ _ _ _ _ _ _ _
   | exact LeO.none _
   | refine LeO.ite ?_ ?_
   | refine LeO.bind ?_ (fun _ => ?_)
  ·intro y0 y1 y2 y3 y4 y5 y6 y7 y8
   unfold cambiumref26_Sum.l1
   repeat' first
   | (with_reducible exact ih0 _ _ _ _ _ _ _)
   | (with_reducible exact ih1 _ _ _ _ _ _ _ _ _)
   | (with_reducible exact ih2 _ _ _ _ _ _ _ _)
   | (with_reducible exact ih3 _ _ _ _ _ _ _ _ _)
   | (with_reducible exact ih4 _ _ _ _ _ _ _)
   | (with_reducible exact ih5 _ _ _ _ _ _ _)
   | (with_reducible exact ih6 _ _ _ _ _ _ _ _ _)
   | (with_reducible exact LeO.refl _)
   | (with_reducible exact LeO.none _)
   | (with_reducible refine LeO.ite ?_ ?_)
   | (with_reducible refine LeO.bind ?_ (fun _ => ?_))
   | exact ih0 _ _ _ _ _ _ _
   | exact ih1 _ _ _ _ _ _ _ _ _
   | exact ih2 _ _ _ _ _ _ _ _
   | exact ih3 _ _ _ _ _ _ _ _ _
   | exact ih4 _ _ _ _ _ _ _
   | exact ih5 _ _ _ _ _ _ _
   | exact ih6 _ _ _ _ _ _ _ _ _
   | exact LeO.none _
   | refine LeO.ite ?_ ?_
   | refine LeO.bind ?_ (fun _ => ?_)
theorem cambiumref26_Sum.mono : ∀ a0 k, LeO (cambiumref26_Sum.f k a0) (cambiumref26_Sum.f (k + 1) a0) := by
 intro a0 k
 obtain ⟨ih0, ih1, ih2, ih3, ih4, ih5, ih6⟩ := cambiumref26_Sum.mono_l k
 unfold cambiumref26_Sum.f
 repeat' first
   | (with_reducible exact ih0 _ _ _ _ _ _ _)
   | (with_reducible exact ih1 _ _ _ _ _ _ _ _ _)
   | (with_reducible exact ih2 _ _ _ _ _ _ _ _)
   | (with_reducible exact ih3 _ _ _ _ _ _ _ _ _)
   | (with_reducible exact ih4 _ _ _ _ _ _ _)
   | (with_reducible exact ih5 _ _ _ _ _ _ _)
   | (with_reducible exact ih6 _ _ _ _ _ _ _ _ _)
   | (with_reducible exact LeO.refl _)
   | (with_reducible exact LeO.none _)
   | (with_reducible refine LeO.ite ?_ ?_)
   | (with_reducible refine LeO.bind ?_ (fun _ => ?_))
   | exact ih0 _ _ _ _ _ _ _
   | exact ih1 _ _ _ _ _ _ _ _ _
   | exact ih2 _ _ _ _ _ _ _ _
   | exact ih3 _ _ _ _ _ _ _ _ _
   | exact ih4 _ _ _ _ _ _ _
   | exact ih5 _ _ _ _ _ _ _
   | exact ih6 _ _ _ _ _ _ _ _ _
   | exact LeO.none _
   | refine LeO.ite ?_ ?_
   | refine LeO.bind ?_ (fun _ => ?_)
set_option maxHeartbeats 8000000 in
set_option maxRecDepth 100000 in
theorem cambiumref26_Sum.calls (k : Nat) (A0 : Option Addr) (c0 : Nat) (l0 : List (S38)) (r1 : Int) (r2 : Int) (r3 : Int) (r4 : Int) (r5 : Int) (w : World) (hr0 : Kd.C k38 w A0 l0.length l0) (hc0 : l0.length ≤ c0) (h : cambiumref26_Sum.f k l0 = some (r1, r2, r3, r4, r5)) :
  Calls Try.prog 13 #[.slice A0 l0.length c0] w fun e w' => e = .returned (.agg #[.int .i64 r1, .int .i64 r2, .int .i64 r3, .int .i64 r4, .int .i64 r5]) ∧ Below w.heap.size w w' := by
 have hu29 := Try.underlying29
 have HR0 := Aside0.mk hr0
 have HC0 := Aside0.mk hc0
 clear hr0 hc0
 have HB := Aside0.mk (Below.refl w.heap.size w)
 have H : (cambiumref26_Sum.l0 k l0 0 0 0 0 0 0) = some (r1, r2, r3, r4, r5) := h
 clear h
 have H' := Aside0.mk H
 clear H
 go_enter Try.func13, Try.ntmps13
 go_wp2_with (first | ((with_reducible refine gate_dst (N := 2) rfl ?_); refine box_event ?hg (N := 2) ?hd (cs := #[.int .i64 0, .int .i64 0, .int .i64 0, .int .i64 0, .int .i64 0]) (t := 29) ?hr ?_; (case hd => rfl); (case hg => rfl); (case hr => first | (go_simp; done) | (go_simp; rfl)); intro gb220 hg w2 hbox hb; have n0_ := Aside0.mk (below_step q11y1 hb); have n1_ := Aside0.mk (hbox); have n2_ := Aside0.mk ((by rw [hg]; exact (below_size q11y1) : w.heap.size ≤ gb220)); have n3_ := Aside0.mk ((by rw [hg]; exact (below_size q11y1) : w.heap.size ≤ gb220)); clear HB; have HB := n0_; have BK220 := n1_; have GW220 := n2_; have GE220 := n3_; clear n0_ n1_ n2_ n3_; clear hb hbox hg) | ((with_reducible refine gate_dst (N := 3) rfl ?_); refine box_event ?hg (N := 3) ?hd (cs := #[.int .i64 0, .int .i64 0, .int .i64 0, .int .i64 0, .int .i64 0]) (t := 29) ?hr ?_; (case hd => rfl); (case hg => rfl); (case hr => first | (go_simp; done) | (go_simp; rfl)); intro gb221 hg w3 hbox hb; have n0_ := Aside0.mk (blk_below (g := gb220) (o := .cells #[.int .i64 0, .int .i64 0, .int .i64 0, .int .i64 0, .int .i64 0] 29 (0, 0)) q11y2 hb); have n1_ := Aside0.mk (below_step q11y0 hb); have n2_ := Aside0.mk (hbox); have n3_ := Aside0.mk ((by rw [hg]; exact (below_size q11y0) : w.heap.size ≤ gb221)); have n4_ := Aside0.mk ((by rw [hg]; exact (below_size q11y0) : w.heap.size ≤ gb221)); have n5_ := Aside0.mk ((by rw [hg]; exact Nat.ne_of_lt (blk_lt (g := gb220) (o := .cells #[.int .i64 0, .int .i64 0, .int .i64 0, .int .i64 0, .int .i64 0] 29 (0, 0)) q11y2) : gb220 ≠ gb221)); have n6_ := Aside0.mk ((by rw [hg]; exact Nat.ne_of_gt (blk_lt (g := gb220) (o := .cells #[.int .i64 0, .int .i64 0, .int .i64 0, .int .i64 0, .int .i64 0] 29 (0, 0)) q11y2) : gb221 ≠ gb220)); clear BK220; clear HB; have BK220 := n0_; have HB := n1_; have BK221 := n2_; have GW221 := n3_; have GE221 := n4_; have NB220_221 := n5_; have NB221_220 := n6_; clear n0_ n1_ n2_ n3_ n4_ n5_ n6_; clear hb hbox hg))
 repeat (go_quiet (first | ((with_reducible refine gate_dst (N := 2) rfl ?_); refine box_event ?hg (N := 2) ?hd (cs := #[.int .i64 0, .int .i64 0, .int .i64 0, .int .i64 0, .int .i64 0]) (t := 29) ?hr ?_; (case hd => rfl); (case hg => rfl); (case hr => first | (go_simp; done) | (go_simp; rfl)); intro gb220 hg w2 hbox hb; have n0_ := Aside0.mk (below_step q11y1 hb); have n1_ := Aside0.mk (hbox); have n2_ := Aside0.mk ((by rw [hg]; exact (below_size q11y1) : w.heap.size ≤ gb220)); have n3_ := Aside0.mk ((by rw [hg]; exact (below_size q11y1) : w.heap.size ≤ gb220)); clear HB; have HB := n0_; have BK220 := n1_; have GW220 := n2_; have GE220 := n3_; clear n0_ n1_ n2_ n3_; clear hb hbox hg) | ((with_reducible refine gate_dst (N := 3) rfl ?_); refine box_event ?hg (N := 3) ?hd (cs := #[.int .i64 0, .int .i64 0, .int .i64 0, .int .i64 0, .int .i64 0]) (t := 29) ?hr ?_; (case hd => rfl); (case hg => rfl); (case hr => first | (go_simp; done) | (go_simp; rfl)); intro gb221 hg w3 hbox hb; have n0_ := Aside0.mk (blk_below (g := gb220) (o := .cells #[.int .i64 0, .int .i64 0, .int .i64 0, .int .i64 0, .int .i64 0] 29 (0, 0)) q11y2 hb); have n1_ := Aside0.mk (below_step q11y0 hb); have n2_ := Aside0.mk (hbox); have n3_ := Aside0.mk ((by rw [hg]; exact (below_size q11y0) : w.heap.size ≤ gb221)); have n4_ := Aside0.mk ((by rw [hg]; exact (below_size q11y0) : w.heap.size ≤ gb221)); have n5_ := Aside0.mk ((by rw [hg]; exact Nat.ne_of_lt (blk_lt (g := gb220) (o := .cells #[.int .i64 0, .int .i64 0, .int .i64 0, .int .i64 0, .int .i64 0] 29 (0, 0)) q11y2) : gb220 ≠ gb221)); have n6_ := Aside0.mk ((by rw [hg]; exact Nat.ne_of_gt (blk_lt (g := gb220) (o := .cells #[.int .i64 0, .int .i64 0, .int .i64 0, .int .i64 0, .int .i64 0] 29 (0, 0)) q11y2) : gb221 ≠ gb220)); clear BK220; clear HB; have BK220 := n0_; have HB := n1_; have BK221 := n2_; have GW221 := n3_; have GE221 := n4_; have NB220_221 := n5_; have NB221_220 := n6_; clear n0_ n1_ n2_ n3_ n4_ n5_ n6_; clear hb hbox hg)); try go_wp2_with (first | ((with_reducible refine gate_dst (N := 2) rfl ?_); refine box_event ?hg (N := 2) ?hd (cs := #[.int .i64 0, .int .i64 0, .int .i64 0, .int .i64 0, .int .i64 0]) (t := 29) ?hr ?_; (case hd => rfl); (case hg => rfl); (case hr => first | (go_simp; done) | (go_simp; rfl)); intro gb220 hg w2 hbox hb; have n0_ := Aside0.mk (below_step q11y1 hb); have n1_ := Aside0.mk (hbox); have n2_ := Aside0.mk ((by rw [hg]; exact (below_size q11y1) : w.heap.size ≤ gb220)); have n3_ := Aside0.mk ((by rw [hg]; exact (below_size q11y1) : w.heap.size ≤ gb220)); clear HB; have HB := n0_; have BK220 := n1_; have GW220 := n2_; have GE220 := n3_; clear n0_ n1_ n2_ n3_; clear hb hbox hg) | ((with_reducible refine gate_dst (N := 3) rfl ?_); refine box_event ?hg (N := 3) ?hd (cs := #[.int .i64 0, .int .i64 0, .int .i64 0, .int .i64 0, .int .i64 0]) (t := 29) ?hr ?_; (case hd => rfl); (case hg => rfl); (case hr => first | (go_simp; done) | (go_simp; rfl)); intro gb221 hg w3 hbox hb; have n0_ := Aside0.mk (blk_below (g := gb220) (o := .cells #[.int .i64 0, .int .i64 0, .int .i64 0, .int .i64 0, .int .i64 0] 29 (0, 0)) q11y2 hb); have n1_ := Aside0.mk (below_step q11y0 hb); have n2_ := Aside0.mk (hbox); have n3_ := Aside0.mk ((by rw [hg]; exact (below_size q11y0) : w.heap.size ≤ gb221)); have n4_ := Aside0.mk ((by rw [hg]; exact (below_size q11y0) : w.heap.size ≤ gb221)); have n5_ := Aside0.mk ((by rw [hg]; exact Nat.ne_of_lt (blk_lt (g := gb220) (o := .cells #[.int .i64 0, .int .i64 0, .int .i64 0, .int .i64 0, .int .i64 0] 29 (0, 0)) q11y2) : gb220 ≠ gb221)); have n6_ := Aside0.mk ((by rw [hg]; exact Nat.ne_of_gt (blk_lt (g := gb220) (o := .cells #[.int .i64 0, .int .i64 0, .int .i64 0, .int .i64 0, .int .i64 0] 29 (0, 0)) q11y2) : gb221 ≠ gb220)); clear BK220; clear HB; have BK220 := n0_; have HB := n1_; have BK221 := n2_; have GW221 := n3_; have GE221 := n4_; have NB220_221 := n5_; have NB221_220 := n6_; clear n0_ n1_ n2_ n3_ n4_ n5_ n6_; clear hb hbox hg)))
 go_loopg [4] k (fun kq v4 w' => ∃ (x4_1 : Int) (x222000_1 : Int) (x222001_1 : Int) (x222002_1 : Int) (x222003_1 : Int) (x222004_1 : Int), v4 = .int .i64 x4_1 ∧ Aside0 (cambiumref26_Sum.l0 kq l0 x4_1 x222000_1 x222001_1 x222002_1 x222003_1 x222004_1 = some (r1, r2, r3, r4, r5)) ∧ Aside0 (kq ≤ k) ∧ Aside0 (w'.heap[gb220]? = some (.cells #[.int .i64 0, .int .i64 0, .int .i64 0, .int .i64 0, .int .i64 0] 29 (0, 0))) ∧ Aside0 (w'.heap[gb221]? = some (.cells #[.int .i64 x222000_1, .int .i64 x222001_1, .int .i64 x222002_1, .int .i64 x222003_1, .int .i64 x222004_1] 29 (0, 0))) ∧ Aside0 (Below w.heap.size w w'))
 case atStart => exact ⟨(0), (0), (0), (0), (0), (0), q11y4, H', ⟨Nat.le_refl _⟩, ⟨by (with_reducible repeat (first | refine blk_drewN ?_ _ | refine blk_drew ?_ | refine blk_alloc ?_ _)); exact BK220.out⟩, ⟨by (with_reducible repeat (first | refine blk_drewN ?_ _ | refine blk_drew ?_ | refine blk_alloc ?_ _)); exact BK221.out⟩, ⟨by repeat (first | (with_reducible first | exact HB.out | apply below_alloc | apply pw_below_drewN | apply below_drew1 | refine below_set ?_ GE220.out | refine below_set ?_ GE221.out) | exact HB.out)⟩⟩
 case round =>
  clear H'
  try clear c1
  try clear p2
  obtain ⟨x4_1, x222000_1, x222001_1, x222002_1, x222003_1, x222004_1, rfl, HA, HK1, BK220, BK221, HB⟩ := hrel
  cases gk with
  | zero => exact absurd HA.out (by simp [cambiumref26_Sum.l0])
  | succ k1 =>
   have H := HA.out
   clear HA
   simp only [cambiumref26_Sum.l0] at H
   by_cases c4 : x4_1 < (l0.length : Int)
   rotate_left
   ·rw [if_neg c4] at H
    have c4b0 : decide (x4_1 < (l0.length : Int)) = false := decide_eq_false c4
    clear c4
    simp only [Option.some.injEq, Prod.mk.injEq] at H
    obtain ⟨rfl, rfl, rfl, rfl, rfl⟩ := H
    have hnb41 := NB221_220.out
    have hnc41 := NB220_221.out
    have hcz42_0 : wr.cell? ⟨gb221, 0, none⟩ = some (.int .i64 x222000_1) := (blk_cell BK221.out 0).trans rfl
    have hcz42_1 : wr.cell? ⟨gb221, 1, none⟩ = some (.int .i64 x222001_1) := (blk_cell BK221.out 1).trans rfl
    have hcz42_2 : wr.cell? ⟨gb221, 2, none⟩ = some (.int .i64 x222002_1) := (blk_cell BK221.out 2).trans rfl
    have hcz42_3 : wr.cell? ⟨gb221, 3, none⟩ = some (.int .i64 x222003_1) := (blk_cell BK221.out 3).trans rfl
    have hcz42_4 : wr.cell? ⟨gb221, 4, none⟩ = some (.int .i64 x222004_1) := (blk_cell BK221.out 4).trans rfl
    have hfz42_0 := blk_frozen BK221.out 0
    have hfz42_1 := blk_frozen BK221.out 1
    have hfz42_2 := blk_frozen BK221.out 2
    have hfz42_3 := blk_frozen BK221.out 3
    have hfz42_4 := blk_frozen BK221.out 4
    have hcz43_0 : wr.cell? ⟨gb220, 0, none⟩ = some (.int .i64 0) := (blk_cell BK220.out 0).trans rfl
    have hcz43_1 : wr.cell? ⟨gb220, 1, none⟩ = some (.int .i64 0) := (blk_cell BK220.out 1).trans rfl
    have hcz43_2 : wr.cell? ⟨gb220, 2, none⟩ = some (.int .i64 0) := (blk_cell BK220.out 2).trans rfl
    have hcz43_3 : wr.cell? ⟨gb220, 3, none⟩ = some (.int .i64 0) := (blk_cell BK220.out 3).trans rfl
    have hcz43_4 : wr.cell? ⟨gb220, 4, none⟩ = some (.int .i64 0) := (blk_cell BK220.out 4).trans rfl
    have hfz43_0 := blk_frozen BK220.out 0
    have hfz43_1 := blk_frozen BK220.out 1
    have hfz43_2 := blk_frozen BK220.out 2
    have hfz43_3 := blk_frozen BK220.out 3
    have hfz43_4 := blk_frozen BK220.out 4
    go_wp2
    repeat (go_quiet (fail); try go_wp2)
    refine bodyPost_ret (results_cell_row rfl _ _ gb220 29 #[.int .i64 x222000_1, .int .i64 x222001_1, .int .i64 x222002_1, .int .i64 x222003_1, .int .i64 x222004_1] (0, 0) _ rfl (by (with_reducible repeat (first | refine blk_drewN ?_ _ | refine blk_drew ?_ | refine blk_alloc ?_ _)); refine blk_put (cs := #[.int .i64 x222000_1, .int .i64 x222001_1, .int .i64 x222002_1, .int .i64 x222003_1, .int .i64 0]) ?_ 4 _ rfl; (with_reducible repeat (first | refine blk_drewN ?_ _ | refine blk_drew ?_ | refine blk_alloc ?_ _)); refine blk_put (cs := #[.int .i64 x222000_1, .int .i64 x222001_1, .int .i64 x222002_1, .int .i64 0, .int .i64 0]) ?_ 3 _ rfl; (with_reducible repeat (first | refine blk_drewN ?_ _ | refine blk_drew ?_ | refine blk_alloc ?_ _)); refine blk_put (cs := #[.int .i64 x222000_1, .int .i64 x222001_1, .int .i64 0, .int .i64 0, .int .i64 0]) ?_ 2 _ rfl; (with_reducible repeat (first | refine blk_drewN ?_ _ | refine blk_drew ?_ | refine blk_alloc ?_ _)); refine blk_put (cs := #[.int .i64 x222000_1, .int .i64 0, .int .i64 0, .int .i64 0, .int .i64 0]) ?_ 1 _ rfl; (with_reducible repeat (first | refine blk_drewN ?_ _ | refine blk_drew ?_ | refine blk_alloc ?_ _)); refine blk_put (cs := #[.int .i64 0, .int .i64 0, .int .i64 0, .int .i64 0, .int .i64 0]) ?_ 0 _ rfl; (with_reducible repeat (first | refine blk_drewN ?_ _ | refine blk_drew ?_ | refine blk_alloc ?_ _)); exact BK220.out) Try.underlying29 rfl (by kernel_rfl)) rfl ?_
    exact ⟨by first | rfl | (simp [errW_none, errW_some] <;> rfl) | (simp [*, errW_none, errW_some] <;> rfl), by repeat (first | (with_reducible first | exact HB.out | apply below_alloc | apply pw_below_drewN | apply below_drew1 | refine below_set ?_ GE220.out | refine below_set ?_ GE221.out) | exact HB.out)⟩

   rw [if_pos c4] at H
   have c4b0 : decide (x4_1 < (l0.length : Int)) = true := decide_eq_true c4
   clear c4
   by_cases c5 : 0 ≤ x4_1
   rotate_left
   ·rw [if_neg c5] at H
    exact absurd H (by simp)
   rw [if_pos c5] at H
   have c5b0 : decide (0 ≤ x4_1) = true := decide_eq_true c5
   clear c5
   have HC6 := Aside0.mk H
   clear H
   have p222 : 0 ≤ (x4_1 : Int) := of_decide_eq_true q11y3
   have q222 : x4_1 < (l0.length : Int) := of_decide_eq_true q11y3
   obtain ⟨ad222, A222_8, c222_8, A222_9, c222_9, A222_10, c222_10, e222, hx222_0, hx222_1, hx222_2, hx222_3, hx222_4, hx222_5, hx222_6, hx222_7, hx222_8, hx222_9, hx222_10, hl222_8, hi222_8, hl222_9, hi222_9, hl222_10, hi222_10⟩ := at_T38 HR0.out x4_1 p222 q222
   cases e222
   replace hx222_0 := (HB.out.cell (World.block_lt_of_cell? w _ hx222_0)).trans hx222_0
   replace hx222_1 := (HB.out.cell (World.block_lt_of_cell? w _ hx222_1)).trans hx222_1
   replace hx222_2 := (HB.out.cell (World.block_lt_of_cell? w _ hx222_2)).trans hx222_2
   replace hx222_3 := (HB.out.cell (World.block_lt_of_cell? w _ hx222_3)).trans hx222_3
   replace hx222_4 := (HB.out.cell (World.block_lt_of_cell? w _ hx222_4)).trans hx222_4
   replace hx222_5 := (HB.out.cell (World.block_lt_of_cell? w _ hx222_5)).trans hx222_5
   replace hx222_6 := (HB.out.cell (World.block_lt_of_cell? w _ hx222_6)).trans hx222_6
   replace hx222_7 := (HB.out.cell (World.block_lt_of_cell? w _ hx222_7)).trans hx222_7
   replace hx222_8 := (HB.out.cell (World.block_lt_of_cell? w _ hx222_8)).trans hx222_8
   replace hx222_9 := (HB.out.cell (World.block_lt_of_cell? w _ hx222_9)).trans hx222_9
   replace hx222_10 := (HB.out.cell (World.block_lt_of_cell? w _ hx222_10)).trans hx222_10
   have HR222_8 := Aside0.mk hi222_8
   have HC222_8 := Aside0.mk hl222_8
   clear hi222_8 hl222_8
   have HR222_9 := Aside0.mk hi222_9
   have HC222_9 := Aside0.mk hl222_9
   clear hi222_9 hl222_9
   have HR222_10 := Aside0.mk hi222_10
   have HC222_10 := Aside0.mk hl222_10
   clear hi222_10 hl222_10
   replace p222 := eq_true p222
   replace q222 := eq_true q222
   have p223 : 0 ≤ (x4_1 : Int) := of_decide_eq_true q11y3
   have q223 : x4_1 < (l0.length : Int) := of_decide_eq_true q11y3
   obtain ⟨ad223, A223_8, c223_8, A223_9, c223_9, A223_10, c223_10, e223, hx223_0, hx223_1, hx223_2, hx223_3, hx223_4, hx223_5, hx223_6, hx223_7, hx223_8, hx223_9, hx223_10, hl223_8, hi223_8, hl223_9, hi223_9, hl223_10, hi223_10⟩ := at_T38 HR0.out x4_1 p223 q223
   obtain rfl : ad222 = ad223 := (by injection e223)
   replace hx223_0 := (HB.out.cell (World.block_lt_of_cell? w _ hx223_0)).trans hx223_0
   replace hx223_1 := (HB.out.cell (World.block_lt_of_cell? w _ hx223_1)).trans hx223_1
   replace hx223_2 := (HB.out.cell (World.block_lt_of_cell? w _ hx223_2)).trans hx223_2
   replace hx223_3 := (HB.out.cell (World.block_lt_of_cell? w _ hx223_3)).trans hx223_3
   replace hx223_4 := (HB.out.cell (World.block_lt_of_cell? w _ hx223_4)).trans hx223_4
   replace hx223_5 := (HB.out.cell (World.block_lt_of_cell? w _ hx223_5)).trans hx223_5
   replace hx223_6 := (HB.out.cell (World.block_lt_of_cell? w _ hx223_6)).trans hx223_6
   replace hx223_7 := (HB.out.cell (World.block_lt_of_cell? w _ hx223_7)).trans hx223_7
   replace hx223_8 := (HB.out.cell (World.block_lt_of_cell? w _ hx223_8)).trans hx223_8
   replace hx223_9 := (HB.out.cell (World.block_lt_of_cell? w _ hx223_9)).trans hx223_9
   replace hx223_10 := (HB.out.cell (World.block_lt_of_cell? w _ hx223_10)).trans hx223_10
   have HR223_8 := Aside0.mk hi223_8
   have HC223_8 := Aside0.mk hl223_8
   clear hi223_8 hl223_8
   have HR223_9 := Aside0.mk hi223_9
   have HC223_9 := Aside0.mk hl223_9
   clear hi223_9 hl223_9
   have HR223_10 := Aside0.mk hi223_10
   have HC223_10 := Aside0.mk hl223_10
   clear hi223_10 hl223_10
   replace p223 := eq_true p223
   replace q223 := eq_true q223
   have ea_ := Option.some.inj (hx222_8.symm.trans hx223_8)
   injection ea_ with ea_ en_ ec_
   subst ea_
   subst ec_
   clear en_
   have ea_ := Option.some.inj (hx222_9.symm.trans hx223_9)
   injection ea_ with ea_ en_ ec_
   subst ea_
   subst ec_
   clear en_
   have ea_ := Option.some.inj (hx222_10.symm.trans hx223_10)
   injection ea_ with ea_ en_ ec_
   subst ea_
   subst ec_
   clear en_
   go_upto_region 6 with (fail)
   repeat (go_quiet (fail); go_upto_region 6 with (fail))
   go_cut [36] (fun v36 wc => ∃ (kq : Nat) (x36_5 : Bool), v36 = .bool x36_5 ∧ Aside0 (cambiumref26_Sum.j1 kq l0 x4_1 (wrap64 (((rd_T38 l0 x4_1).f5) + ((rd_T38 l0 x4_1).f6))) x36_5 x222000_1 x222001_1 x222002_1 x222003_1 x222004_1 = some (r1, r2, r3, r4, r5)) ∧ Aside0 (kq ≤ k1) ∧ Aside0 (wc.heap[gb220]? = some (.cells #[.int .i64 0, .int .i64 0, .int .i64 0, .int .i64 0, .int .i64 0] 29 (0, 0))) ∧ Aside0 (wc.heap[gb221]? = some (.cells #[.int .i64 x222000_1, .int .i64 x222001_1, .int .i64 x222002_1, .int .i64 x222003_1, .int .i64 x222004_1] 29 (0, 0))) ∧ Aside0 (Below w.heap.size w wc))
   case first =>
    have H := HC6.out
    clear HC6
    by_cases c7 : x4_1 = 0
    ·rw [if_pos c7] at H
     have c7b0 : (x4_1 == 0) = true := beq_iff_eq.mpr c7
     have c7b1 : (x4_1 != 0) = false := bne_eq_false_iff_eq.mpr c7
     clear c7
     (first | rw [c7b0] | (simp only [i64_w, i32_w]; rw [c7b0]) | skip)
     have H' := Aside0.mk H
     clear H
     go_wp2
     repeat (go_quiet (fail); try go_wp2)
     go_meet
     case rel => exact ⟨_, (true), q11y4, H', ⟨by have := HK1.out; first | omega | exact Nat.le_refl _⟩, ⟨by (with_reducible repeat (first | refine blk_drewN ?_ _ | refine blk_drew ?_ | refine blk_alloc ?_ _)); exact BK220.out⟩, ⟨by (with_reducible repeat (first | refine blk_drewN ?_ _ | refine blk_drew ?_ | refine blk_alloc ?_ _)); exact BK221.out⟩, ⟨by repeat (first | (with_reducible first | exact HB.out | apply below_alloc | apply pw_below_drewN | apply below_drew1 | refine below_set ?_ GE220.out | refine below_set ?_ GE221.out) | exact HB.out)⟩⟩
    rw [if_neg c7] at H
    have c7b0 : (x4_1 == 0) = false := beq_eq_false_iff_ne.mpr c7
    have c7b1 : (x4_1 != 0) = true := bne_iff_ne.mpr c7
    (first | rw [c7b0] | (simp only [i64_w, i32_w]; rw [c7b0]) | skip)
    have H' := Aside0.mk H
    clear H
    have p224 : 0 ≤ (x4_1 : Int) := of_decide_eq_true q11y3
    have q224 : x4_1 < (l0.length : Int) := of_decide_eq_true q11y3
    obtain ⟨ad224, A224_8, c224_8, A224_9, c224_9, A224_10, c224_10, e224, hx224_0, hx224_1, hx224_2, hx224_3, hx224_4, hx224_5, hx224_6, hx224_7, hx224_8, hx224_9, hx224_10, hl224_8, hi224_8, hl224_9, hi224_9, hl224_10, hi224_10⟩ := at_T38 HR0.out x4_1 p224 q224
    obtain rfl : ad222 = ad224 := (by injection e224)
    replace hx224_0 := (HB.out.cell (World.block_lt_of_cell? w _ hx224_0)).trans hx224_0
    replace hx224_1 := (HB.out.cell (World.block_lt_of_cell? w _ hx224_1)).trans hx224_1
    replace hx224_2 := (HB.out.cell (World.block_lt_of_cell? w _ hx224_2)).trans hx224_2
    replace hx224_3 := (HB.out.cell (World.block_lt_of_cell? w _ hx224_3)).trans hx224_3
    replace hx224_4 := (HB.out.cell (World.block_lt_of_cell? w _ hx224_4)).trans hx224_4
    replace hx224_5 := (HB.out.cell (World.block_lt_of_cell? w _ hx224_5)).trans hx224_5
    replace hx224_6 := (HB.out.cell (World.block_lt_of_cell? w _ hx224_6)).trans hx224_6
    replace hx224_7 := (HB.out.cell (World.block_lt_of_cell? w _ hx224_7)).trans hx224_7
    replace hx224_8 := (HB.out.cell (World.block_lt_of_cell? w _ hx224_8)).trans hx224_8
    replace hx224_9 := (HB.out.cell (World.block_lt_of_cell? w _ hx224_9)).trans hx224_9
    replace hx224_10 := (HB.out.cell (World.block_lt_of_cell? w _ hx224_10)).trans hx224_10
    have HR224_8 := Aside0.mk hi224_8
    have HC224_8 := Aside0.mk hl224_8
    clear hi224_8 hl224_8
    have HR224_9 := Aside0.mk hi224_9
    have HC224_9 := Aside0.mk hl224_9
    clear hi224_9 hl224_9
    have HR224_10 := Aside0.mk hi224_10
    have HC224_10 := Aside0.mk hl224_10
    clear hi224_10 hl224_10
    replace p224 := eq_true p224
    replace q224 := eq_true q224
    have hnb8 := NB221_220.out
    have hnc8 := NB220_221.out
    have hcz9_0 : wr.cell? ⟨gb221, 0, none⟩ = some (.int .i64 x222000_1) := (blk_cell BK221.out 0).trans rfl
    have hcz9_1 : wr.cell? ⟨gb221, 1, none⟩ = some (.int .i64 x222001_1) := (blk_cell BK221.out 1).trans rfl
    have hcz9_2 : wr.cell? ⟨gb221, 2, none⟩ = some (.int .i64 x222002_1) := (blk_cell BK221.out 2).trans rfl
    have hcz9_3 : wr.cell? ⟨gb221, 3, none⟩ = some (.int .i64 x222003_1) := (blk_cell BK221.out 3).trans rfl
    have hcz9_4 : wr.cell? ⟨gb221, 4, none⟩ = some (.int .i64 x222004_1) := (blk_cell BK221.out 4).trans rfl
    have hfz9_0 := blk_frozen BK221.out 0
    have hfz9_1 := blk_frozen BK221.out 1
    have hfz9_2 := blk_frozen BK221.out 2
    have hfz9_3 := blk_frozen BK221.out 3
    have hfz9_4 := blk_frozen BK221.out 4
    go_wp2
    repeat (go_quiet (fail); try go_wp2)
    go_meet
    case rel => exact ⟨_, (decide (((rd_T38 l0 x4_1).f5) < x222002_1)), q11y4, H', ⟨by have := HK1.out; first | omega | exact Nat.le_refl _⟩, ⟨by (with_reducible repeat (first | refine blk_drewN ?_ _ | refine blk_drew ?_ | refine blk_alloc ?_ _)); exact BK220.out⟩, ⟨by (with_reducible repeat (first | refine blk_drewN ?_ _ | refine blk_drew ?_ | refine blk_alloc ?_ _)); exact BK221.out⟩, ⟨by repeat (first | (with_reducible first | exact HB.out | apply below_alloc | apply pw_below_drewN | apply below_drew1 | refine below_set ?_ GE220.out | refine below_set ?_ GE221.out) | exact HB.out)⟩⟩
   case rest =>
    clear HC6
    try clear c1
    try clear c2
    try clear p2
    try clear q2
    try clear hx2
    try clear c4
    try clear c4b0
    try clear c5
    try clear c5b0
    try clear p6
    try clear c7
    try clear c7b0
    try clear c7b1
    try clear c8
    try clear hcz9_0 hcz9_1 hcz9_2 hcz9_3 hcz9_4
    try clear hfz9_0 hfz9_1 hfz9_2 hfz9_3 hfz9_4
    try clear hx222_0
    try clear hx222_1
    try clear hx222_10
    try clear hx222_2
    try clear hx222_3
    try clear hx222_4
    try clear hx222_5
    try clear hx222_6
    try clear hx222_7
    try clear hx222_8
    try clear hx222_9
    try clear hx223_0
    try clear hx223_1
    try clear hx223_10
    try clear hx223_2
    try clear hx223_3
    try clear hx223_4
    try clear hx223_5
    try clear hx223_6
    try clear hx223_7
    try clear hx223_8
    try clear hx223_9
    try clear hx224_0
    try clear hx224_1
    try clear hx224_10
    try clear hx224_2
    try clear hx224_3
    try clear hx224_4
    try clear hx224_5
    try clear hx224_6
    try clear hx224_7
    try clear hx224_8
    try clear hx224_9
    try clear p2
    try clear p222
    try clear p223
    try clear p224
    try clear q222
    try clear q223
    try clear q224
    obtain ⟨kq, x36_5, rfl, HA, HJ5, BK220, BK221, HB⟩ := hcut
    cases kq with
    | zero => exact absurd HA.out (by simp [cambiumref26_Sum.j1])
    | succ kj5 =>
     have H := HA.out
     clear HA
     simp only [cambiumref26_Sum.j1] at H
     have HC10 := Aside0.mk H
     clear H
     go_upto_if 36 with (fail)
     repeat (go_quiet (fail); go_upto_if 36 with (fail))
     go_cut [] (fun wc => ∃ (kq : Nat) (x222002_9 : Int), Aside0 (cambiumref26_Sum.j2 kq l0 x4_1 (wrap64 (((rd_T38 l0 x4_1).f5) + ((rd_T38 l0 x4_1).f6))) x222000_1 x222001_1 x222002_9 x222003_1 x222004_1 = some (r1, r2, r3, r4, r5)) ∧ Aside0 (kq ≤ kj5) ∧ Aside0 (wc.heap[gb220]? = some (.cells #[.int .i64 0, .int .i64 0, .int .i64 0, .int .i64 0, .int .i64 0] 29 (0, 0))) ∧ Aside0 (wc.heap[gb221]? = some (.cells #[.int .i64 x222000_1, .int .i64 x222001_1, .int .i64 x222002_9, .int .i64 x222003_1, .int .i64 x222004_1] 29 (0, 0))) ∧ Aside0 (Below w.heap.size w wc))
     case first =>
      have H := HC10.out
      clear HC10
      by_cases c11 : x36_5 = true
      rotate_left
      ·replace c11 := Bool.eq_false_iff.mpr c11
       subst c11
       have H1 : (cambiumref26_Sum.j2 kj5 l0 x4_1 (wrap64 (((rd_T38 l0 x4_1).f5) + ((rd_T38 l0 x4_1).f6))) x222000_1 x222001_1 x222002_1 x222003_1 x222004_1) = some (r1, r2, r3, r4, r5) := by rw [if_neg (show ¬ (false = true) by decide)] at H; exact H
       clear H
       have H := H1
       clear H1
       have H' := Aside0.mk H
       clear H
       go_wp2
       repeat (go_quiet (fail); try go_wp2)
       go_meet
       case rel => exact ⟨_, (x222002_1), H', ⟨by have := HK1.out; have := HJ5.out; first | omega | exact Nat.le_refl _⟩, ⟨by (with_reducible repeat (first | refine blk_drewN ?_ _ | refine blk_drew ?_ | refine blk_alloc ?_ _)); exact BK220.out⟩, ⟨by (with_reducible repeat (first | refine blk_drewN ?_ _ | refine blk_drew ?_ | refine blk_alloc ?_ _)); exact BK221.out⟩, ⟨by repeat (first | (with_reducible first | exact HB.out | apply below_alloc | apply pw_below_drewN | apply below_drew1 | refine below_set ?_ GE220.out | refine below_set ?_ GE221.out) | exact HB.out)⟩⟩
      subst c11
      have H1 : (if 0 ≤ x4_1 then (if x4_1 < (l0.length : Int) then (cambiumref26_Sum.j2 kj5 l0 x4_1 (wrap64 (((rd_T38 l0 x4_1).f5) + ((rd_T38 l0 x4_1).f6))) x222000_1 x222001_1 ((rd_T38 l0 x4_1).f5) x222003_1 x222004_1) else (none)) else (none)) = some (r1, r2, r3, r4, r5) := by rw [if_pos rfl] at H; exact H
      clear H
      have H := H1
      clear H1
      by_cases c12 : 0 ≤ x4_1
      rotate_left
      ·rw [if_neg c12] at H
       exact absurd H (by simp)
      rw [if_pos c12] at H
      have c12b0 : decide (0 ≤ x4_1) = true := decide_eq_true c12
      clear c12
      (first | rw [c12b0] | (simp only [i64_w, i32_w]; rw [c12b0]) | skip)
      by_cases c13 : x4_1 < (l0.length : Int)
      rotate_left
      ·rw [if_neg c13] at H
       exact absurd H (by simp)
      rw [if_pos c13] at H
      have c13b0 : decide (x4_1 < (l0.length : Int)) = true := decide_eq_true c13
      clear c13
      have H' := Aside0.mk H
      clear H
      have p225 : 0 ≤ (x4_1 : Int) := of_decide_eq_true q11y3
      have q225 : x4_1 < (l0.length : Int) := of_decide_eq_true q11y3
      obtain ⟨ad225, A225_8, c225_8, A225_9, c225_9, A225_10, c225_10, e225, hx225_0, hx225_1, hx225_2, hx225_3, hx225_4, hx225_5, hx225_6, hx225_7, hx225_8, hx225_9, hx225_10, hl225_8, hi225_8, hl225_9, hi225_9, hl225_10, hi225_10⟩ := at_T38 HR0.out x4_1 p225 q225
      obtain rfl : ad222 = ad225 := (by injection e225)
      replace hx225_0 := (HB.out.cell (World.block_lt_of_cell? w _ hx225_0)).trans hx225_0
      replace hx225_1 := (HB.out.cell (World.block_lt_of_cell? w _ hx225_1)).trans hx225_1
      replace hx225_2 := (HB.out.cell (World.block_lt_of_cell? w _ hx225_2)).trans hx225_2
      replace hx225_3 := (HB.out.cell (World.block_lt_of_cell? w _ hx225_3)).trans hx225_3
      replace hx225_4 := (HB.out.cell (World.block_lt_of_cell? w _ hx225_4)).trans hx225_4
      replace hx225_5 := (HB.out.cell (World.block_lt_of_cell? w _ hx225_5)).trans hx225_5
      replace hx225_6 := (HB.out.cell (World.block_lt_of_cell? w _ hx225_6)).trans hx225_6
      replace hx225_7 := (HB.out.cell (World.block_lt_of_cell? w _ hx225_7)).trans hx225_7
      replace hx225_8 := (HB.out.cell (World.block_lt_of_cell? w _ hx225_8)).trans hx225_8
      replace hx225_9 := (HB.out.cell (World.block_lt_of_cell? w _ hx225_9)).trans hx225_9
      replace hx225_10 := (HB.out.cell (World.block_lt_of_cell? w _ hx225_10)).trans hx225_10
      have HR225_8 := Aside0.mk hi225_8
      have HC225_8 := Aside0.mk hl225_8
      clear hi225_8 hl225_8
      have HR225_9 := Aside0.mk hi225_9
      have HC225_9 := Aside0.mk hl225_9
      clear hi225_9 hl225_9
      have HR225_10 := Aside0.mk hi225_10
      have HC225_10 := Aside0.mk hl225_10
      clear hi225_10 hl225_10
      replace p225 := eq_true p225
      replace q225 := eq_true q225
      have hnb14 := NB221_220.out
      have hnc14 := NB220_221.out
      have hcz15_0 : wc.cell? ⟨gb221, 0, none⟩ = some (.int .i64 x222000_1) := (blk_cell BK221.out 0).trans rfl
      have hcz15_1 : wc.cell? ⟨gb221, 1, none⟩ = some (.int .i64 x222001_1) := (blk_cell BK221.out 1).trans rfl
      have hcz15_2 : wc.cell? ⟨gb221, 2, none⟩ = some (.int .i64 x222002_1) := (blk_cell BK221.out 2).trans rfl
      have hcz15_3 : wc.cell? ⟨gb221, 3, none⟩ = some (.int .i64 x222003_1) := (blk_cell BK221.out 3).trans rfl
      have hcz15_4 : wc.cell? ⟨gb221, 4, none⟩ = some (.int .i64 x222004_1) := (blk_cell BK221.out 4).trans rfl
      have hfz15_0 := blk_frozen BK221.out 0
      have hfz15_1 := blk_frozen BK221.out 1
      have hfz15_2 := blk_frozen BK221.out 2
      have hfz15_3 := blk_frozen BK221.out 3
      have hfz15_4 := blk_frozen BK221.out 4
      go_wp2
      repeat (go_quiet (fail); try go_wp2)
      go_meet
      case rel => exact ⟨_, ((rd_T38 l0 x4_1).f5), H', ⟨by have := HK1.out; have := HJ5.out; first | omega | exact Nat.le_refl _⟩, ⟨by (with_reducible repeat (first | refine blk_drewN ?_ _ | refine blk_drew ?_ | refine blk_alloc ?_ _)); refine blk_far ?_ NB220_221.out _; (with_reducible repeat (first | refine blk_drewN ?_ _ | refine blk_drew ?_ | refine blk_alloc ?_ _)); exact BK220.out⟩, ⟨by (with_reducible repeat (first | refine blk_drewN ?_ _ | refine blk_drew ?_ | refine blk_alloc ?_ _)); refine blk_put (cs := #[.int .i64 x222000_1, .int .i64 x222001_1, .int .i64 x222002_1, .int .i64 x222003_1, .int .i64 x222004_1]) ?_ 2 _ rfl; (with_reducible repeat (first | refine blk_drewN ?_ _ | refine blk_drew ?_ | refine blk_alloc ?_ _)); exact BK221.out⟩, ⟨by repeat (first | (with_reducible first | exact HB.out | apply below_alloc | apply pw_below_drewN | apply below_drew1 | refine below_set ?_ GE220.out | refine below_set ?_ GE221.out) | exact HB.out)⟩⟩
     case rest =>
      clear HC10
      try clear c1
      try clear c2
      try clear p2
      try clear q2
      try clear hx2
      try clear c4
      try clear c4b0
      try clear c5
      try clear c5b0
      try clear p6
      try clear c7
      try clear c7b0
      try clear c7b1
      try clear c8
      try clear c11
      try clear c12
      try clear c12b0
      try clear c13
      try clear c13b0
      try clear c14
      try clear hcz15_0 hcz15_1 hcz15_2 hcz15_3 hcz15_4
      try clear hcz9_0 hcz9_1 hcz9_2 hcz9_3 hcz9_4
      try clear hfz15_0 hfz15_1 hfz15_2 hfz15_3 hfz15_4
      try clear hfz9_0 hfz9_1 hfz9_2 hfz9_3 hfz9_4
      try clear hx222_0
      try clear hx222_1
      try clear hx222_10
      try clear hx222_2
      try clear hx222_3
      try clear hx222_4
      try clear hx222_5
      try clear hx222_6
      try clear hx222_7
      try clear hx222_8
      try clear hx222_9
      try clear hx223_0
      try clear hx223_1
      try clear hx223_10
      try clear hx223_2
      try clear hx223_3
      try clear hx223_4
      try clear hx223_5
      try clear hx223_6
      try clear hx223_7
      try clear hx223_8
      try clear hx223_9
      try clear hx224_0
      try clear hx224_1
      try clear hx224_10
      try clear hx224_2
      try clear hx224_3
      try clear hx224_4
      try clear hx224_5
      try clear hx224_6
      try clear hx224_7
      try clear hx224_8
      try clear hx224_9
      try clear hx225_0
      try clear hx225_1
      try clear hx225_10
      try clear hx225_2
      try clear hx225_3
      try clear hx225_4
      try clear hx225_5
      try clear hx225_6
      try clear hx225_7
      try clear hx225_8
      try clear hx225_9
      try clear p2
      try clear p222
      try clear p223
      try clear p224
      try clear p225
      try clear p6
      try clear q2
      try clear q222
      try clear q223
      try clear q224
      try clear q225
      obtain ⟨kq, x222002_9, HA, HJ9, BK220, BK221, HB⟩ := hcut
      cases kq with
      | zero => exact absurd HA.out (by simp [cambiumref26_Sum.j2])
      | succ kj9 =>
       have H := HA.out
       clear HA
       simp only [cambiumref26_Sum.j2] at H
       have HC16 := Aside0.mk H
       clear H
       go_upto_region 8 with (fail)
       repeat (go_quiet (fail); go_upto_region 8 with (fail))
       go_cut [50] (fun v50 wc => ∃ (kq : Nat) (x50_15 : Bool), v50 = .bool x50_15 ∧ Aside0 (cambiumref26_Sum.j3 kq l0 x4_1 (wrap64 (((rd_T38 l0 x4_1).f5) + ((rd_T38 l0 x4_1).f6))) x50_15 x222000_1 x222001_1 x222002_9 x222003_1 x222004_1 = some (r1, r2, r3, r4, r5)) ∧ Aside0 (kq ≤ kj9) ∧ Aside0 (wc.heap[gb220]? = some (.cells #[.int .i64 0, .int .i64 0, .int .i64 0, .int .i64 0, .int .i64 0] 29 (0, 0))) ∧ Aside0 (wc.heap[gb221]? = some (.cells #[.int .i64 x222000_1, .int .i64 x222001_1, .int .i64 x222002_9, .int .i64 x222003_1, .int .i64 x222004_1] 29 (0, 0))) ∧ Aside0 (Below w.heap.size w wc))
       case first =>
        have H := HC16.out
        clear HC16
        by_cases c17 : x4_1 = 0
        ·rw [if_pos c17] at H
         have c17b0 : (x4_1 == 0) = true := beq_iff_eq.mpr c17
         have c17b1 : (x4_1 != 0) = false := bne_eq_false_iff_eq.mpr c17
         clear c17
         (first | rw [c17b0] | (simp only [i64_w, i32_w]; rw [c17b0]) | skip)
         have H' := Aside0.mk H
         clear H
         go_wp2
         repeat (go_quiet (fail); try go_wp2)
         go_meet
         case rel => exact ⟨_, (true), q11y4, H', ⟨by have := HK1.out; have := HJ5.out; have := HJ9.out; first | omega | exact Nat.le_refl _⟩, ⟨by (with_reducible repeat (first | refine blk_drewN ?_ _ | refine blk_drew ?_ | refine blk_alloc ?_ _)); exact BK220.out⟩, ⟨by (with_reducible repeat (first | refine blk_drewN ?_ _ | refine blk_drew ?_ | refine blk_alloc ?_ _)); exact BK221.out⟩, ⟨by repeat (first | (with_reducible first | exact HB.out | apply below_alloc | apply pw_below_drewN | apply below_drew1 | refine below_set ?_ GE220.out | refine below_set ?_ GE221.out) | exact HB.out)⟩⟩
        rw [if_neg c17] at H
        have c17b0 : (x4_1 == 0) = false := beq_eq_false_iff_ne.mpr c17
        have c17b1 : (x4_1 != 0) = true := bne_iff_ne.mpr c17
        (first | rw [c17b0] | (simp only [i64_w, i32_w]; rw [c17b0]) | skip)
        have H' := Aside0.mk H
        clear H
        have hnb18 := NB221_220.out
        have hnc18 := NB220_221.out
        have hcz19_0 : wc.cell? ⟨gb221, 0, none⟩ = some (.int .i64 x222000_1) := (blk_cell BK221.out 0).trans rfl
        have hcz19_1 : wc.cell? ⟨gb221, 1, none⟩ = some (.int .i64 x222001_1) := (blk_cell BK221.out 1).trans rfl
        have hcz19_2 : wc.cell? ⟨gb221, 2, none⟩ = some (.int .i64 x222002_9) := (blk_cell BK221.out 2).trans rfl
        have hcz19_3 : wc.cell? ⟨gb221, 3, none⟩ = some (.int .i64 x222003_1) := (blk_cell BK221.out 3).trans rfl
        have hcz19_4 : wc.cell? ⟨gb221, 4, none⟩ = some (.int .i64 x222004_1) := (blk_cell BK221.out 4).trans rfl
        have hfz19_0 := blk_frozen BK221.out 0
        have hfz19_1 := blk_frozen BK221.out 1
        have hfz19_2 := blk_frozen BK221.out 2
        have hfz19_3 := blk_frozen BK221.out 3
        have hfz19_4 := blk_frozen BK221.out 4
        go_wp2
        repeat (go_quiet (fail); try go_wp2)
        go_meet
        case rel => exact ⟨_, (decide ((wrap64 (((rd_T38 l0 x4_1).f5) + ((rd_T38 l0 x4_1).f6))) > x222003_1)), q11y4, H', ⟨by have := HK1.out; have := HJ5.out; have := HJ9.out; first | omega | exact Nat.le_refl _⟩, ⟨by (with_reducible repeat (first | refine blk_drewN ?_ _ | refine blk_drew ?_ | refine blk_alloc ?_ _)); exact BK220.out⟩, ⟨by (with_reducible repeat (first | refine blk_drewN ?_ _ | refine blk_drew ?_ | refine blk_alloc ?_ _)); exact BK221.out⟩, ⟨by repeat (first | (with_reducible first | exact HB.out | apply below_alloc | apply pw_below_drewN | apply below_drew1 | refine below_set ?_ GE220.out | refine below_set ?_ GE221.out) | exact HB.out)⟩⟩
       case rest =>
        clear HC16
        try clear c1
        try clear c2
        try clear p2
        try clear q2
        try clear hx2
        try clear c4
        try clear c4b0
        try clear c5
        try clear c5b0
        try clear p6
        try clear c7
        try clear c7b0
        try clear c7b1
        try clear c8
        try clear c11
        try clear c12
        try clear c12b0
        try clear c13
        try clear c13b0
        try clear c14
        try clear c17
        try clear c17b0
        try clear c17b1
        try clear c18
        try clear hcz15_0 hcz15_1 hcz15_2 hcz15_3 hcz15_4
        try clear hcz19_0 hcz19_1 hcz19_2 hcz19_3 hcz19_4
        try clear hcz9_0 hcz9_1 hcz9_2 hcz9_3 hcz9_4
        try clear hfz15_0 hfz15_1 hfz15_2 hfz15_3 hfz15_4
        try clear hfz19_0 hfz19_1 hfz19_2 hfz19_3 hfz19_4
        try clear hfz9_0 hfz9_1 hfz9_2 hfz9_3 hfz9_4
        try clear hx222_0
        try clear hx222_1
        try clear hx222_10
        try clear hx222_2
        try clear hx222_3
        try clear hx222_4
        try clear hx222_5
        try clear hx222_6
        try clear hx222_7
        try clear hx222_8
        try clear hx222_9
        try clear hx223_0
        try clear hx223_1
        try clear hx223_10
        try clear hx223_2
        try clear hx223_3
        try clear hx223_4
        try clear hx223_5
        try clear hx223_6
        try clear hx223_7
        try clear hx223_8
        try clear hx223_9
        try clear hx224_0
        try clear hx224_1
        try clear hx224_10
        try clear hx224_2
        try clear hx224_3
        try clear hx224_4
        try clear hx224_5
        try clear hx224_6
        try clear hx224_7
        try clear hx224_8
        try clear hx224_9
        try clear hx225_0
        try clear hx225_1
        try clear hx225_10
        try clear hx225_2
        try clear hx225_3
        try clear hx225_4
        try clear hx225_5
        try clear hx225_6
        try clear hx225_7
        try clear hx225_8
        try clear hx225_9
        try clear p2
        try clear p222
        try clear p223
        try clear p224
        try clear p225
        try clear p6
        try clear q2
        try clear q222
        try clear q223
        try clear q224
        try clear q225
        obtain ⟨kq, x50_15, rfl, HA, HJ15, BK220, BK221, HB⟩ := hcut
        cases kq with
        | zero => exact absurd HA.out (by simp [cambiumref26_Sum.j3])
        | succ kj15 =>
         have H := HA.out
         clear HA
         simp only [cambiumref26_Sum.j3] at H
         have HC20 := Aside0.mk H
         clear H
         go_upto_if 50 with (fail)
         repeat (go_quiet (fail); go_upto_if 50 with (fail))
         go_cut [] (fun wc => ∃ (kq : Nat) (x222003_19 : Int), Aside0 (cambiumref26_Sum.j4 kq l0 x4_1 x222000_1 x222001_1 x222002_9 x222003_19 x222004_1 = some (r1, r2, r3, r4, r5)) ∧ Aside0 (kq ≤ kj15) ∧ Aside0 (wc.heap[gb220]? = some (.cells #[.int .i64 0, .int .i64 0, .int .i64 0, .int .i64 0, .int .i64 0] 29 (0, 0))) ∧ Aside0 (wc.heap[gb221]? = some (.cells #[.int .i64 x222000_1, .int .i64 x222001_1, .int .i64 x222002_9, .int .i64 x222003_19, .int .i64 x222004_1] 29 (0, 0))) ∧ Aside0 (Below w.heap.size w wc))
         case first =>
          have H := HC20.out
          clear HC20
          by_cases c21 : x50_15 = true
          rotate_left
          ·replace c21 := Bool.eq_false_iff.mpr c21
           subst c21
           have H1 : (cambiumref26_Sum.j4 kj15 l0 x4_1 x222000_1 x222001_1 x222002_9 x222003_1 x222004_1) = some (r1, r2, r3, r4, r5) := by rw [if_neg (show ¬ (false = true) by decide)] at H; exact H
           clear H
           have H := H1
           clear H1
           have H' := Aside0.mk H
           clear H
           go_wp2
           repeat (go_quiet (fail); try go_wp2)
           go_meet
           case rel => exact ⟨_, (x222003_1), H', ⟨by have := HK1.out; have := HJ5.out; have := HJ9.out; have := HJ15.out; first | omega | exact Nat.le_refl _⟩, ⟨by (with_reducible repeat (first | refine blk_drewN ?_ _ | refine blk_drew ?_ | refine blk_alloc ?_ _)); exact BK220.out⟩, ⟨by (with_reducible repeat (first | refine blk_drewN ?_ _ | refine blk_drew ?_ | refine blk_alloc ?_ _)); exact BK221.out⟩, ⟨by repeat (first | (with_reducible first | exact HB.out | apply below_alloc | apply pw_below_drewN | apply below_drew1 | refine below_set ?_ GE220.out | refine below_set ?_ GE221.out) | exact HB.out)⟩⟩
          subst c21
          have H1 : (cambiumref26_Sum.j4 kj15 l0 x4_1 x222000_1 x222001_1 x222002_9 (wrap64 (((rd_T38 l0 x4_1).f5) + ((rd_T38 l0 x4_1).f6))) x222004_1) = some (r1, r2, r3, r4, r5) := by rw [if_pos rfl] at H; exact H
          clear H
          have H := H1
          clear H1
          have H' := Aside0.mk H
          clear H
          have hnb22 := NB221_220.out
          have hnc22 := NB220_221.out
          have hcz23_0 : wc.cell? ⟨gb221, 0, none⟩ = some (.int .i64 x222000_1) := (blk_cell BK221.out 0).trans rfl
          have hcz23_1 : wc.cell? ⟨gb221, 1, none⟩ = some (.int .i64 x222001_1) := (blk_cell BK221.out 1).trans rfl
          have hcz23_2 : wc.cell? ⟨gb221, 2, none⟩ = some (.int .i64 x222002_9) := (blk_cell BK221.out 2).trans rfl
          have hcz23_3 : wc.cell? ⟨gb221, 3, none⟩ = some (.int .i64 x222003_1) := (blk_cell BK221.out 3).trans rfl
          have hcz23_4 : wc.cell? ⟨gb221, 4, none⟩ = some (.int .i64 x222004_1) := (blk_cell BK221.out 4).trans rfl
          have hfz23_0 := blk_frozen BK221.out 0
          have hfz23_1 := blk_frozen BK221.out 1
          have hfz23_2 := blk_frozen BK221.out 2
          have hfz23_3 := blk_frozen BK221.out 3
          have hfz23_4 := blk_frozen BK221.out 4
          go_wp2
          repeat (go_quiet (fail); try go_wp2)
          go_meet
          case rel => exact ⟨_, ((wrap64 (((rd_T38 l0 x4_1).f5) + ((rd_T38 l0 x4_1).f6)))), H', ⟨by have := HK1.out; have := HJ5.out; have := HJ9.out; have := HJ15.out; first | omega | exact Nat.le_refl _⟩, ⟨by (with_reducible repeat (first | refine blk_drewN ?_ _ | refine blk_drew ?_ | refine blk_alloc ?_ _)); refine blk_far ?_ NB220_221.out _; (with_reducible repeat (first | refine blk_drewN ?_ _ | refine blk_drew ?_ | refine blk_alloc ?_ _)); exact BK220.out⟩, ⟨by (with_reducible repeat (first | refine blk_drewN ?_ _ | refine blk_drew ?_ | refine blk_alloc ?_ _)); refine blk_put (cs := #[.int .i64 x222000_1, .int .i64 x222001_1, .int .i64 x222002_9, .int .i64 x222003_1, .int .i64 x222004_1]) ?_ 3 _ rfl; (with_reducible repeat (first | refine blk_drewN ?_ _ | refine blk_drew ?_ | refine blk_alloc ?_ _)); exact BK221.out⟩, ⟨by repeat (first | (with_reducible first | exact HB.out | apply below_alloc | apply pw_below_drewN | apply below_drew1 | refine below_set ?_ GE220.out | refine below_set ?_ GE221.out) | exact HB.out)⟩⟩
         case rest =>
          clear HC20
          try clear c1
          try clear c2
          try clear p2
          try clear q2
          try clear hx2
          try clear c4
          try clear c4b0
          try clear c5
          try clear c5b0
          try clear p6
          try clear c7
          try clear c7b0
          try clear c7b1
          try clear c8
          try clear c11
          try clear c12
          try clear c12b0
          try clear c13
          try clear c13b0
          try clear c14
          try clear c17
          try clear c17b0
          try clear c17b1
          try clear c18
          try clear c21
          try clear c22
          try clear p22
          try clear q22
          try clear hx22
          try clear hcz15_0 hcz15_1 hcz15_2 hcz15_3 hcz15_4
          try clear hcz19_0 hcz19_1 hcz19_2 hcz19_3 hcz19_4
          try clear hcz23_0 hcz23_1 hcz23_2 hcz23_3 hcz23_4
          try clear hcz9_0 hcz9_1 hcz9_2 hcz9_3 hcz9_4
          try clear hfz15_0 hfz15_1 hfz15_2 hfz15_3 hfz15_4
          try clear hfz19_0 hfz19_1 hfz19_2 hfz19_3 hfz19_4
          try clear hfz23_0 hfz23_1 hfz23_2 hfz23_3 hfz23_4
          try clear hfz9_0 hfz9_1 hfz9_2 hfz9_3 hfz9_4
          try clear hx222_0
          try clear hx222_1
          try clear hx222_10
          try clear hx222_2
          try clear hx222_3
          try clear hx222_4
          try clear hx222_5
          try clear hx222_6
          try clear hx222_7
          try clear hx222_8
          try clear hx222_9
          try clear hx223_0
          try clear hx223_1
          try clear hx223_10
          try clear hx223_2
          try clear hx223_3
          try clear hx223_4
          try clear hx223_5
          try clear hx223_6
          try clear hx223_7
          try clear hx223_8
          try clear hx223_9
          try clear hx224_0
          try clear hx224_1
          try clear hx224_10
          try clear hx224_2
          try clear hx224_3
          try clear hx224_4
          try clear hx224_5
          try clear hx224_6
          try clear hx224_7
          try clear hx224_8
          try clear hx224_9
          try clear hx225_0
          try clear hx225_1
          try clear hx225_10
          try clear hx225_2
          try clear hx225_3
          try clear hx225_4
          try clear hx225_5
          try clear hx225_6
          try clear hx225_7
          try clear hx225_8
          try clear hx225_9
          try clear p2
          try clear p222
          try clear p223
          try clear p224
          try clear p225
          try clear p6
          try clear q2
          try clear q222
          try clear q223
          try clear q224
          try clear q225
          obtain ⟨kq, x222003_19, HA, HJ19, BK220, BK221, HB⟩ := hcut
          cases kq with
          | zero => exact absurd HA.out (by simp [cambiumref26_Sum.j4])
          | succ kj19 =>
           have H := HA.out
           clear HA
           simp only [cambiumref26_Sum.j4] at H
           by_cases c24 : 0 ≤ x4_1
           rotate_left
           ·rw [if_neg c24] at H
            exact absurd H (by simp)
           rw [if_pos c24] at H
           have c24b0 : decide (0 ≤ x4_1) = true := decide_eq_true c24
           clear c24
           by_cases c25 : x4_1 < (l0.length : Int)
           rotate_left
           ·rw [if_neg c25] at H
            exact absurd H (by simp)
           rw [if_pos c25] at H
           have c25b0 : decide (x4_1 < (l0.length : Int)) = true := decide_eq_true c25
           clear c25
           have HC26 := Aside0.mk H
           clear H
           have p226 : 0 ≤ (x4_1 : Int) := of_decide_eq_true q11y3
           have q226 : x4_1 < (l0.length : Int) := of_decide_eq_true q11y3
           obtain ⟨ad226, A226_8, c226_8, A226_9, c226_9, A226_10, c226_10, e226, hx226_0, hx226_1, hx226_2, hx226_3, hx226_4, hx226_5, hx226_6, hx226_7, hx226_8, hx226_9, hx226_10, hl226_8, hi226_8, hl226_9, hi226_9, hl226_10, hi226_10⟩ := at_T38 HR0.out x4_1 p226 q226
           obtain rfl : ad222 = ad226 := (by injection e226)
           replace hx226_0 := (HB.out.cell (World.block_lt_of_cell? w _ hx226_0)).trans hx226_0
           replace hx226_1 := (HB.out.cell (World.block_lt_of_cell? w _ hx226_1)).trans hx226_1
           replace hx226_2 := (HB.out.cell (World.block_lt_of_cell? w _ hx226_2)).trans hx226_2
           replace hx226_3 := (HB.out.cell (World.block_lt_of_cell? w _ hx226_3)).trans hx226_3
           replace hx226_4 := (HB.out.cell (World.block_lt_of_cell? w _ hx226_4)).trans hx226_4
           replace hx226_5 := (HB.out.cell (World.block_lt_of_cell? w _ hx226_5)).trans hx226_5
           replace hx226_6 := (HB.out.cell (World.block_lt_of_cell? w _ hx226_6)).trans hx226_6
           replace hx226_7 := (HB.out.cell (World.block_lt_of_cell? w _ hx226_7)).trans hx226_7
           replace hx226_8 := (HB.out.cell (World.block_lt_of_cell? w _ hx226_8)).trans hx226_8
           replace hx226_9 := (HB.out.cell (World.block_lt_of_cell? w _ hx226_9)).trans hx226_9
           replace hx226_10 := (HB.out.cell (World.block_lt_of_cell? w _ hx226_10)).trans hx226_10
           have HR226_8 := Aside0.mk hi226_8
           have HC226_8 := Aside0.mk hl226_8
           clear hi226_8 hl226_8
           have HR226_9 := Aside0.mk hi226_9
           have HC226_9 := Aside0.mk hl226_9
           clear hi226_9 hl226_9
           have HR226_10 := Aside0.mk hi226_10
           have HC226_10 := Aside0.mk hl226_10
           clear hi226_10 hl226_10
           replace p226 := eq_true p226
           replace q226 := eq_true q226
           go_upto_if 58 with (fail)
           repeat (go_quiet (fail); go_upto_if 58 with (fail))
           go_cut [] (fun wc => ∃ (kq : Nat) (x222001_25 : Int), Aside0 (cambiumref26_Sum.j5 kq l0 x4_1 x222000_1 x222001_25 x222002_9 x222003_19 x222004_1 = some (r1, r2, r3, r4, r5)) ∧ Aside0 (kq ≤ kj19) ∧ Aside0 (wc.heap[gb220]? = some (.cells #[.int .i64 0, .int .i64 0, .int .i64 0, .int .i64 0, .int .i64 0] 29 (0, 0))) ∧ Aside0 (wc.heap[gb221]? = some (.cells #[.int .i64 x222000_1, .int .i64 x222001_25, .int .i64 x222002_9, .int .i64 x222003_19, .int .i64 x222004_1] 29 (0, 0))) ∧ Aside0 (Below w.heap.size w wc))
           case first =>
            have H := HC26.out
            clear HC26
            by_cases c27 : ((rd_T38 l0 x4_1).f7) = 2
            rotate_left
            ·rw [if_neg c27] at H
             have c27b0 : (((rd_T38 l0 x4_1).f7) == 2) = false := beq_eq_false_iff_ne.mpr c27
             have c27b1 : (((rd_T38 l0 x4_1).f7) != 2) = true := bne_iff_ne.mpr c27
             (first | rw [c27b0] | (simp only [i64_w, i32_w]; rw [c27b0]) | skip)
             have H' := Aside0.mk H
             clear H
             go_wp2
             repeat (go_quiet (fail); try go_wp2)
             go_meet
             case rel => exact ⟨_, (x222001_1), H', ⟨by have := HK1.out; have := HJ5.out; have := HJ9.out; have := HJ15.out; have := HJ19.out; first | omega | exact Nat.le_refl _⟩, ⟨by (with_reducible repeat (first | refine blk_drewN ?_ _ | refine blk_drew ?_ | refine blk_alloc ?_ _)); exact BK220.out⟩, ⟨by (with_reducible repeat (first | refine blk_drewN ?_ _ | refine blk_drew ?_ | refine blk_alloc ?_ _)); exact BK221.out⟩, ⟨by repeat (first | (with_reducible first | exact HB.out | apply below_alloc | apply pw_below_drewN | apply below_drew1 | refine below_set ?_ GE220.out | refine below_set ?_ GE221.out) | exact HB.out)⟩⟩
            rw [if_pos c27] at H
            have c27b0 : (((rd_T38 l0 x4_1).f7) == 2) = true := beq_iff_eq.mpr c27
            have c27b1 : (((rd_T38 l0 x4_1).f7) != 2) = false := bne_eq_false_iff_eq.mpr c27
            clear c27
            (first | rw [c27b0] | (simp only [i64_w, i32_w]; rw [c27b0]) | skip)
            have H' := Aside0.mk H
            clear H
            have hnb28 := NB221_220.out
            have hnc28 := NB220_221.out
            have hcz29_0 : wc.cell? ⟨gb221, 0, none⟩ = some (.int .i64 x222000_1) := (blk_cell BK221.out 0).trans rfl
            have hcz29_1 : wc.cell? ⟨gb221, 1, none⟩ = some (.int .i64 x222001_1) := (blk_cell BK221.out 1).trans rfl
            have hcz29_2 : wc.cell? ⟨gb221, 2, none⟩ = some (.int .i64 x222002_9) := (blk_cell BK221.out 2).trans rfl
            have hcz29_3 : wc.cell? ⟨gb221, 3, none⟩ = some (.int .i64 x222003_19) := (blk_cell BK221.out 3).trans rfl
            have hcz29_4 : wc.cell? ⟨gb221, 4, none⟩ = some (.int .i64 x222004_1) := (blk_cell BK221.out 4).trans rfl
            have hfz29_0 := blk_frozen BK221.out 0
            have hfz29_1 := blk_frozen BK221.out 1
            have hfz29_2 := blk_frozen BK221.out 2
            have hfz29_3 := blk_frozen BK221.out 3
            have hfz29_4 := blk_frozen BK221.out 4
            go_wp2
            repeat (go_quiet (fail); try go_wp2)
            go_meet
            case rel => exact ⟨_, (wrap64 (x222001_1 + 1)), H', ⟨by have := HK1.out; have := HJ5.out; have := HJ9.out; have := HJ15.out; have := HJ19.out; first | omega | exact Nat.le_refl _⟩, ⟨by (with_reducible repeat (first | refine blk_drewN ?_ _ | refine blk_drew ?_ | refine blk_alloc ?_ _)); refine blk_far ?_ NB220_221.out _; (with_reducible repeat (first | refine blk_drewN ?_ _ | refine blk_drew ?_ | refine blk_alloc ?_ _)); exact BK220.out⟩, ⟨by (with_reducible repeat (first | refine blk_drewN ?_ _ | refine blk_drew ?_ | refine blk_alloc ?_ _)); refine blk_put (cs := #[.int .i64 x222000_1, .int .i64 x222001_1, .int .i64 x222002_9, .int .i64 x222003_19, .int .i64 x222004_1]) ?_ 1 _ rfl; (with_reducible repeat (first | refine blk_drewN ?_ _ | refine blk_drew ?_ | refine blk_alloc ?_ _)); exact BK221.out⟩, ⟨by repeat (first | (with_reducible first | exact HB.out | apply below_alloc | apply pw_below_drewN | apply below_drew1 | refine below_set ?_ GE220.out | refine below_set ?_ GE221.out) | exact HB.out)⟩⟩
           case rest =>
            clear HC26
            try clear c1
            try clear c2
            try clear p2
            try clear q2
            try clear hx2
            try clear c4
            try clear c4b0
            try clear c5
            try clear c5b0
            try clear p6
            try clear c7
            try clear c7b0
            try clear c7b1
            try clear c8
            try clear c11
            try clear c12
            try clear c12b0
            try clear c13
            try clear c13b0
            try clear c14
            try clear c17
            try clear c17b0
            try clear c17b1
            try clear c18
            try clear c21
            try clear c22
            try clear p22
            try clear q22
            try clear hx22
            try clear c24
            try clear c24b0
            try clear c25
            try clear c25b0
            try clear c27
            try clear c27b0
            try clear c27b1
            try clear c28
            try clear hcz15_0 hcz15_1 hcz15_2 hcz15_3 hcz15_4
            try clear hcz19_0 hcz19_1 hcz19_2 hcz19_3 hcz19_4
            try clear hcz23_0 hcz23_1 hcz23_2 hcz23_3 hcz23_4
            try clear hcz29_0 hcz29_1 hcz29_2 hcz29_3 hcz29_4
            try clear hcz9_0 hcz9_1 hcz9_2 hcz9_3 hcz9_4
            try clear hfz15_0 hfz15_1 hfz15_2 hfz15_3 hfz15_4
            try clear hfz19_0 hfz19_1 hfz19_2 hfz19_3 hfz19_4
            try clear hfz23_0 hfz23_1 hfz23_2 hfz23_3 hfz23_4
            try clear hfz29_0 hfz29_1 hfz29_2 hfz29_3 hfz29_4
            try clear hfz9_0 hfz9_1 hfz9_2 hfz9_3 hfz9_4
            try clear hx222_0
            try clear hx222_1
            try clear hx222_10
            try clear hx222_2
            try clear hx222_3
            try clear hx222_4
            try clear hx222_5
            try clear hx222_6
            try clear hx222_7
            try clear hx222_8
            try clear hx222_9
            try clear hx223_0
            try clear hx223_1
            try clear hx223_10
            try clear hx223_2
            try clear hx223_3
            try clear hx223_4
            try clear hx223_5
            try clear hx223_6
            try clear hx223_7
            try clear hx223_8
            try clear hx223_9
            try clear hx224_0
            try clear hx224_1
            try clear hx224_10
            try clear hx224_2
            try clear hx224_3
            try clear hx224_4
            try clear hx224_5
            try clear hx224_6
            try clear hx224_7
            try clear hx224_8
            try clear hx224_9
            try clear hx225_0
            try clear hx225_1
            try clear hx225_10
            try clear hx225_2
            try clear hx225_3
            try clear hx225_4
            try clear hx225_5
            try clear hx225_6
            try clear hx225_7
            try clear hx225_8
            try clear hx225_9
            try clear hx226_0
            try clear hx226_1
            try clear hx226_10
            try clear hx226_2
            try clear hx226_3
            try clear hx226_4
            try clear hx226_5
            try clear hx226_6
            try clear hx226_7
            try clear hx226_8
            try clear hx226_9
            try clear p2
            try clear p22
            try clear p222
            try clear p223
            try clear p224
            try clear p225
            try clear p226
            try clear p6
            try clear q2
            try clear q22
            try clear q222
            try clear q223
            try clear q224
            try clear q225
            try clear q226
            obtain ⟨kq, x222001_25, HA, HJ25, BK220, BK221, HB⟩ := hcut
            cases kq with
            | zero => exact absurd HA.out (by simp [cambiumref26_Sum.j5])
            | succ kj25 =>
             have H := HA.out
             clear HA
             simp only [cambiumref26_Sum.j5] at H
             have H' := Aside0.mk H
             clear H
             have hnb30 := NB221_220.out
             have hnc30 := NB220_221.out
             have hcz31_0 : wc.cell? ⟨gb221, 0, none⟩ = some (.int .i64 x222000_1) := (blk_cell BK221.out 0).trans rfl
             have hcz31_1 : wc.cell? ⟨gb221, 1, none⟩ = some (.int .i64 x222001_25) := (blk_cell BK221.out 1).trans rfl
             have hcz31_2 : wc.cell? ⟨gb221, 2, none⟩ = some (.int .i64 x222002_9) := (blk_cell BK221.out 2).trans rfl
             have hcz31_3 : wc.cell? ⟨gb221, 3, none⟩ = some (.int .i64 x222003_19) := (blk_cell BK221.out 3).trans rfl
             have hcz31_4 : wc.cell? ⟨gb221, 4, none⟩ = some (.int .i64 x222004_1) := (blk_cell BK221.out 4).trans rfl
             have hfz31_0 := blk_frozen BK221.out 0
             have hfz31_1 := blk_frozen BK221.out 1
             have hfz31_2 := blk_frozen BK221.out 2
             have hfz31_3 := blk_frozen BK221.out 3
             have hfz31_4 := blk_frozen BK221.out 4
             go_wp2
             repeat (go_quiet (fail); try go_wp2)
             go_loopg [6, 7] kj25 (fun kq v6 v7 w' => ∃ (x6_7 : Bool) (x7_7 : Int), v6 = .bool x6_7 ∧ v7 = .int .i64 x7_7 ∧ Aside0 (cambiumref26_Sum.l1 kq l0 x4_1 x6_7 x7_7 (wrap64 (x222000_1 + 1)) x222001_25 x222002_9 x222003_19 x222004_1 = some (r1, r2, r3, r4, r5)) ∧ Aside0 (kq ≤ kj25) ∧ Aside0 (w'.heap[gb220]? = some (.cells #[.int .i64 0, .int .i64 0, .int .i64 0, .int .i64 0, .int .i64 0] 29 (0, 0))) ∧ Aside0 (w'.heap[gb221]? = some (.cells #[.int .i64 (wrap64 (x222000_1 + 1)), .int .i64 x222001_25, .int .i64 x222002_9, .int .i64 x222003_19, .int .i64 x222004_1] 29 (0, 0))) ∧ Aside0 (Below w.heap.size w w'))
             case atStart => exact ⟨(true), (0), q11y4, q11y4, H', ⟨Nat.le_refl _⟩, ⟨by (with_reducible repeat (first | refine blk_drewN ?_ _ | refine blk_drew ?_ | refine blk_alloc ?_ _)); refine blk_far ?_ NB220_221.out _; (with_reducible repeat (first | refine blk_drewN ?_ _ | refine blk_drew ?_ | refine blk_alloc ?_ _)); exact BK220.out⟩, ⟨by (with_reducible repeat (first | refine blk_drewN ?_ _ | refine blk_drew ?_ | refine blk_alloc ?_ _)); refine blk_put (cs := #[.int .i64 x222000_1, .int .i64 x222001_25, .int .i64 x222002_9, .int .i64 x222003_19, .int .i64 x222004_1]) ?_ 0 _ rfl; (with_reducible repeat (first | refine blk_drewN ?_ _ | refine blk_drew ?_ | refine blk_alloc ?_ _)); exact BK221.out⟩, ⟨by repeat (first | (with_reducible first | exact HB.out | apply below_alloc | apply pw_below_drewN | apply below_drew1 | refine below_set ?_ GE220.out | refine below_set ?_ GE221.out) | exact HB.out)⟩⟩
             case round =>
              clear H'
              try clear c1
              try clear c2
              try clear p2
              try clear q2
              try clear hx2
              try clear c3
              try clear c4
              try clear c4b0
              try clear c5
              try clear c5b0
              try clear p6
              try clear c7
              try clear c7b0
              try clear c7b1
              try clear c8
              try clear c11
              try clear c12
              try clear c12b0
              try clear c13
              try clear c13b0
              try clear c14
              try clear c17
              try clear c17b0
              try clear c17b1
              try clear c18
              try clear c21
              try clear c22
              try clear p22
              try clear q22
              try clear hx22
              try clear c24
              try clear c24b0
              try clear c25
              try clear c25b0
              try clear c27
              try clear c27b0
              try clear c27b1
              try clear c28
              try clear c30
              try clear hcz15_0 hcz15_1 hcz15_2 hcz15_3 hcz15_4
              try clear hcz19_0 hcz19_1 hcz19_2 hcz19_3 hcz19_4
              try clear hcz23_0 hcz23_1 hcz23_2 hcz23_3 hcz23_4
              try clear hcz29_0 hcz29_1 hcz29_2 hcz29_3 hcz29_4
              try clear hcz31_0 hcz31_1 hcz31_2 hcz31_3 hcz31_4
              try clear hcz9_0 hcz9_1 hcz9_2 hcz9_3 hcz9_4
              try clear hfz15_0 hfz15_1 hfz15_2 hfz15_3 hfz15_4
              try clear hfz19_0 hfz19_1 hfz19_2 hfz19_3 hfz19_4
              try clear hfz23_0 hfz23_1 hfz23_2 hfz23_3 hfz23_4
              try clear hfz29_0 hfz29_1 hfz29_2 hfz29_3 hfz29_4
              try clear hfz31_0 hfz31_1 hfz31_2 hfz31_3 hfz31_4
              try clear hfz9_0 hfz9_1 hfz9_2 hfz9_3 hfz9_4
              try clear hx222_0
              try clear hx222_1
              try clear hx222_10
              try clear hx222_2
              try clear hx222_3
              try clear hx222_4
              try clear hx222_5
              try clear hx222_6
              try clear hx222_7
              try clear hx222_8
              try clear hx222_9
              try clear hx223_0
              try clear hx223_1
              try clear hx223_10
              try clear hx223_2
              try clear hx223_3
              try clear hx223_4
              try clear hx223_5
              try clear hx223_6
              try clear hx223_7
              try clear hx223_8
              try clear hx223_9
              try clear hx224_0
              try clear hx224_1
              try clear hx224_10
              try clear hx224_2
              try clear hx224_3
              try clear hx224_4
              try clear hx224_5
              try clear hx224_6
              try clear hx224_7
              try clear hx224_8
              try clear hx224_9
              try clear hx225_0
              try clear hx225_1
              try clear hx225_10
              try clear hx225_2
              try clear hx225_3
              try clear hx225_4
              try clear hx225_5
              try clear hx225_6
              try clear hx225_7
              try clear hx225_8
              try clear hx225_9
              try clear hx226_0
              try clear hx226_1
              try clear hx226_10
              try clear hx226_2
              try clear hx226_3
              try clear hx226_4
              try clear hx226_5
              try clear hx226_6
              try clear hx226_7
              try clear hx226_8
              try clear hx226_9
              try clear p2
              try clear p22
              try clear p222
              try clear p223
              try clear p224
              try clear p225
              try clear p226
              try clear p6
              try clear q2
              try clear q22
              try clear q222
              try clear q223
              try clear q224
              try clear q225
              try clear q226
              obtain ⟨x6_7, x7_7, rfl, rfl, HA, HK7, BK220, BK221, HB⟩ := hrel
              cases gk with
              | zero => exact absurd HA.out (by simp [cambiumref26_Sum.l1])
              | succ k7 =>
               have H := HA.out
               clear HA
               simp only [cambiumref26_Sum.l1] at H
               by_cases c32 : x7_7 < x4_1
               rotate_left
               ·rw [if_neg c32] at H
                have c32b0 : decide (x7_7 < x4_1) = false := decide_eq_false c32
                clear c32
                by_cases c38 : x6_7 = true
                rotate_left
                ·replace c38 := Bool.eq_false_iff.mpr c38
                 subst c38
                 have H1 : (cambiumref26_Sum.l0 k7 l0 (wrap64 (x4_1 + 1)) (wrap64 (x222000_1 + 1)) x222001_25 x222002_9 x222003_19 x222004_1) = some (r1, r2, r3, r4, r5) := by rw [if_neg (show ¬ (false = true) by decide)] at H; exact H
                 clear H
                 have H := H1
                 clear H1
                 have H' := Aside0.mk H
                 clear H
                 go_wp2
                 repeat (go_quiet (fail); try go_wp2)
                 go_roundg k7
                 case measure => have := HK1.out; have := HJ5.out; have := HJ9.out; have := HJ15.out; have := HJ19.out; have := HJ25.out; have := HK7.out; omega
                 case rel => exact ⟨(wrap64 (x4_1 + 1)), ((wrap64 (x222000_1 + 1))), (x222001_25), (x222002_9), (x222003_19), (x222004_1), q11y4, H', ⟨by have := HK1.out; have := HJ5.out; have := HJ9.out; have := HJ15.out; have := HJ19.out; have := HJ25.out; have := HK7.out; omega⟩, ⟨by (with_reducible repeat (first | refine blk_drewN ?_ _ | refine blk_drew ?_ | refine blk_alloc ?_ _)); exact BK220.out⟩, ⟨by (with_reducible repeat (first | refine blk_drewN ?_ _ | refine blk_drew ?_ | refine blk_alloc ?_ _)); exact BK221.out⟩, ⟨by repeat (first | (with_reducible first | exact HB.out | apply below_alloc | apply pw_below_drewN | apply below_drew1 | refine below_set ?_ GE220.out | refine below_set ?_ GE221.out) | exact HB.out)⟩⟩
                subst c38
                have H1 : (cambiumref26_Sum.l0 k7 l0 (wrap64 (x4_1 + 1)) (wrap64 (x222000_1 + 1)) x222001_25 x222002_9 x222003_19 (wrap64 (x222004_1 + 1))) = some (r1, r2, r3, r4, r5) := by rw [if_pos rfl] at H; exact H
                clear H
                have H := H1
                clear H1
                have H' := Aside0.mk H
                clear H
                have hnb39 := NB221_220.out
                have hnc39 := NB220_221.out
                have hcz40_0 : wr.cell? ⟨gb221, 0, none⟩ = some (.int .i64 (wrap64 (x222000_1 + 1))) := (blk_cell BK221.out 0).trans rfl
                have hcz40_1 : wr.cell? ⟨gb221, 1, none⟩ = some (.int .i64 x222001_25) := (blk_cell BK221.out 1).trans rfl
                have hcz40_2 : wr.cell? ⟨gb221, 2, none⟩ = some (.int .i64 x222002_9) := (blk_cell BK221.out 2).trans rfl
                have hcz40_3 : wr.cell? ⟨gb221, 3, none⟩ = some (.int .i64 x222003_19) := (blk_cell BK221.out 3).trans rfl
                have hcz40_4 : wr.cell? ⟨gb221, 4, none⟩ = some (.int .i64 x222004_1) := (blk_cell BK221.out 4).trans rfl
                have hfz40_0 := blk_frozen BK221.out 0
                have hfz40_1 := blk_frozen BK221.out 1
                have hfz40_2 := blk_frozen BK221.out 2
                have hfz40_3 := blk_frozen BK221.out 3
                have hfz40_4 := blk_frozen BK221.out 4
                go_wp2
                repeat (go_quiet (fail); try go_wp2)
                go_roundg k7
                case measure => have := HK1.out; have := HJ5.out; have := HJ9.out; have := HJ15.out; have := HJ19.out; have := HJ25.out; have := HK7.out; omega
                case rel => exact ⟨(wrap64 (x4_1 + 1)), ((wrap64 (x222000_1 + 1))), (x222001_25), (x222002_9), (x222003_19), (wrap64 (x222004_1 + 1)), q11y4, H', ⟨by have := HK1.out; have := HJ5.out; have := HJ9.out; have := HJ15.out; have := HJ19.out; have := HJ25.out; have := HK7.out; omega⟩, ⟨by (with_reducible repeat (first | refine blk_drewN ?_ _ | refine blk_drew ?_ | refine blk_alloc ?_ _)); refine blk_far ?_ NB220_221.out _; (with_reducible repeat (first | refine blk_drewN ?_ _ | refine blk_drew ?_ | refine blk_alloc ?_ _)); exact BK220.out⟩, ⟨by (with_reducible repeat (first | refine blk_drewN ?_ _ | refine blk_drew ?_ | refine blk_alloc ?_ _)); refine blk_put (cs := #[.int .i64 (wrap64 (x222000_1 + 1)), .int .i64 x222001_25, .int .i64 x222002_9, .int .i64 x222003_19, .int .i64 x222004_1]) ?_ 4 _ rfl; (with_reducible repeat (first | refine blk_drewN ?_ _ | refine blk_drew ?_ | refine blk_alloc ?_ _)); exact BK221.out⟩, ⟨by repeat (first | (with_reducible first | exact HB.out | apply below_alloc | apply pw_below_drewN | apply below_drew1 | refine below_set ?_ GE220.out | refine below_set ?_ GE221.out) | exact HB.out)⟩⟩
               rw [if_pos c32] at H
               have c32b0 : decide (x7_7 < x4_1) = true := decide_eq_true c32
               clear c32
               by_cases c33 : x6_7 = true
               rotate_left
               ·replace c33 := Bool.eq_false_iff.mpr c33
                subst c33
                have H1 : (cambiumref26_Sum.l1 k7 l0 x4_1 false (wrap64 (x7_7 + 1)) (wrap64 (x222000_1 + 1)) x222001_25 x222002_9 x222003_19 x222004_1) = some (r1, r2, r3, r4, r5) := by rw [if_neg (show ¬ (false = true) by decide)] at H; exact H
                clear H
                have H := H1
                clear H1
                have H' := Aside0.mk H
                clear H
                go_wp2
                repeat (go_quiet (fail); try go_wp2)
                go_roundg k7
                case measure => have := HK1.out; have := HJ5.out; have := HJ9.out; have := HJ15.out; have := HJ19.out; have := HJ25.out; have := HK7.out; omega
                case rel => exact ⟨(false), (wrap64 (x7_7 + 1)), q11y4, q11y4, H', ⟨by have := HK1.out; have := HJ5.out; have := HJ9.out; have := HJ15.out; have := HJ19.out; have := HJ25.out; have := HK7.out; omega⟩, ⟨by (with_reducible repeat (first | refine blk_drewN ?_ _ | refine blk_drew ?_ | refine blk_alloc ?_ _)); exact BK220.out⟩, ⟨by (with_reducible repeat (first | refine blk_drewN ?_ _ | refine blk_drew ?_ | refine blk_alloc ?_ _)); exact BK221.out⟩, ⟨by repeat (first | (with_reducible first | exact HB.out | apply below_alloc | apply pw_below_drewN | apply below_drew1 | refine below_set ?_ GE220.out | refine below_set ?_ GE221.out) | exact HB.out)⟩⟩
               subst c33
               have H1 : (if 0 ≤ x7_7 then (if x7_7 < (l0.length : Int) then (if 0 ≤ x4_1 then (if x4_1 < (l0.length : Int) then (cambiumref26_Sum.l1 k7 l0 x4_1 (((rd_T38 l0 x7_7).f3).toList != ((rd_T38 l0 x4_1).f3).toList) (wrap64 (x7_7 + 1)) (wrap64 (x222000_1 + 1)) x222001_25 x222002_9 x222003_19 x222004_1) else (none)) else (none)) else (none)) else (none)) = some (r1, r2, r3, r4, r5) := by rw [if_pos rfl] at H; exact H
               clear H
               have H := H1
               clear H1
               by_cases c34 : 0 ≤ x7_7
               rotate_left
               ·rw [if_neg c34] at H
                exact absurd H (by simp)
               rw [if_pos c34] at H
               have c34b0 : decide (0 ≤ x7_7) = true := decide_eq_true c34
               clear c34
               by_cases c35 : x7_7 < (l0.length : Int)
               rotate_left
               ·rw [if_neg c35] at H
                exact absurd H (by simp)
               rw [if_pos c35] at H
               have c35b0 : decide (x7_7 < (l0.length : Int)) = true := decide_eq_true c35
               clear c35
               by_cases c36 : 0 ≤ x4_1
               rotate_left
               ·rw [if_neg c36] at H
                exact absurd H (by simp)
               rw [if_pos c36] at H
               have c36b0 : decide (0 ≤ x4_1) = true := decide_eq_true c36
               clear c36
               by_cases c37 : x4_1 < (l0.length : Int)
               rotate_left
               ·rw [if_neg c37] at H
                exact absurd H (by simp)
               rw [if_pos c37] at H
               have c37b0 : decide (x4_1 < (l0.length : Int)) = true := decide_eq_true c37
               clear c37
               have H' := Aside0.mk H
               clear H
               have p227 : 0 ≤ (x7_7 : Int) := of_decide_eq_true q11y3
               have q227 : x7_7 < (l0.length : Int) := of_decide_eq_true q11y3
               obtain ⟨ad227, A227_8, c227_8, A227_9, c227_9, A227_10, c227_10, e227, hx227_0, hx227_1, hx227_2, hx227_3, hx227_4, hx227_5, hx227_6, hx227_7, hx227_8, hx227_9, hx227_10, hl227_8, hi227_8, hl227_9, hi227_9, hl227_10, hi227_10⟩ := at_T38 HR0.out x7_7 p227 q227
               obtain rfl : ad222 = ad227 := (by injection e227)
               replace hx227_0 := (HB.out.cell (World.block_lt_of_cell? w _ hx227_0)).trans hx227_0
               replace hx227_1 := (HB.out.cell (World.block_lt_of_cell? w _ hx227_1)).trans hx227_1
               replace hx227_2 := (HB.out.cell (World.block_lt_of_cell? w _ hx227_2)).trans hx227_2
               replace hx227_3 := (HB.out.cell (World.block_lt_of_cell? w _ hx227_3)).trans hx227_3
               replace hx227_4 := (HB.out.cell (World.block_lt_of_cell? w _ hx227_4)).trans hx227_4
               replace hx227_5 := (HB.out.cell (World.block_lt_of_cell? w _ hx227_5)).trans hx227_5
               replace hx227_6 := (HB.out.cell (World.block_lt_of_cell? w _ hx227_6)).trans hx227_6
               replace hx227_7 := (HB.out.cell (World.block_lt_of_cell? w _ hx227_7)).trans hx227_7
               replace hx227_8 := (HB.out.cell (World.block_lt_of_cell? w _ hx227_8)).trans hx227_8
               replace hx227_9 := (HB.out.cell (World.block_lt_of_cell? w _ hx227_9)).trans hx227_9
               replace hx227_10 := (HB.out.cell (World.block_lt_of_cell? w _ hx227_10)).trans hx227_10
               have HR227_8 := Aside0.mk hi227_8
               have HC227_8 := Aside0.mk hl227_8
               clear hi227_8 hl227_8
               have HR227_9 := Aside0.mk hi227_9
               have HC227_9 := Aside0.mk hl227_9
               clear hi227_9 hl227_9
               have HR227_10 := Aside0.mk hi227_10
               have HC227_10 := Aside0.mk hl227_10
               clear hi227_10 hl227_10
               replace p227 := eq_true p227
               replace q227 := eq_true q227
               have p228 : 0 ≤ (x4_1 : Int) := of_decide_eq_true q11y3
               have q228 : x4_1 < (l0.length : Int) := of_decide_eq_true q11y3
               obtain ⟨ad228, A228_8, c228_8, A228_9, c228_9, A228_10, c228_10, e228, hx228_0, hx228_1, hx228_2, hx228_3, hx228_4, hx228_5, hx228_6, hx228_7, hx228_8, hx228_9, hx228_10, hl228_8, hi228_8, hl228_9, hi228_9, hl228_10, hi228_10⟩ := at_T38 HR0.out x4_1 p228 q228
               obtain rfl : ad222 = ad228 := (by injection e228)
               replace hx228_0 := (HB.out.cell (World.block_lt_of_cell? w _ hx228_0)).trans hx228_0
               replace hx228_1 := (HB.out.cell (World.block_lt_of_cell? w _ hx228_1)).trans hx228_1
               replace hx228_2 := (HB.out.cell (World.block_lt_of_cell? w _ hx228_2)).trans hx228_2
               replace hx228_3 := (HB.out.cell (World.block_lt_of_cell? w _ hx228_3)).trans hx228_3
               replace hx228_4 := (HB.out.cell (World.block_lt_of_cell? w _ hx228_4)).trans hx228_4
               replace hx228_5 := (HB.out.cell (World.block_lt_of_cell? w _ hx228_5)).trans hx228_5
               replace hx228_6 := (HB.out.cell (World.block_lt_of_cell? w _ hx228_6)).trans hx228_6
               replace hx228_7 := (HB.out.cell (World.block_lt_of_cell? w _ hx228_7)).trans hx228_7
               replace hx228_8 := (HB.out.cell (World.block_lt_of_cell? w _ hx228_8)).trans hx228_8
               replace hx228_9 := (HB.out.cell (World.block_lt_of_cell? w _ hx228_9)).trans hx228_9
               replace hx228_10 := (HB.out.cell (World.block_lt_of_cell? w _ hx228_10)).trans hx228_10
               have HR228_8 := Aside0.mk hi228_8
               have HC228_8 := Aside0.mk hl228_8
               clear hi228_8 hl228_8
               have HR228_9 := Aside0.mk hi228_9
               have HC228_9 := Aside0.mk hl228_9
               clear hi228_9 hl228_9
               have HR228_10 := Aside0.mk hi228_10
               have HC228_10 := Aside0.mk hl228_10
               clear hi228_10 hl228_10
               replace p228 := eq_true p228
               replace q228 := eq_true q228
               go_wp2
               repeat (go_quiet (fail); try go_wp2)
               go_roundg k7
               case measure => have := HK1.out; have := HJ5.out; have := HJ9.out; have := HJ15.out; have := HJ19.out; have := HJ25.out; have := HK7.out; omega
               case rel => exact ⟨((((rd_T38 l0 x7_7).f3).toList != ((rd_T38 l0 x4_1).f3).toList)), (wrap64 (x7_7 + 1)), q11y4, q11y4, H', ⟨by have := HK1.out; have := HJ5.out; have := HJ9.out; have := HJ15.out; have := HJ19.out; have := HJ25.out; have := HK7.out; omega⟩, ⟨by (with_reducible repeat (first | refine blk_drewN ?_ _ | refine blk_drew ?_ | refine blk_alloc ?_ _)); exact BK220.out⟩, ⟨by (with_reducible repeat (first | refine blk_drewN ?_ _ | refine blk_drew ?_ | refine blk_alloc ?_ _)); exact BK221.out⟩, ⟨by repeat (first | (with_reducible first | exact HB.out | apply below_alloc | apply pw_below_drewN | apply below_drew1 | refine below_set ?_ GE220.out | refine below_set ?_ GE221.out) | exact HB.out)⟩⟩
end Go.Proofs.Ytoigebnhnkdbbaa.PAll
