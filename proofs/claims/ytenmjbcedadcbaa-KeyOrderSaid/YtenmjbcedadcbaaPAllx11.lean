-- Written by a program: the kit's print.py, driven for several laws at once. Not trusted: Lean checks it.
import Derived.Test.YtenmjbcedadcbaaPAllx0
import Derived.Test.YtenmjbcedadcbaaPAllx3
import Derived.Test.YtenmjbcedadcbaaConv
namespace Go.Proofs.Ytenmjbcedadcbaa.PAll
open Go.RowKit Go.Proofs.YtenmjbcedadcbaaW.PrintWords Go.Proofs.YtenmjbcedadcbaaW.PrintLast Go.Proofs.YtenmjbcedadcbaaW.PrintMore
attribute [local go_sem] max2_int min2_int max_two min_two max_three min_three max_four min_four   -- for this text's walks alone
set_option linter.unusedVariables false
set_option linter.unusedSimpArgs false

/-! ### cambiumref18_Before: function 16 -/
def q11m (n m : Nat) : Array Bool := ((List.range n).map (Nat.testBit m)).toArray
theorem q11a {α : Type} (xs : List α) (i : Nat) (x : α) : xs.toArray.setIfInBounds i x = (xs.set i x).toArray := List.setIfInBounds_toArray ..
theorem q11b {α : Type} (x y : α) (xs : List α) : (x :: xs).set 0 y = y :: xs := List.set_cons_zero ..
theorem q11c {α : Type} (x y : α) (xs : List α) (n : Nat) : (x :: xs).set (n + 1) y = x :: xs.set n y := List.set_cons_succ ..
theorem q11h {w w' : World} {p : Addr} {v : Value} (h : Below w.heap.size w w') (x : w.cell? p = some v) : w'.cell? p = some v := (h.cell (World.block_lt_of_cell? w _ x)).trans x
theorem q11p {P : Program} {md : Region.Mode} {ops : Array Oper} {Q : Exit → Act → World → Prop} {S : World → Prop} {ds : List Nat} {T : Bool × List (List Nat × List Nat)} {i : Nat} {N : Option Tmp} {oi : Oper} {v : Value} {fuel : Nat} {l : Array Bool} {a : Act} {w : World} (l' : Array Bool) (hT : rtab md ops = T) {a' : Act}
    (h : wpAnyLast P md ops Q S ds fuel l' a' w) (hi : ops[i]? = some oi := by rfl) (hN : oi.dst = N := by rfl) (hc : anyT T l.toList l'.toList i = true := by kernel_rfl) (hQ : ∀ c a w, Q (.panic c) (a.put oi.dst v) w → Q (.panic c) a w := by exact fun _ _ _ h => h)
    (hw : Region.wanted oi (yielded ops a.tmps) = true := by rfl) (hy : ∀ w', (execOp a.eval oi).run P w' = .ok (.value v) w' := by intro w'; go_simp; with_reducible rfl) (ha : a.put N v = a' := by simp only [Act.put, q11a, q11b, q11c, i64_w, i32_w]; rfl) :
    wpAnyLast P md ops Q S ds (fuel + 1) l a w := pure_ l' hi hN (any_of hT hc) hQ (Or.inl ⟨hw, hy⟩) ha h
theorem q11u {P : Program} {md : Region.Mode} {ops : Array Oper} {Q : Exit → Act → World → Prop} {S : World → Prop} {ds : List Nat} {T : Bool × List (List Nat × List Nat)} {i : Nat} {N : Option Tmp} {oi : Oper} {fuel : Nat} {l : Array Bool} {a : Act} {w : World} (l' : Array Bool) (hT : rtab md ops = T) {a' : Act}
    (h : wpAnyLast P md ops Q S ds fuel l' a' w) (hi : ops[i]? = some oi := by rfl) (hN : oi.dst = N := by rfl) (hc : anyT T l.toList l'.toList i = true := by kernel_rfl) (hQ : ∀ c a w, Q (.panic c) (a.put oi.dst undef) w → Q (.panic c) a w := by exact fun _ _ _ h => h)
    (hw : Region.wanted oi (yielded ops a.tmps) = false := by rfl) (ha : a.put N undef = a' := by simp only [Act.put, q11a, q11b, q11c, i64_w, i32_w]; rfl) :
    wpAnyLast P md ops Q S ds (fuel + 1) l a w := pure_ l' hi hN (any_of hT hc) hQ (Or.inr ⟨hw, rfl⟩) ha h
theorem q11k {w : World} {g : Nat} {cs : Array Value} {t : TypeId} (h : w.heap[g]? = some (.cells cs t (0, 0))) (i : Nat) {v : Value} (e : cs[i]? = some v := by rfl) : w.cell? ⟨g, i, none⟩ = some v := (blk_cell h i).trans e
theorem q11y0 {P : Prop} (h : P := by repeat (first | (with_reducible first | exact HB.out | apply below_alloc | apply pw_below_drewN | apply below_drew1 | refine below_set ?_ GE299.out | refine below_set ?_ GE300.out) | exact HB.out)) : P := h
theorem q11y1 {P : Prop} (h : P := by (with_reducible repeat (first | refine blk_drewN ?_ _ | refine blk_drew ?_ | refine blk_alloc ?_ _)); exact BK299.out) : P := h
theorem q11y2 {P : Prop} (h : P := by (with_reducible repeat (first | refine blk_drewN ?_ _ | refine blk_drew ?_ | refine blk_alloc ?_ _)); exact BK300.out) : P := h
theorem q11y3 {P : Prop} (h : P := by first | decide | exact of_decide_eq_true (by first | (with_reducible assumption) | assumption)) : P := h
theorem q11y4 {P : Prop} (h : P := by repeat (first | (with_reducible first | exact HB.out | apply below_alloc | apply pw_below_drewN | apply below_drew1 | refine below_set ?_ GE299.out) | exact HB.out)) : P := h
theorem q11y5 {P : Prop} (h : P := by first | rfl | (simp; done) | (simp [*]; done)) : P := h
theorem q11y6 {P : Prop} (h : P := by repeat (first | (with_reducible first | exact HB.out | apply below_alloc | apply pw_below_drewN | apply below_drew1) | exact HB.out)) : P := h

mutual
def cambiumref18_Before.j0 : Nat → Int → Bool → Int → Int → Int → ByteArray → ByteArray → Int → Int → Int → List (S51) → List (S53) → List (S58) → Int → Int → Int → ByteArray → ByteArray → Int → Int → Int → List (S51) → List (S53) → List (S58) → Option (Bool)
 | 0, _, _, _, _, _, _, _, _, _, _, _, _, _, _, _, _, _, _, _, _, _, _, _, _ => none
 | k + 1, x0, x12, x300000, x300001, x300002, x300003, x300004, x300005, x300006, x300007, x300008, x300009, x300010, x301000, x301001, x301002, x301003, x301004, x301005, x301006, x301007, x301008, x301009, x301010 => if x12 = true then (if x300003.toList = x301003.toList then (cambiumref18_Before.j1 k x0 x300000 x300001 x300002 x300003 x300004 x300005 x300006 x300007 x300008 x300009 x300010 x301000 x301001 x301002 x301003 x301004 x301005 x301006 x301007 x301008 x301009 x301010) else (if (x300003.size : Int) ≤ 140737488355328 then (if (x301003.size : Int) ≤ 140737488355328 then ((cambiumref01_Less.f k (bytesOf x300003) (bytesOf x301003)).bind fun t307 => (some t307)) else (none)) else (none))) else (cambiumref18_Before.j1 k x0 x300000 x300001 x300002 x300003 x300004 x300005 x300006 x300007 x300008 x300009 x300010 x301000 x301001 x301002 x301003 x301004 x301005 x301006 x301007 x301008 x301009 x301010)
def cambiumref18_Before.j1 : Nat → Int → Int → Int → Int → ByteArray → ByteArray → Int → Int → Int → List (S51) → List (S53) → List (S58) → Int → Int → Int → ByteArray → ByteArray → Int → Int → Int → List (S51) → List (S53) → List (S58) → Option (Bool)
 | 0, _, _, _, _, _, _, _, _, _, _, _, _, _, _, _, _, _, _, _, _, _, _, _ => none
 | k + 1, x0, x300000, x300001, x300002, x300003, x300004, x300005, x300006, x300007, x300008, x300009, x300010, x301000, x301001, x301002, x301003, x301004, x301005, x301006, x301007, x301008, x301009, x301010 => if x0 = 2 then (cambiumref18_Before.j2 k x0 (x300004.toList != x301004.toList) x300000 x300001 x300002 x300003 x300004 x300005 x300006 x300007 x300008 x300009 x300010 x301000 x301001 x301002 x301003 x301004 x301005 x301006 x301007 x301008 x301009 x301010) else (cambiumref18_Before.j2 k x0 false x300000 x300001 x300002 x300003 x300004 x300005 x300006 x300007 x300008 x300009 x300010 x301000 x301001 x301002 x301003 x301004 x301005 x301006 x301007 x301008 x301009 x301010)
def cambiumref18_Before.j2 : Nat → Int → Bool → Int → Int → Int → ByteArray → ByteArray → Int → Int → Int → List (S51) → List (S53) → List (S58) → Int → Int → Int → ByteArray → ByteArray → Int → Int → Int → List (S51) → List (S53) → List (S58) → Option (Bool)
 | 0, _, _, _, _, _, _, _, _, _, _, _, _, _, _, _, _, _, _, _, _, _, _, _, _ => none
 | k + 1, x0, x33, x300000, x300001, x300002, x300003, x300004, x300005, x300006, x300007, x300008, x300009, x300010, x301000, x301001, x301002, x301003, x301004, x301005, x301006, x301007, x301008, x301009, x301010 => if x33 = true then (if (x300004.size : Int) ≤ 140737488355328 then (if (x301004.size : Int) ≤ 140737488355328 then ((cambiumref01_Less.f k (bytesOf x300004) (bytesOf x301004)).bind fun t314 => (some t314)) else (none)) else (none)) else (if x0 = 3 then (cambiumref18_Before.j3 k x0 (x300006 != x301006) x300000 x300001 x300002 x300003 x300004 x300005 x300006 x300007 x300008 x300009 x300010 x301000 x301001 x301002 x301003 x301004 x301005 x301006 x301007 x301008 x301009 x301010) else (cambiumref18_Before.j3 k x0 false x300000 x300001 x300002 x300003 x300004 x300005 x300006 x300007 x300008 x300009 x300010 x301000 x301001 x301002 x301003 x301004 x301005 x301006 x301007 x301008 x301009 x301010))
def cambiumref18_Before.j3 : Nat → Int → Bool → Int → Int → Int → ByteArray → ByteArray → Int → Int → Int → List (S51) → List (S53) → List (S58) → Int → Int → Int → ByteArray → ByteArray → Int → Int → Int → List (S51) → List (S53) → List (S58) → Option (Bool)
 | 0, _, _, _, _, _, _, _, _, _, _, _, _, _, _, _, _, _, _, _, _, _, _, _, _ => none
 | k + 1, x0, x49, x300000, x300001, x300002, x300003, x300004, x300005, x300006, x300007, x300008, x300009, x300010, x301000, x301001, x301002, x301003, x301004, x301005, x301006, x301007, x301008, x301009, x301010 => if x49 = true then (some (decide (x300006 < x301006))) else (if x0 = 3 then (cambiumref18_Before.j4 k false x300000 x300001 x300002 x300003 x300004 x300005 x300006 x300007 x300008 x300009 x300010 x301000 x301001 x301002 x301003 x301004 x301005 x301006 x301007 x301008 x301009 x301010) else (cambiumref18_Before.j4 k (x300005 != x301005) x300000 x300001 x300002 x300003 x300004 x300005 x300006 x300007 x300008 x300009 x300010 x301000 x301001 x301002 x301003 x301004 x301005 x301006 x301007 x301008 x301009 x301010))
def cambiumref18_Before.j4 : Nat → Bool → Int → Int → Int → ByteArray → ByteArray → Int → Int → Int → List (S51) → List (S53) → List (S58) → Int → Int → Int → ByteArray → ByteArray → Int → Int → Int → List (S51) → List (S53) → List (S58) → Option (Bool)
 | 0, _, _, _, _, _, _, _, _, _, _, _, _, _, _, _, _, _, _, _, _, _, _, _ => none
 | k + 1, x63, x300000, x300001, x300002, x300003, x300004, x300005, x300006, x300007, x300008, x300009, x300010, x301000, x301001, x301002, x301003, x301004, x301005, x301006, x301007, x301008, x301009, x301010 => if x63 = true then (some (decide (x300005 < x301005))) else (if x300000 = x301000 then (some (decide (x300001 < x301001))) else (some (decide (x300000 < x301000))))
end
def cambiumref18_Before.f (k : Nat) (a0 : Int) (a1_0 : Int) (a1_1 : Int) (a1_2 : Int) (a1_3 : ByteArray) (a1_4 : ByteArray) (a1_5 : Int) (a1_6 : Int) (a1_7 : Int) (l1_8 : List (S51)) (l1_9 : List (S53)) (l1_10 : List (S58)) (a2_0 : Int) (a2_1 : Int) (a2_2 : Int) (a2_3 : ByteArray) (a2_4 : ByteArray) (a2_5 : Int) (a2_6 : Int) (a2_7 : Int) (l2_8 : List (S51)) (l2_9 : List (S53)) (l2_10 : List (S58)) : Option (Bool) := if a0 = 1 then (cambiumref18_Before.j0 k a0 true a1_0 a1_1 a1_2 a1_3 a1_4 a1_5 a1_6 a1_7 l1_8 l1_9 l1_10 a2_0 a2_1 a2_2 a2_3 a2_4 a2_5 a2_6 a2_7 l2_8 l2_9 l2_10) else (cambiumref18_Before.j0 k a0 (a0 == 2) a1_0 a1_1 a1_2 a1_3 a1_4 a1_5 a1_6 a1_7 l1_8 l1_9 l1_10 a2_0 a2_1 a2_2 a2_3 a2_4 a2_5 a2_6 a2_7 l2_8 l2_9 l2_10)
theorem cambiumref18_Before.mono_l : ∀ k, (∀ y0 y1 y2 y3 y4 y5 y6 y7 y8 y9 y10 y11 y12 y13 y14 y15 y16 y17 y18 y19 y20 y21 y22 y23, LeO (cambiumref18_Before.j0 k y0 y1 y2 y3 y4 y5 y6 y7 y8 y9 y10 y11 y12 y13 y14 y15 y16 y17 y18 y19 y20 y21 y22 y23) (cambiumref18_Before.j0 (k + 1) y0 y1 y2 y3 y4 y5 y6 y7 y8 y9 y10 y11 y12 y13 y14 y15 y16 y17 y18 y19 y20 y21 y22 y23)) ∧ (∀ y0 y1 y2 y3 y4 y5 y6 y7 y8 y9 y10 y11 y12 y13 y14 y15 y16 y17 y18 y19 y20 y21 y22, LeO (cambiumref18_Before.j1 k y0 y1 y2 y3 y4 y5 y6 y7 y8 y9 y10 y11 y12 y13 y14 y15 y16 y17 y18 y19 y20 y21 y22) (cambiumref18_Before.j1 (k + 1) y0 y1 y2 y3 y4 y5 y6 y7 y8 y9 y10 y11 y12 y13 y14 y15 y16 y17 y18 y19 y20 y21 y22)) ∧ (∀ y0 y1 y2 y3 y4 y5 y6 y7 y8 y9 y10 y11 y12 y13 y14 y15 y16 y17 y18 y19 y20 y21 y22 y23, LeO (cambiumref18_Before.j2 k y0 y1 y2 y3 y4 y5 y6 y7 y8 y9 y10 y11 y12 y13 y14 y15 y16 y17 y18 y19 y20 y21 y22 y23) (cambiumref18_Before.j2 (k + 1) y0 y1 y2 y3 y4 y5 y6 y7 y8 y9 y10 y11 y12 y13 y14 y15 y16 y17 y18 y19 y20 y21 y22 y23)) ∧ (∀ y0 y1 y2 y3 y4 y5 y6 y7 y8 y9 y10 y11 y12 y13 y14 y15 y16 y17 y18 y19 y20 y21 y22 y23, LeO (cambiumref18_Before.j3 k y0 y1 y2 y3 y4 y5 y6 y7 y8 y9 y10 y11 y12 y13 y14 y15 y16 y17 y18 y19 y20 y21 y22 y23) (cambiumref18_Before.j3 (k + 1) y0 y1 y2 y3 y4 y5 y6 y7 y8 y9 y10 y11 y12 y13 y14 y15 y16 y17 y18 y19 y20 y21 y22 y23)) ∧ (∀ y0 y1 y2 y3 y4 y5 y6 y7 y8 y9 y10 y11 y12 y13 y14 y15 y16 y17 y18 y19 y20 y21 y22, LeO (cambiumref18_Before.j4 k y0 y1 y2 y3 y4 y5 y6 y7 y8 y9 y10 y11 y12 y13 y14 y15 y16 y17 y18 y19 y20 y21 y22) (cambiumref18_Before.j4 (k + 1) y0 y1 y2 y3 y4 y5 y6 y7 y8 y9 y10 y11 y12 y13 y14 y15 y16 y17 y18 y19 y20 y21 y22))
 | 0 => ⟨fun _ _ _ _ _ _ _ _ _ _ _ _ _ _ _ _ _ _ _ _ _ _ _ _ r h => by simp [cambiumref18_Before.j0] at h, fun _ _ _ _ _ _ _ _ _ _ _ _ _ _ _ _ _ _ _ _ _ _ _ r h => by simp [cambiumref18_Before.j1] at h, fun _ _ _ _ _ _ _ _ _ _ _ _ _ _ _ _ _ _ _ _ _ _ _ _ r h => by simp [cambiumref18_Before.j2] at h, fun _ _ _ _ _ _ _ _ _ _ _ _ _ _ _ _ _ _ _ _ _ _ _ _ r h => by simp [cambiumref18_Before.j3] at h, fun _ _ _ _ _ _ _ _ _ _ _ _ _ _ _ _ _ _ _ _ _ _ _ r h => by simp [cambiumref18_Before.j4] at h⟩
 | k + 1 => by
  obtain ⟨ih0, ih1, ih2, ih3, ih4⟩ := cambiumref18_Before.mono_l k
  refine ⟨?_, ?_, ?_, ?_, ?_⟩
  ·intro y0 y1 y2 y3 y4 y5 y6 y7 y8 y9 y10 y11 y12 y13 y14 y15 y16 y17 y18 y19 y20 y21 y22 y23
   unfold cambiumref18_Before.j0
   repeat' first
   | (with_reducible exact ih0 _ _ _ _ _ _ _ _ _ _ _ _ _ _ _ _ _ _ _ _ _ _ _ _)
   | (with_reducible exact ih1 _ _ _ _ _ _ _ _ _ _ _ _ _ _ _ _ _ _ _ _ _ _ _)
   | (with_reducible exact ih2 _ _ _ _ _ _ _ _ _ _ _ _ _ _ _ _ _ _ _ _ _ _ _ _)
   | (with_reducible exact ih3 _ _ _ _ _ _ _ _ _ _ _ _ _ _ _ _ _ _ _ _ _ _ _ _)
   | (with_reducible exact ih4 _ _ _ _ _ _ _ _ _ _ _ _ _ _ _ _ _ _ _ _ _ _ _)
   | (with_reducible exact cambiumref01_Less.mono _ _ _)
   | (with_reducible exact LeO.refl _)
   | (with_reducible exact LeO.none _)
   | (with_reducible refine LeO.ite ?_ ?_)
   | (with_reducible refine LeO.bind ?_ (fun _ => ?_))
   | exact ih0 _ _ _ _ _ _ _ _ _ _ _ _ _ _ _ _ _ _ _ _ _ _ _ _
   | exact ih1 _ _ _ _ _ _ _ _ _ _ _ _ _ _ _ _ _ _ _ _ _ _ _
   | exact ih2 _ _ _ _ _ _ _ _ _ _ _ _ _ _ _ _ _ _ _ _ _ _ _ _
   | exact ih3 _ _ _ _ _ _ _ _ _ _ _ _ _ _ _ _ _ _ _ _ _ _ _ _
   | exact ih4 _ _ _ _ _ _ _ _ _ _ _ _ _ _ _ _ _ _ _ _ _ _ _
   | exact cambiumref01_Less.mono _ _ _
   | exact LeO.none _
   | refine LeO.ite ?_ ?_
   | refine LeO.bind ?_ (fun _ => ?_)
  ·intro y0 y1 y2 y3 y4 y5 y6 y7 y8 y9 y10 y11 y12 y13 y14 y15 y16 y17 y18 y19 y20 y21 y22
   unfold cambiumref18_Before.j1
   repeat' first
   | (with_reducible exact ih0 _ _ _ _ _ _ _ _ _ _ _ _ _ _ _ _ _ _ _ _ _ _ _ _)
   | (with_reducible exact ih1 _ _ _ _ _ _ _ _ _ _ _ _ _ _ _ _ _ _ _ _ _ _ _)
   | (with_reducible exact ih2 _ _ _ _ _ _ _ _ _ _ _ _ _ _ _ _ _ _ _ _ _ _ _ _)
   | (with_reducible exact ih3 _ _ _ _ _ _ _ _ _ _ _ _ _ _ _ _ _ _ _ _ _ _ _ _)
   | (with_reducible exact ih4 _ _ _ _ _ _ _ _ _ _ _ _ _ _ _ _ _ _ _ _ _ _ _)
   | (with_reducible exact cambiumref01_Less.mono _ _ _)
   | (with_reducible exact LeO.refl _)
   | (with_reducible exact LeO.none _)
   | (with_reducible refine LeO.ite ?_ ?_)
   | (with_reducible refine LeO.bind ?_ (fun _ => ?_))
   | exact ih0 _ _ _ _ _ _ _ _ _ _ _ _ _ _ _ _ _ _ _ _ _ _ _ _
   | exact ih1 _ _ _ _ _ _ _ _ _ _ _ _ _ _ _ _ _ _ _ _ _ _ _
   | exact ih2 _ _ _ _ _ _ _ _ _ _ _ _ _ _ _ _ _ _ _ _ _ _ _ _
   | exact ih3 _ _ _ _ _ _ _ _ _ _ _ _ _ _ _ _ _ _ _ _ _ _ _ _
   | exact ih4 _ _ _ _ _ _ _ _ _ _ _ _ _ _ _ _ _ _ _ _ _ _ _
   | exact cambiumref01_Less.mono _ _ _
   | exact LeO.none _
   | refine LeO.ite ?_ ?_
   | refine LeO.bind ?_ (fun _ => ?_)
  ·intro y0 y1 y2 y3 y4 y5 y6 y7 y8 y9 y10 y11 y12 y13 y14 y15 y16 y17 y18 y19 y20 y21 y22 y23
   unfold cambiumref18_Before.j2
   repeat' first
   | (with_reducible exact ih0 _ _ _ _ _ _ _ _ _ _ _ _ _ _ _ _ _ _ _ _ _ _ _ _)
   | (with_reducible exact ih1 _ _ _ _ _ _ _ _ _ _ _ _ _ _ _ _ _ _ _ _ _ _ _)
   | (with_reducible exact ih2 _ _ _ _ _ _ _ _ _ _ _ _ _ _ _ _ _ _ _ _ _ _ _ _)
   | (with_reducible exact ih3 _ _ _ _ _ _ _ _ _ _ _ _ _ _ _ _ _ _ _ _ _ _ _ _)
   | (with_reducible exact ih4 _ _ _ _ _ _ _ _ _ _ _ _ _ _ _ _ _ _ _ _ _ _ _)
   | (with_reducible exact cambiumref01_Less.mono _ _ _)
   | (with_reducible exact LeO.refl _)
   | (with_reducible exact LeO.none _)
   | (with_reducible refine LeO.ite ?_ ?_)
   | (with_reducible refine LeO.bind ?_ (fun _ => ?_))
   | exact ih0 _ _ _ _ _ _ _ _ _ _ _ _ _ _ _ _ _ _ _ _ _ _ _ _
   | exact ih1 _ _ _ _ _ _ _ _ _ _ _ _ _ _ _ _ _ _ _ _ _ _ _
   | exact ih2 _ _ _ _ _ _ _ _ _ _ _ _ _ _ _ _ _ _ _ _ _ _ _ _
   | exact ih3 _ _ _ _ _ _ _ _ _ _ _ _ _ _ _ _ _ _ _ _ _ _ _ _
   | exact ih4 _ _ _ _ _ _ _ _ _ _ _ _ _ _ _ _ _ _ _ _ _ _ _
   | exact cambiumref01_Less.mono _ _ _
   | exact LeO.none _
   | refine LeO.ite ?_ ?_
   | refine LeO.bind ?_ (fun _ => ?_)
  ·intro y0 y1 y2 y3 y4 y5 y6 y7 y8 y9 y10 y11 y12 y13 y14 y15 y16 y17 y18 y19 y20 y21 y22 y23
   unfold cambiumref18_Before.j3
   repeat' first
   | (with_reducible exact ih0 _ _ _ _ _ _ _ _ _ _ _ _ _ _ _ _ _ _ _ _ _ _ _ _)
   | (with_reducible exact ih1 _ _ _ _ _ _ _ _ _ _ _ _ _ _ _ _ _ _ _ _ _ _ _)
   | (with_reducible exact ih2 _ _ _ _ _ _ _ _ _ _ _ _ _ _ _ _ _ _ _ _ _ _ _ _)
   | (with_reducible exact ih3 _ _ _ _ _ _ _ _ _ _ _ _ _ _ _ _ _ _ _ _ _ _ _ _)
   | (with_reducible exact ih4 _ _ _ _ _ _ _ _ _ _ _ _ _ _ _ _ _ _ _ _ _ _ _)
   | (with_reducible exact cambiumref01_Less.mono _ _ _)
   | (with_reducible exact LeO.refl _)
   | (with_reducible exact LeO.none _)
   | (with_reducible refine LeO.ite ?_ ?_)
   | (with_reducible refine LeO.bind ?_ (fun _ => ?_))
   | exact ih0 _ _ _ _ _ _ _ _ _ _ _ _ _ _ _ _ _ _ _ _ _ _ _ _
   | exact ih1 _ _ _ _ _ _ _ _ _ _ _ _ _ _ _ _ _ _ _ _ _ _ _
   | exact ih2 _ _ _ _ _ _ _ _ _ _ _ _ _ _ _ _ _ _ _ _ _ _ _ _
   | exact ih3 _ _ _ _ _ _ _ _ _ _ _ _ _ _ _ _ _ _ _ _ _ _ _ _
   | exact ih4 _ _ _ _ _ _ _ _ _ _ _ _ _ _ _ _ _ _ _ _ _ _ _
   | exact cambiumref01_Less.mono _ _ _
   | exact LeO.none _
   | refine LeO.ite ?_ ?_
   | refine LeO.bind ?_ (fun _ => ?_)
  ·intro y0 y1 y2 y3 y4 y5 y6 y7 y8 y9 y10 y11 y12 y13 y14 y15 y16 y17 y18 y19 y20 y21 y22
   unfold cambiumref18_Before.j4
   repeat' first
   | (with_reducible exact ih0 _ _ _ _ _ _ _ _ _ _ _ _ _ _ _ _ _ _ _ _ _ _ _ _)
   | (with_reducible exact ih1 _ _ _ _ _ _ _ _ _ _ _ _ _ _ _ _ _ _ _ _ _ _ _)
   | (with_reducible exact ih2 _ _ _ _ _ _ _ _ _ _ _ _ _ _ _ _ _ _ _ _ _ _ _ _)
   | (with_reducible exact ih3 _ _ _ _ _ _ _ _ _ _ _ _ _ _ _ _ _ _ _ _ _ _ _ _)
   | (with_reducible exact ih4 _ _ _ _ _ _ _ _ _ _ _ _ _ _ _ _ _ _ _ _ _ _ _)
   | (with_reducible exact cambiumref01_Less.mono _ _ _)
   | (with_reducible exact LeO.refl _)
   | (with_reducible exact LeO.none _)
   | (with_reducible refine LeO.ite ?_ ?_)
   | (with_reducible refine LeO.bind ?_ (fun _ => ?_))
   | exact ih0 _ _ _ _ _ _ _ _ _ _ _ _ _ _ _ _ _ _ _ _ _ _ _ _
   | exact ih1 _ _ _ _ _ _ _ _ _ _ _ _ _ _ _ _ _ _ _ _ _ _ _
   | exact ih2 _ _ _ _ _ _ _ _ _ _ _ _ _ _ _ _ _ _ _ _ _ _ _ _
   | exact ih3 _ _ _ _ _ _ _ _ _ _ _ _ _ _ _ _ _ _ _ _ _ _ _ _
   | exact ih4 _ _ _ _ _ _ _ _ _ _ _ _ _ _ _ _ _ _ _ _ _ _ _
   | exact cambiumref01_Less.mono _ _ _
   | exact LeO.none _
   | refine LeO.ite ?_ ?_
   | refine LeO.bind ?_ (fun _ => ?_)
theorem cambiumref18_Before.mono : ∀ a0 a1 a2 a3 a4 a5 a6 a7 a8 a9 a10 a11 a12 a13 a14 a15 a16 a17 a18 a19 a20 a21 a22 k, LeO (cambiumref18_Before.f k a0 a1 a2 a3 a4 a5 a6 a7 a8 a9 a10 a11 a12 a13 a14 a15 a16 a17 a18 a19 a20 a21 a22) (cambiumref18_Before.f (k + 1) a0 a1 a2 a3 a4 a5 a6 a7 a8 a9 a10 a11 a12 a13 a14 a15 a16 a17 a18 a19 a20 a21 a22) := by
 intro a0 a1 a2 a3 a4 a5 a6 a7 a8 a9 a10 a11 a12 a13 a14 a15 a16 a17 a18 a19 a20 a21 a22 k
 obtain ⟨ih0, ih1, ih2, ih3, ih4⟩ := cambiumref18_Before.mono_l k
 unfold cambiumref18_Before.f
 repeat' first
   | (with_reducible exact ih0 _ _ _ _ _ _ _ _ _ _ _ _ _ _ _ _ _ _ _ _ _ _ _ _)
   | (with_reducible exact ih1 _ _ _ _ _ _ _ _ _ _ _ _ _ _ _ _ _ _ _ _ _ _ _)
   | (with_reducible exact ih2 _ _ _ _ _ _ _ _ _ _ _ _ _ _ _ _ _ _ _ _ _ _ _ _)
   | (with_reducible exact ih3 _ _ _ _ _ _ _ _ _ _ _ _ _ _ _ _ _ _ _ _ _ _ _ _)
   | (with_reducible exact ih4 _ _ _ _ _ _ _ _ _ _ _ _ _ _ _ _ _ _ _ _ _ _ _)
   | (with_reducible exact cambiumref01_Less.mono _ _ _)
   | (with_reducible exact LeO.refl _)
   | (with_reducible exact LeO.none _)
   | (with_reducible refine LeO.ite ?_ ?_)
   | (with_reducible refine LeO.bind ?_ (fun _ => ?_))
   | exact ih0 _ _ _ _ _ _ _ _ _ _ _ _ _ _ _ _ _ _ _ _ _ _ _ _
   | exact ih1 _ _ _ _ _ _ _ _ _ _ _ _ _ _ _ _ _ _ _ _ _ _ _
   | exact ih2 _ _ _ _ _ _ _ _ _ _ _ _ _ _ _ _ _ _ _ _ _ _ _ _
   | exact ih3 _ _ _ _ _ _ _ _ _ _ _ _ _ _ _ _ _ _ _ _ _ _ _ _
   | exact ih4 _ _ _ _ _ _ _ _ _ _ _ _ _ _ _ _ _ _ _ _ _ _ _
   | exact cambiumref01_Less.mono _ _ _
   | exact LeO.none _
   | refine LeO.ite ?_ ?_
   | refine LeO.bind ?_ (fun _ => ?_)
set_option maxHeartbeats 8000000 in
set_option maxRecDepth 100000 in
theorem cambiumref18_Before.calls (k : Nat) (a0 : Int) (a1_0 : Int) (a1_1 : Int) (a1_2 : Int) (a1_3 : ByteArray) (a1_4 : ByteArray) (a1_5 : Int) (a1_6 : Int) (a1_7 : Int) (A1_8 : Option Addr) (c1_8 : Nat) (l1_8 : List (S51)) (A1_9 : Option Addr) (c1_9 : Nat) (l1_9 : List (S53)) (A1_10 : Option Addr) (c1_10 : Nat) (l1_10 : List (S58)) (a2_0 : Int) (a2_1 : Int) (a2_2 : Int) (a2_3 : ByteArray) (a2_4 : ByteArray) (a2_5 : Int) (a2_6 : Int) (a2_7 : Int) (A2_8 : Option Addr) (c2_8 : Nat) (l2_8 : List (S51)) (A2_9 : Option Addr) (c2_9 : Nat) (l2_9 : List (S53)) (A2_10 : Option Addr) (c2_10 : Nat) (l2_10 : List (S58)) (r : Bool) (w : World) (hr1_8 : Kd.C k51 w A1_8 l1_8.length l1_8) (hc1_8 : l1_8.length ≤ c1_8) (hr1_9 : Kd.C k53 w A1_9 l1_9.length l1_9) (hc1_9 : l1_9.length ≤ c1_9) (hr1_10 : Kd.C k58 w A1_10 l1_10.length l1_10) (hc1_10 : l1_10.length ≤ c1_10) (hr2_8 : Kd.C k51 w A2_8 l2_8.length l2_8) (hc2_8 : l2_8.length ≤ c2_8) (hr2_9 : Kd.C k53 w A2_9 l2_9.length l2_9) (hc2_9 : l2_9.length ≤ c2_9) (hr2_10 : Kd.C k58 w A2_10 l2_10.length l2_10) (hc2_10 : l2_10.length ≤ c2_10) (h : cambiumref18_Before.f k a0 a1_0 a1_1 a1_2 a1_3 a1_4 a1_5 a1_6 a1_7 l1_8 l1_9 l1_10 a2_0 a2_1 a2_2 a2_3 a2_4 a2_5 a2_6 a2_7 l2_8 l2_9 l2_10 = some r) :
  Calls Try.prog 16 #[.int .i64 a0, .agg #[.int .u64 a1_0, .int .u64 a1_1, .int .u64 a1_2, .string a1_3, .string a1_4, .int .i64 a1_5, .int .i64 a1_6, .int .i64 a1_7, .slice A1_8 l1_8.length c1_8, .slice A1_9 l1_9.length c1_9, .slice A1_10 l1_10.length c1_10], .agg #[.int .u64 a2_0, .int .u64 a2_1, .int .u64 a2_2, .string a2_3, .string a2_4, .int .i64 a2_5, .int .i64 a2_6, .int .i64 a2_7, .slice A2_8 l2_8.length c2_8, .slice A2_9 l2_9.length c2_9, .slice A2_10 l2_10.length c2_10]] w fun e w' => e = .returned (.bool r) ∧ Below w.heap.size w w' := by
 have hu34 := Try.underlying34
 have HR1_8 := Aside0.mk hr1_8
 have HC1_8 := Aside0.mk hc1_8
 clear hr1_8 hc1_8
 have HR1_9 := Aside0.mk hr1_9
 have HC1_9 := Aside0.mk hc1_9
 clear hr1_9 hc1_9
 have HR1_10 := Aside0.mk hr1_10
 have HC1_10 := Aside0.mk hc1_10
 clear hr1_10 hc1_10
 have HR2_8 := Aside0.mk hr2_8
 have HC2_8 := Aside0.mk hc2_8
 clear hr2_8 hc2_8
 have HR2_9 := Aside0.mk hr2_9
 have HC2_9 := Aside0.mk hc2_9
 clear hr2_9 hc2_9
 have HR2_10 := Aside0.mk hr2_10
 have HC2_10 := Aside0.mk hc2_10
 clear hr2_10 hc2_10
 have HB := Aside0.mk (Below.refl w.heap.size w)
 have H : (if a0 = 1 then (cambiumref18_Before.j0 k a0 true a1_0 a1_1 a1_2 a1_3 a1_4 a1_5 a1_6 a1_7 l1_8 l1_9 l1_10 a2_0 a2_1 a2_2 a2_3 a2_4 a2_5 a2_6 a2_7 l2_8 l2_9 l2_10) else (cambiumref18_Before.j0 k a0 (a0 == 2) a1_0 a1_1 a1_2 a1_3 a1_4 a1_5 a1_6 a1_7 l1_8 l1_9 l1_10 a2_0 a2_1 a2_2 a2_3 a2_4 a2_5 a2_6 a2_7 l2_8 l2_9 l2_10)) = some r := h
 clear h
 have HC4 := Aside0.mk H
 clear H
 go_enter Try.func16, Try.ntmps16
 go_upto_region 1 with (first | ((with_reducible refine gate_dst (N := 4) rfl ?_); refine box_event ?hg (N := 4) ?hd (cs := #[.int .u64 a1_0, .int .u64 a1_1, .int .u64 a1_2, .string a1_3, .string a1_4, .int .i64 a1_5, .int .i64 a1_6, .int .i64 a1_7, .slice A1_8 l1_8.length c1_8, .slice A1_9 l1_9.length c1_9, .slice A1_10 l1_10.length c1_10]) (t := 34) ?hr ?_; (case hd => rfl); (case hg => rfl); (case hr => first | (go_simp; done) | (go_simp; rfl)); intro gb299 hg w5 hbox hb; have n0_ := Aside0.mk (below_step q11y6 hb); have n1_ := Aside0.mk (hbox); have n2_ := Aside0.mk ((by rw [hg]; exact (below_size q11y6) : w.heap.size ≤ gb299)); have n3_ := Aside0.mk ((by rw [hg]; exact (below_size q11y6) : w.heap.size ≤ gb299)); clear HB; have HB := n0_; have BK299 := n1_; have GW299 := n2_; have GE299 := n3_; clear n0_ n1_ n2_ n3_; clear hb hbox hg) | ((with_reducible refine gate_dst (N := 5) rfl ?_); refine box_event ?hg (N := 5) ?hd (cs := #[.int .u64 a2_0, .int .u64 a2_1, .int .u64 a2_2, .string a2_3, .string a2_4, .int .i64 a2_5, .int .i64 a2_6, .int .i64 a2_7, .slice A2_8 l2_8.length c2_8, .slice A2_9 l2_9.length c2_9, .slice A2_10 l2_10.length c2_10]) (t := 34) ?hr ?_; (case hd => rfl); (case hg => rfl); (case hr => first | (go_simp; done) | (go_simp; rfl)); intro gb300 hg w6 hbox hb; have n0_ := Aside0.mk (blk_below (g := gb299) (o := .cells #[.int .u64 a1_0, .int .u64 a1_1, .int .u64 a1_2, .string a1_3, .string a1_4, .int .i64 a1_5, .int .i64 a1_6, .int .i64 a1_7, .slice A1_8 l1_8.length c1_8, .slice A1_9 l1_9.length c1_9, .slice A1_10 l1_10.length c1_10] 34 (0, 0)) q11y1 hb); have n1_ := Aside0.mk (below_step q11y4 hb); have n2_ := Aside0.mk (hbox); have n3_ := Aside0.mk ((by rw [hg]; exact (below_size q11y4) : w.heap.size ≤ gb300)); have n4_ := Aside0.mk ((by rw [hg]; exact (below_size q11y4) : w.heap.size ≤ gb300)); have n5_ := Aside0.mk ((by rw [hg]; exact Nat.ne_of_lt (blk_lt (g := gb299) (o := .cells #[.int .u64 a1_0, .int .u64 a1_1, .int .u64 a1_2, .string a1_3, .string a1_4, .int .i64 a1_5, .int .i64 a1_6, .int .i64 a1_7, .slice A1_8 l1_8.length c1_8, .slice A1_9 l1_9.length c1_9, .slice A1_10 l1_10.length c1_10] 34 (0, 0)) q11y1) : gb299 ≠ gb300)); have n6_ := Aside0.mk ((by rw [hg]; exact Nat.ne_of_gt (blk_lt (g := gb299) (o := .cells #[.int .u64 a1_0, .int .u64 a1_1, .int .u64 a1_2, .string a1_3, .string a1_4, .int .i64 a1_5, .int .i64 a1_6, .int .i64 a1_7, .slice A1_8 l1_8.length c1_8, .slice A1_9 l1_9.length c1_9, .slice A1_10 l1_10.length c1_10] 34 (0, 0)) q11y1) : gb300 ≠ gb299)); clear BK299; clear HB; have BK299 := n0_; have HB := n1_; have BK300 := n2_; have GW300 := n3_; have GE300 := n4_; have NB299_300 := n5_; have NB300_299 := n6_; clear n0_ n1_ n2_ n3_ n4_ n5_ n6_; clear hb hbox hg))
 (try simp only [Act.put, q11a, q11b, q11c])
 go_cut [12] (fun v12 wc => ∃ (kq : Nat) (x12_3 : Bool), v12 = .bool x12_3 ∧ Aside0 (cambiumref18_Before.j0 kq a0 x12_3 a1_0 a1_1 a1_2 a1_3 a1_4 a1_5 a1_6 a1_7 l1_8 l1_9 l1_10 a2_0 a2_1 a2_2 a2_3 a2_4 a2_5 a2_6 a2_7 l2_8 l2_9 l2_10 = some r) ∧ Aside0 (kq ≤ k) ∧ Aside0 (wc.heap[gb299]? = some (.cells #[.int .u64 a1_0, .int .u64 a1_1, .int .u64 a1_2, .string a1_3, .string a1_4, .int .i64 a1_5, .int .i64 a1_6, .int .i64 a1_7, (.slice A1_8 l1_8.length c1_8), (.slice A1_9 l1_9.length c1_9), (.slice A1_10 l1_10.length c1_10)] 34 (0, 0))) ∧ Aside0 (wc.heap[gb300]? = some (.cells #[.int .u64 a2_0, .int .u64 a2_1, .int .u64 a2_2, .string a2_3, .string a2_4, .int .i64 a2_5, .int .i64 a2_6, .int .i64 a2_7, (.slice A2_8 l2_8.length c2_8), (.slice A2_9 l2_9.length c2_9), (.slice A2_10 l2_10.length c2_10)] 34 (0, 0))) ∧ Aside0 (Below w.heap.size w wc))
 case first =>
  have H := HC4.out
  clear HC4
  by_cases c7 : a0 = 1
  rotate_left
  ·rw [if_neg c7] at H
   have c7b0 : (a0 == 1) = false := beq_eq_false_iff_ne.mpr c7
   have c7b1 : (a0 != 1) = true := bne_iff_ne.mpr c7
   (first | rw [c7b0] | (simp only [i64_w, i32_w]; rw [c7b0]) | skip)
   have H' := Aside0.mk H
   clear H
   go_wp2
   go_meet
   case rel => exact ⟨_, ((a0 == 2)), q11y5, H', ⟨by first | omega | exact Nat.le_refl _⟩, ⟨by (with_reducible repeat (first | refine blk_drewN ?_ _ | refine blk_drew ?_ | refine blk_alloc ?_ _)); exact BK299.out⟩, ⟨by (with_reducible repeat (first | refine blk_drewN ?_ _ | refine blk_drew ?_ | refine blk_alloc ?_ _)); exact BK300.out⟩, ⟨by repeat (first | (with_reducible first | exact HB.out | apply below_alloc | apply pw_below_drewN | apply below_drew1 | refine below_set ?_ GE299.out | refine below_set ?_ GE300.out) | exact HB.out)⟩⟩
  rw [if_pos c7] at H
  have c7b0 : (a0 == 1) = true := beq_iff_eq.mpr c7
  have c7b1 : (a0 != 1) = false := bne_eq_false_iff_eq.mpr c7
  clear c7
  (first | rw [c7b0] | (simp only [i64_w, i32_w]; rw [c7b0]) | skip)
  have H' := Aside0.mk H
  clear H
  go_wp2
  go_meet
  case rel => exact ⟨_, (true), q11y5, H', ⟨by first | omega | exact Nat.le_refl _⟩, ⟨by (with_reducible repeat (first | refine blk_drewN ?_ _ | refine blk_drew ?_ | refine blk_alloc ?_ _)); exact BK299.out⟩, ⟨by (with_reducible repeat (first | refine blk_drewN ?_ _ | refine blk_drew ?_ | refine blk_alloc ?_ _)); exact BK300.out⟩, ⟨by repeat (first | (with_reducible first | exact HB.out | apply below_alloc | apply pw_below_drewN | apply below_drew1 | refine below_set ?_ GE299.out | refine below_set ?_ GE300.out) | exact HB.out)⟩⟩
 case rest =>
  clear HC4
  try clear c1
  try clear c2
  try clear p2
  try clear c7
  try clear c7b0
  try clear c7b1
  obtain ⟨kq, x12_3, rfl, HA, HJ3, BK299, BK300, HB⟩ := hcut
  cases kq with
  | zero => exact absurd HA.out (by simp [cambiumref18_Before.j0])
  | succ kj3 =>
   have H := HA.out
   clear HA
   simp only [cambiumref18_Before.j0] at H
   have HC8 := Aside0.mk H
   clear H
   go_upto_if 12 with (fail)
   go_cut [] (fun wc => ∃ (kq : Nat), Aside0 (cambiumref18_Before.j1 kq a0 a1_0 a1_1 a1_2 a1_3 a1_4 a1_5 a1_6 a1_7 l1_8 l1_9 l1_10 a2_0 a2_1 a2_2 a2_3 a2_4 a2_5 a2_6 a2_7 l2_8 l2_9 l2_10 = some r) ∧ Aside0 (kq ≤ kj3) ∧ Aside0 (wc.heap[gb299]? = some (.cells #[.int .u64 a1_0, .int .u64 a1_1, .int .u64 a1_2, .string a1_3, .string a1_4, .int .i64 a1_5, .int .i64 a1_6, .int .i64 a1_7, (.slice A1_8 l1_8.length c1_8), (.slice A1_9 l1_9.length c1_9), (.slice A1_10 l1_10.length c1_10)] 34 (0, 0))) ∧ Aside0 (wc.heap[gb300]? = some (.cells #[.int .u64 a2_0, .int .u64 a2_1, .int .u64 a2_2, .string a2_3, .string a2_4, .int .i64 a2_5, .int .i64 a2_6, .int .i64 a2_7, (.slice A2_8 l2_8.length c2_8), (.slice A2_9 l2_9.length c2_9), (.slice A2_10 l2_10.length c2_10)] 34 (0, 0))) ∧ Aside0 (Below w.heap.size w wc))
   case first =>
    have H := HC8.out
    clear HC8
    by_cases c9 : x12_3 = true
    rotate_left
    ·replace c9 := Bool.eq_false_iff.mpr c9
     subst c9
     have H1 : (cambiumref18_Before.j1 kj3 a0 a1_0 a1_1 a1_2 a1_3 a1_4 a1_5 a1_6 a1_7 l1_8 l1_9 l1_10 a2_0 a2_1 a2_2 a2_3 a2_4 a2_5 a2_6 a2_7 l2_8 l2_9 l2_10) = some r := by rw [if_neg (show ¬ (false = true) by decide)] at H; exact H
     clear H
     have H := H1
     clear H1
     have H' := Aside0.mk H
     clear H
     go_wp2
     go_meet
     case rel => exact ⟨_, H', ⟨by have := HJ3.out; first | omega | exact Nat.le_refl _⟩, ⟨by (with_reducible repeat (first | refine blk_drewN ?_ _ | refine blk_drew ?_ | refine blk_alloc ?_ _)); exact BK299.out⟩, ⟨by (with_reducible repeat (first | refine blk_drewN ?_ _ | refine blk_drew ?_ | refine blk_alloc ?_ _)); exact BK300.out⟩, ⟨by repeat (first | (with_reducible first | exact HB.out | apply below_alloc | apply pw_below_drewN | apply below_drew1 | refine below_set ?_ GE299.out | refine below_set ?_ GE300.out) | exact HB.out)⟩⟩
    subst c9
    have H1 : (if a1_3.toList = a2_3.toList then (cambiumref18_Before.j1 kj3 a0 a1_0 a1_1 a1_2 a1_3 a1_4 a1_5 a1_6 a1_7 l1_8 l1_9 l1_10 a2_0 a2_1 a2_2 a2_3 a2_4 a2_5 a2_6 a2_7 l2_8 l2_9 l2_10) else (if (a1_3.size : Int) ≤ 140737488355328 then (if (a2_3.size : Int) ≤ 140737488355328 then ((cambiumref01_Less.f kj3 (bytesOf a1_3) (bytesOf a2_3)).bind fun t307 => (some t307)) else (none)) else (none))) = some r := by rw [if_pos rfl] at H; exact H
    clear H
    have H := H1
    clear H1
    by_cases c10 : a1_3.toList = a2_3.toList
    ·rw [if_pos c10] at H
     have c10b0 : (a1_3.toList == a2_3.toList) = true := beq_iff_eq.mpr c10
     have c10b1 : (a1_3.toList != a2_3.toList) = false := bne_eq_false_iff_eq.mpr c10
     clear c10
     (first | rw [c10b0] | (simp only [i64_w, i32_w]; rw [c10b0]) | skip)
     have H' := Aside0.mk H
     clear H
     have hnb11 := NB299_300.out
     have hnc11 := NB300_299.out
     have hcz12_0 : wc.cell? ⟨gb299, 0, none⟩ = some (.int .u64 a1_0) := (blk_cell BK299.out 0).trans rfl
     have hcz12_1 : wc.cell? ⟨gb299, 1, none⟩ = some (.int .u64 a1_1) := (blk_cell BK299.out 1).trans rfl
     have hcz12_2 : wc.cell? ⟨gb299, 2, none⟩ = some (.int .u64 a1_2) := (blk_cell BK299.out 2).trans rfl
     have hcz12_3 : wc.cell? ⟨gb299, 3, none⟩ = some (.string a1_3) := (blk_cell BK299.out 3).trans rfl
     have hcz12_4 : wc.cell? ⟨gb299, 4, none⟩ = some (.string a1_4) := (blk_cell BK299.out 4).trans rfl
     have hcz12_5 : wc.cell? ⟨gb299, 5, none⟩ = some (.int .i64 a1_5) := (blk_cell BK299.out 5).trans rfl
     have hcz12_6 : wc.cell? ⟨gb299, 6, none⟩ = some (.int .i64 a1_6) := (blk_cell BK299.out 6).trans rfl
     have hcz12_7 : wc.cell? ⟨gb299, 7, none⟩ = some (.int .i64 a1_7) := (blk_cell BK299.out 7).trans rfl
     have hcz12_8 : wc.cell? ⟨gb299, 8, none⟩ = some (.slice A1_8 l1_8.length c1_8) := (blk_cell BK299.out 8).trans rfl
     have hcz12_9 : wc.cell? ⟨gb299, 9, none⟩ = some (.slice A1_9 l1_9.length c1_9) := (blk_cell BK299.out 9).trans rfl
     have hcz12_10 : wc.cell? ⟨gb299, 10, none⟩ = some (.slice A1_10 l1_10.length c1_10) := (blk_cell BK299.out 10).trans rfl
     have hfz12_0 := blk_frozen BK299.out 0
     have hfz12_1 := blk_frozen BK299.out 1
     have hfz12_2 := blk_frozen BK299.out 2
     have hfz12_3 := blk_frozen BK299.out 3
     have hfz12_4 := blk_frozen BK299.out 4
     have hfz12_5 := blk_frozen BK299.out 5
     have hfz12_6 := blk_frozen BK299.out 6
     have hfz12_7 := blk_frozen BK299.out 7
     have hfz12_8 := blk_frozen BK299.out 8
     have hfz12_9 := blk_frozen BK299.out 9
     have hfz12_10 := blk_frozen BK299.out 10
     have hcz13_0 : wc.cell? ⟨gb300, 0, none⟩ = some (.int .u64 a2_0) := (blk_cell BK300.out 0).trans rfl
     have hcz13_1 : wc.cell? ⟨gb300, 1, none⟩ = some (.int .u64 a2_1) := (blk_cell BK300.out 1).trans rfl
     have hcz13_2 : wc.cell? ⟨gb300, 2, none⟩ = some (.int .u64 a2_2) := (blk_cell BK300.out 2).trans rfl
     have hcz13_3 : wc.cell? ⟨gb300, 3, none⟩ = some (.string a2_3) := (blk_cell BK300.out 3).trans rfl
     have hcz13_4 : wc.cell? ⟨gb300, 4, none⟩ = some (.string a2_4) := (blk_cell BK300.out 4).trans rfl
     have hcz13_5 : wc.cell? ⟨gb300, 5, none⟩ = some (.int .i64 a2_5) := (blk_cell BK300.out 5).trans rfl
     have hcz13_6 : wc.cell? ⟨gb300, 6, none⟩ = some (.int .i64 a2_6) := (blk_cell BK300.out 6).trans rfl
     have hcz13_7 : wc.cell? ⟨gb300, 7, none⟩ = some (.int .i64 a2_7) := (blk_cell BK300.out 7).trans rfl
     have hcz13_8 : wc.cell? ⟨gb300, 8, none⟩ = some (.slice A2_8 l2_8.length c2_8) := (blk_cell BK300.out 8).trans rfl
     have hcz13_9 : wc.cell? ⟨gb300, 9, none⟩ = some (.slice A2_9 l2_9.length c2_9) := (blk_cell BK300.out 9).trans rfl
     have hcz13_10 : wc.cell? ⟨gb300, 10, none⟩ = some (.slice A2_10 l2_10.length c2_10) := (blk_cell BK300.out 10).trans rfl
     have hfz13_0 := blk_frozen BK300.out 0
     have hfz13_1 := blk_frozen BK300.out 1
     have hfz13_2 := blk_frozen BK300.out 2
     have hfz13_3 := blk_frozen BK300.out 3
     have hfz13_4 := blk_frozen BK300.out 4
     have hfz13_5 := blk_frozen BK300.out 5
     have hfz13_6 := blk_frozen BK300.out 6
     have hfz13_7 := blk_frozen BK300.out 7
     have hfz13_8 := blk_frozen BK300.out 8
     have hfz13_9 := blk_frozen BK300.out 9
     have hfz13_10 := blk_frozen BK300.out 10
     go_wp2
     go_meet
     case rel => exact ⟨_, H', ⟨by have := HJ3.out; first | omega | exact Nat.le_refl _⟩, ⟨by (with_reducible repeat (first | refine blk_drewN ?_ _ | refine blk_drew ?_ | refine blk_alloc ?_ _)); exact BK299.out⟩, ⟨by (with_reducible repeat (first | refine blk_drewN ?_ _ | refine blk_drew ?_ | refine blk_alloc ?_ _)); exact BK300.out⟩, ⟨by repeat (first | (with_reducible first | exact HB.out | apply below_alloc | apply pw_below_drewN | apply below_drew1 | refine below_set ?_ GE299.out | refine below_set ?_ GE300.out) | exact HB.out)⟩⟩
    rw [if_neg c10] at H
    have c10b0 : (a1_3.toList == a2_3.toList) = false := beq_eq_false_iff_ne.mpr c10
    have c10b1 : (a1_3.toList != a2_3.toList) = true := bne_iff_ne.mpr c10
    (first | rw [c10b0] | (simp only [i64_w, i32_w]; rw [c10b0]) | skip)
    by_cases c14 : (a1_3.size : Int) ≤ 140737488355328
    rotate_left
    ·rw [if_neg c14] at H
     exact absurd H (by simp)
    rw [if_pos c14] at H
    have c14b0 := eq_true c14
    have c14b1 : decide ((a1_3.size : Int) ≤ 140737488355328) = true := decide_eq_true c14
    clear c14
    obtain ⟨y301, hy301⟩ : ∃ y_ : List Int, y_ = (bytesOf a1_3) := ⟨_, rfl⟩
    replace H : (if (a2_3.size : Int) ≤ 140737488355328 then ((cambiumref01_Less.f kj3 y301 (bytesOf a2_3)).bind fun t307 => (some t307)) else (none)) = some r := by first | (rw [hy301]; with_reducible exact H) | (have H2_ := (Option.bind_some _ _).symm.trans H; rw [hy301]; with_reducible exact H2_) | (have H2_ := (Option.bind_some _ _).symm.trans H; with_reducible exact H2_) | with_reducible exact H | (rw [hy301]; exact H) | exact H
    have Ny301 := Aside0.mk hy301
    clear hy301
    by_cases c15 : (a2_3.size : Int) ≤ 140737488355328
    rotate_left
    ·rw [if_neg c15] at H
     exact absurd H (by simp)
    rw [if_pos c15] at H
    have c15b0 := eq_true c15
    have c15b1 : decide ((a2_3.size : Int) ≤ 140737488355328) = true := decide_eq_true c15
    clear c15
    obtain ⟨y304, hy304⟩ : ∃ y_ : List Int, y_ = (bytesOf a2_3) := ⟨_, rfl⟩
    replace H : ((cambiumref01_Less.f kj3 y301 y304).bind fun t307 => (some t307)) = some r := by first | (rw [hy304]; with_reducible exact H) | (have H2_ := (Option.bind_some _ _).symm.trans H; rw [hy304]; with_reducible exact H2_) | (have H2_ := (Option.bind_some _ _).symm.trans H; with_reducible exact H2_) | with_reducible exact H | (rw [hy304]; exact H) | exact H
    have Ny304 := Aside0.mk hy304
    clear hy304
    replace H := Option.bind_eq_some_iff.mp H
    obtain ⟨t307, A160, H⟩ := H
    replace H : (some t307) = some r := H
    have A16 := Aside0.mk A160
    clear A160
    obtain rfl := Option.some.inj H
    have hnb17 := NB299_300.out
    have hnc17 := NB300_299.out
    have hcz18_0 : wc.cell? ⟨gb299, 0, none⟩ = some (.int .u64 a1_0) := (blk_cell BK299.out 0).trans rfl
    have hcz18_1 : wc.cell? ⟨gb299, 1, none⟩ = some (.int .u64 a1_1) := (blk_cell BK299.out 1).trans rfl
    have hcz18_2 : wc.cell? ⟨gb299, 2, none⟩ = some (.int .u64 a1_2) := (blk_cell BK299.out 2).trans rfl
    have hcz18_3 : wc.cell? ⟨gb299, 3, none⟩ = some (.string a1_3) := (blk_cell BK299.out 3).trans rfl
    have hcz18_4 : wc.cell? ⟨gb299, 4, none⟩ = some (.string a1_4) := (blk_cell BK299.out 4).trans rfl
    have hcz18_5 : wc.cell? ⟨gb299, 5, none⟩ = some (.int .i64 a1_5) := (blk_cell BK299.out 5).trans rfl
    have hcz18_6 : wc.cell? ⟨gb299, 6, none⟩ = some (.int .i64 a1_6) := (blk_cell BK299.out 6).trans rfl
    have hcz18_7 : wc.cell? ⟨gb299, 7, none⟩ = some (.int .i64 a1_7) := (blk_cell BK299.out 7).trans rfl
    have hcz18_8 : wc.cell? ⟨gb299, 8, none⟩ = some (.slice A1_8 l1_8.length c1_8) := (blk_cell BK299.out 8).trans rfl
    have hcz18_9 : wc.cell? ⟨gb299, 9, none⟩ = some (.slice A1_9 l1_9.length c1_9) := (blk_cell BK299.out 9).trans rfl
    have hcz18_10 : wc.cell? ⟨gb299, 10, none⟩ = some (.slice A1_10 l1_10.length c1_10) := (blk_cell BK299.out 10).trans rfl
    have hfz18_0 := blk_frozen BK299.out 0
    have hfz18_1 := blk_frozen BK299.out 1
    have hfz18_2 := blk_frozen BK299.out 2
    have hfz18_3 := blk_frozen BK299.out 3
    have hfz18_4 := blk_frozen BK299.out 4
    have hfz18_5 := blk_frozen BK299.out 5
    have hfz18_6 := blk_frozen BK299.out 6
    have hfz18_7 := blk_frozen BK299.out 7
    have hfz18_8 := blk_frozen BK299.out 8
    have hfz18_9 := blk_frozen BK299.out 9
    have hfz18_10 := blk_frozen BK299.out 10
    have hcz19_0 : wc.cell? ⟨gb300, 0, none⟩ = some (.int .u64 a2_0) := (blk_cell BK300.out 0).trans rfl
    have hcz19_1 : wc.cell? ⟨gb300, 1, none⟩ = some (.int .u64 a2_1) := (blk_cell BK300.out 1).trans rfl
    have hcz19_2 : wc.cell? ⟨gb300, 2, none⟩ = some (.int .u64 a2_2) := (blk_cell BK300.out 2).trans rfl
    have hcz19_3 : wc.cell? ⟨gb300, 3, none⟩ = some (.string a2_3) := (blk_cell BK300.out 3).trans rfl
    have hcz19_4 : wc.cell? ⟨gb300, 4, none⟩ = some (.string a2_4) := (blk_cell BK300.out 4).trans rfl
    have hcz19_5 : wc.cell? ⟨gb300, 5, none⟩ = some (.int .i64 a2_5) := (blk_cell BK300.out 5).trans rfl
    have hcz19_6 : wc.cell? ⟨gb300, 6, none⟩ = some (.int .i64 a2_6) := (blk_cell BK300.out 6).trans rfl
    have hcz19_7 : wc.cell? ⟨gb300, 7, none⟩ = some (.int .i64 a2_7) := (blk_cell BK300.out 7).trans rfl
    have hcz19_8 : wc.cell? ⟨gb300, 8, none⟩ = some (.slice A2_8 l2_8.length c2_8) := (blk_cell BK300.out 8).trans rfl
    have hcz19_9 : wc.cell? ⟨gb300, 9, none⟩ = some (.slice A2_9 l2_9.length c2_9) := (blk_cell BK300.out 9).trans rfl
    have hcz19_10 : wc.cell? ⟨gb300, 10, none⟩ = some (.slice A2_10 l2_10.length c2_10) := (blk_cell BK300.out 10).trans rfl
    have hfz19_0 := blk_frozen BK300.out 0
    have hfz19_1 := blk_frozen BK300.out 1
    have hfz19_2 := blk_frozen BK300.out 2
    have hfz19_3 := blk_frozen BK300.out 3
    have hfz19_4 := blk_frozen BK300.out 4
    have hfz19_5 := blk_frozen BK300.out 5
    have hfz19_6 := blk_frozen BK300.out 6
    have hfz19_7 := blk_frozen BK300.out 7
    have hfz19_8 := blk_frozen BK300.out 8
    have hfz19_9 := blk_frozen BK300.out 9
    have hfz19_10 := blk_frozen BK300.out 10
    go_wp2_with (first | ((with_reducible refine gate_dst (N := 20) rfl ?_); (first | refine Go.Proofs.Ytenmjbcedadcbaa.Conv.V_conv _ 5 rfl (N' := 20) rfl 9 22 _ rfl Try.underlying9 Try.underlying22 Try.underlying5 a1_3 rfl q11y3 (Below.refl _ _) (Nat.le_refl _) ?_ | refine Go.Proofs.Ytenmjbcedadcbaa.Conv.V_conv_on _ 5 (by rfl) (N' := 20) rfl 9 22 _ rfl Try.underlying9 Try.underlying22 Try.underlying5 a1_3 rfl q11y3 (Below.refl _ _) (Nat.le_refl _) ?_); intro v302 w20 ho21 hb hg_ hnew_; clear hg_ hnew_; (first | rw [← Ny301.out] at ho21 | (simp only [Int.reduceToNat] at ho21; rw [← Ny301.out] at ho21)); have n0_ := Aside0.mk (Kd.V_lower (Kd.V_mono (ok' := fun k_ => k_ ≠ gb299 ∧ k_ ≠ gb300) ho21 (fun k_ hk_ => ⟨(Kd.freshB (g := gb299) (o := .cells #[.int .u64 a1_0, .int .u64 a1_1, .int .u64 a1_2, .string a1_3, .string a1_4, .int .i64 a1_5, .int .i64 a1_6, .int .i64 a1_7, .slice A1_8 l1_8.length c1_8, .slice A1_9 l1_9.length c1_9, .slice A1_10 l1_10.length c1_10] 34 (0, 0)) q11y1 k_ hk_), (Kd.freshB (g := gb300) (o := .cells #[.int .u64 a2_0, .int .u64 a2_1, .int .u64 a2_2, .string a2_3, .string a2_4, .int .i64 a2_5, .int .i64 a2_6, .int .i64 a2_7, .slice A2_8 l2_8.length c2_8, .slice A2_9 l2_9.length c2_9, .slice A2_10 l2_10.length c2_10] 34 (0, 0)) q11y2 k_ hk_)⟩)) (below_size q11y0)); have n1_ := Aside0.mk (blk_below (g := gb299) (o := .cells #[.int .u64 a1_0, .int .u64 a1_1, .int .u64 a1_2, .string a1_3, .string a1_4, .int .i64 a1_5, .int .i64 a1_6, .int .i64 a1_7, .slice A1_8 l1_8.length c1_8, .slice A1_9 l1_9.length c1_9, .slice A1_10 l1_10.length c1_10] 34 (0, 0)) q11y1 hb); have n2_ := Aside0.mk (blk_below (g := gb300) (o := .cells #[.int .u64 a2_0, .int .u64 a2_1, .int .u64 a2_2, .string a2_3, .string a2_4, .int .i64 a2_5, .int .i64 a2_6, .int .i64 a2_7, .slice A2_8 l2_8.length c2_8, .slice A2_9 l2_9.length c2_9, .slice A2_10 l2_10.length c2_10] 34 (0, 0)) q11y2 hb); have n3_ := Aside0.mk (below_step q11y0 hb); clear BK299; clear BK300; clear HB; have HO303 := n0_; have BK299 := n1_; have BK300 := n2_; have HB := n3_; clear n0_ n1_ n2_ n3_; clear hb ho21; have hcz22_0 : w20.cell? ⟨gb300, 0, none⟩ = some (.int .u64 a2_0) := (blk_cell BK300.out 0).trans rfl; have hcz22_1 : w20.cell? ⟨gb300, 1, none⟩ = some (.int .u64 a2_1) := (blk_cell BK300.out 1).trans rfl; have hcz22_2 : w20.cell? ⟨gb300, 2, none⟩ = some (.int .u64 a2_2) := (blk_cell BK300.out 2).trans rfl; have hcz22_3 : w20.cell? ⟨gb300, 3, none⟩ = some (.string a2_3) := (blk_cell BK300.out 3).trans rfl; have hcz22_4 : w20.cell? ⟨gb300, 4, none⟩ = some (.string a2_4) := (blk_cell BK300.out 4).trans rfl; have hcz22_5 : w20.cell? ⟨gb300, 5, none⟩ = some (.int .i64 a2_5) := (blk_cell BK300.out 5).trans rfl; have hcz22_6 : w20.cell? ⟨gb300, 6, none⟩ = some (.int .i64 a2_6) := (blk_cell BK300.out 6).trans rfl; have hcz22_7 : w20.cell? ⟨gb300, 7, none⟩ = some (.int .i64 a2_7) := (blk_cell BK300.out 7).trans rfl; have hcz22_8 : w20.cell? ⟨gb300, 8, none⟩ = some (.slice A2_8 l2_8.length c2_8) := (blk_cell BK300.out 8).trans rfl; have hcz22_9 : w20.cell? ⟨gb300, 9, none⟩ = some (.slice A2_9 l2_9.length c2_9) := (blk_cell BK300.out 9).trans rfl; have hcz22_10 : w20.cell? ⟨gb300, 10, none⟩ = some (.slice A2_10 l2_10.length c2_10) := (blk_cell BK300.out 10).trans rfl; have hfz22_0 := blk_frozen BK300.out 0; have hfz22_1 := blk_frozen BK300.out 1; have hfz22_2 := blk_frozen BK300.out 2; have hfz22_3 := blk_frozen BK300.out 3; have hfz22_4 := blk_frozen BK300.out 4; have hfz22_5 := blk_frozen BK300.out 5; have hfz22_6 := blk_frozen BK300.out 6; have hfz22_7 := blk_frozen BK300.out 7; have hfz22_8 := blk_frozen BK300.out 8; have hfz22_9 := blk_frozen BK300.out 9; have hfz22_10 := blk_frozen BK300.out 10) | ((with_reducible refine gate_dst (N := 23) rfl ?_); (first | refine Go.Proofs.Ytenmjbcedadcbaa.Conv.V_conv _ 5 rfl (N' := 23) rfl 9 22 _ rfl Try.underlying9 Try.underlying22 Try.underlying5 a2_3 rfl q11y3 (Below.refl _ _) (Nat.le_refl _) ?_ | refine Go.Proofs.Ytenmjbcedadcbaa.Conv.V_conv_on _ 5 (by rfl) (N' := 23) rfl 9 22 _ rfl Try.underlying9 Try.underlying22 Try.underlying5 a2_3 rfl q11y3 (Below.refl _ _) (Nat.le_refl _) ?_); intro v305 w23 ho24 hb hg_ hnew_; clear hg_ hnew_; (first | rw [← Ny304.out] at ho24 | (simp only [Int.reduceToNat] at ho24; rw [← Ny304.out] at ho24)); have n0_ := Aside0.mk (Kd.V_below (by (with_reducible repeat (first | apply Kd.V_alloc | apply Kd.V_drewN | apply Kd.V_drew)); exact HO303.out) hb); have n1_ := Aside0.mk (Kd.V_lower (Kd.V_mono (ok' := fun k_ => k_ ≠ gb299 ∧ k_ ≠ gb300) ho24 (fun k_ hk_ => ⟨(Kd.freshB (g := gb299) (o := .cells #[.int .u64 a1_0, .int .u64 a1_1, .int .u64 a1_2, .string a1_3, .string a1_4, .int .i64 a1_5, .int .i64 a1_6, .int .i64 a1_7, .slice A1_8 l1_8.length c1_8, .slice A1_9 l1_9.length c1_9, .slice A1_10 l1_10.length c1_10] 34 (0, 0)) q11y1 k_ hk_), (Kd.freshB (g := gb300) (o := .cells #[.int .u64 a2_0, .int .u64 a2_1, .int .u64 a2_2, .string a2_3, .string a2_4, .int .i64 a2_5, .int .i64 a2_6, .int .i64 a2_7, .slice A2_8 l2_8.length c2_8, .slice A2_9 l2_9.length c2_9, .slice A2_10 l2_10.length c2_10] 34 (0, 0)) q11y2 k_ hk_)⟩)) (below_size q11y0)); have n2_ := Aside0.mk (blk_below (g := gb299) (o := .cells #[.int .u64 a1_0, .int .u64 a1_1, .int .u64 a1_2, .string a1_3, .string a1_4, .int .i64 a1_5, .int .i64 a1_6, .int .i64 a1_7, .slice A1_8 l1_8.length c1_8, .slice A1_9 l1_9.length c1_9, .slice A1_10 l1_10.length c1_10] 34 (0, 0)) q11y1 hb); have n3_ := Aside0.mk (blk_below (g := gb300) (o := .cells #[.int .u64 a2_0, .int .u64 a2_1, .int .u64 a2_2, .string a2_3, .string a2_4, .int .i64 a2_5, .int .i64 a2_6, .int .i64 a2_7, .slice A2_8 l2_8.length c2_8, .slice A2_9 l2_9.length c2_9, .slice A2_10 l2_10.length c2_10] 34 (0, 0)) q11y2 hb); have n4_ := Aside0.mk (below_step q11y0 hb); clear HO303; clear BK299; clear BK300; clear HB; have HO303 := n0_; have HO306 := n1_; have BK299 := n2_; have BK300 := n3_; have HB := n4_; clear n0_ n1_ n2_ n3_ n4_; clear hb ho24; obtain ⟨Ao25, co25, eo25⟩ := Kd.V_slice HO303.out; subst eo25; obtain ⟨Ao26, co26, eo26⟩ := Kd.V_slice HO306.out; subst eo26) | ((with_reducible refine gate_callee (f := 15) rfl ?_); refine goesL_ (some 24) rfl rfl Try.func15 (by kernel_rfl) rfl #[.slice Ao25 y301.length co25, .slice Ao26 y304.length co26] rfl (by (try simp only [List.map_toArray, List.map_cons, List.map_nil]); first | done | rfl | (simp only [List.length_drop, List.length_take]; rfl)) ?_; (with_reducible refine (cambiumref01_Less.calls kj3 _ _ y301 _ _ y304 t307 _ ?side1 ?side2 ?side3 ?side4 A16.out).mono ?_); (case side1 => repeat (first | exact (Kd.V_reads' HO303.out).2.2 | (with_reducible refine Kd.C_alloc ?_ _) | (with_reducible refine Kd.C_drewN ?_ _) | (with_reducible refine Kd.C_drew ?_))); (case side2 => exact (Kd.V_reads' HO303.out).2.1); (case side3 => repeat (first | exact (Kd.V_reads' HO306.out).2.2 | (with_reducible refine Kd.C_alloc ?_ _) | (with_reducible refine Kd.C_drewN ?_ _) | (with_reducible refine Kd.C_drew ?_))); (case side4 => exact (Kd.V_reads' HO306.out).2.1); rintro e w' ⟨rfl, ⟨nd, rfl⟩⟩; refine ⟨_, rfl, ?_⟩))
    go_ret
    exact ⟨by first | rfl | (simp [errW_none, errW_some] <;> rfl) | (simp [*, errW_none, errW_some] <;> rfl), by repeat (first | (with_reducible first | exact HB.out | apply below_alloc | apply pw_below_drewN | apply below_drew1 | refine below_set ?_ GE299.out | refine below_set ?_ GE300.out) | exact HB.out)⟩
   case rest =>
    clear HC8
    try clear c1
    try clear c2
    try clear p2
    try clear c7
    try clear c7b0
    try clear c7b1
    try clear c9
    try clear c10
    try clear c10b0
    try clear c10b1
    try clear c11
    try clear c14
    try clear c14b0
    try clear c14b1
    try clear c15
    try clear c15b0
    try clear c15b1
    try clear c16
    try clear c17
    try clear hcz12_0 hcz12_1 hcz12_10 hcz12_2 hcz12_3 hcz12_4 hcz12_5 hcz12_6 hcz12_7 hcz12_8 hcz12_9
    try clear hcz13_0 hcz13_1 hcz13_10 hcz13_2 hcz13_3 hcz13_4 hcz13_5 hcz13_6 hcz13_7 hcz13_8 hcz13_9
    try clear hcz18_0 hcz18_1 hcz18_10 hcz18_2 hcz18_3 hcz18_4 hcz18_5 hcz18_6 hcz18_7 hcz18_8 hcz18_9
    try clear hcz19_0 hcz19_1 hcz19_10 hcz19_2 hcz19_3 hcz19_4 hcz19_5 hcz19_6 hcz19_7 hcz19_8 hcz19_9
    try clear hcz22_0 hcz22_1 hcz22_10 hcz22_2 hcz22_3 hcz22_4 hcz22_5 hcz22_6 hcz22_7 hcz22_8 hcz22_9
    try clear hfz12_0 hfz12_1 hfz12_10 hfz12_2 hfz12_3 hfz12_4 hfz12_5 hfz12_6 hfz12_7 hfz12_8 hfz12_9
    try clear hfz13_0 hfz13_1 hfz13_10 hfz13_2 hfz13_3 hfz13_4 hfz13_5 hfz13_6 hfz13_7 hfz13_8 hfz13_9
    try clear hfz18_0 hfz18_1 hfz18_10 hfz18_2 hfz18_3 hfz18_4 hfz18_5 hfz18_6 hfz18_7 hfz18_8 hfz18_9
    try clear hfz19_0 hfz19_1 hfz19_10 hfz19_2 hfz19_3 hfz19_4 hfz19_5 hfz19_6 hfz19_7 hfz19_8 hfz19_9
    try clear hfz22_0 hfz22_1 hfz22_10 hfz22_2 hfz22_3 hfz22_4 hfz22_5 hfz22_6 hfz22_7 hfz22_8 hfz22_9
    try clear p2
    obtain ⟨kq, HA, HJ7, BK299, BK300, HB⟩ := hcut
    cases kq with
    | zero => exact absurd HA.out (by simp [cambiumref18_Before.j1])
    | succ kj7 =>
     have H := HA.out
     clear HA
     simp only [cambiumref18_Before.j1] at H
     have HC27 := Aside0.mk H
     clear H
     go_upto_region 4 with (fail)
     go_cut [33] (fun v33 wc => ∃ (kq : Nat) (x33_26 : Bool), v33 = .bool x33_26 ∧ Aside0 (cambiumref18_Before.j2 kq a0 x33_26 a1_0 a1_1 a1_2 a1_3 a1_4 a1_5 a1_6 a1_7 l1_8 l1_9 l1_10 a2_0 a2_1 a2_2 a2_3 a2_4 a2_5 a2_6 a2_7 l2_8 l2_9 l2_10 = some r) ∧ Aside0 (kq ≤ kj7) ∧ Aside0 (wc.heap[gb299]? = some (.cells #[.int .u64 a1_0, .int .u64 a1_1, .int .u64 a1_2, .string a1_3, .string a1_4, .int .i64 a1_5, .int .i64 a1_6, .int .i64 a1_7, (.slice A1_8 l1_8.length c1_8), (.slice A1_9 l1_9.length c1_9), (.slice A1_10 l1_10.length c1_10)] 34 (0, 0))) ∧ Aside0 (wc.heap[gb300]? = some (.cells #[.int .u64 a2_0, .int .u64 a2_1, .int .u64 a2_2, .string a2_3, .string a2_4, .int .i64 a2_5, .int .i64 a2_6, .int .i64 a2_7, (.slice A2_8 l2_8.length c2_8), (.slice A2_9 l2_9.length c2_9), (.slice A2_10 l2_10.length c2_10)] 34 (0, 0))) ∧ Aside0 (Below w.heap.size w wc))
     case first =>
      have H := HC27.out
      clear HC27
      by_cases c28 : a0 = 2
      rotate_left
      ·rw [if_neg c28] at H
       have c28b0 : (a0 == 2) = false := beq_eq_false_iff_ne.mpr c28
       have c28b1 : (a0 != 2) = true := bne_iff_ne.mpr c28
       (first | rw [c28b0] | (simp only [i64_w, i32_w]; rw [c28b0]) | skip)
       have H' := Aside0.mk H
       clear H
       go_wp2
       go_meet
       case rel => exact ⟨_, (false), q11y5, H', ⟨by have := HJ3.out; have := HJ7.out; first | omega | exact Nat.le_refl _⟩, ⟨by (with_reducible repeat (first | refine blk_drewN ?_ _ | refine blk_drew ?_ | refine blk_alloc ?_ _)); exact BK299.out⟩, ⟨by (with_reducible repeat (first | refine blk_drewN ?_ _ | refine blk_drew ?_ | refine blk_alloc ?_ _)); exact BK300.out⟩, ⟨by repeat (first | (with_reducible first | exact HB.out | apply below_alloc | apply pw_below_drewN | apply below_drew1 | refine below_set ?_ GE299.out | refine below_set ?_ GE300.out) | exact HB.out)⟩⟩
      rw [if_pos c28] at H
      have c28b0 : (a0 == 2) = true := beq_iff_eq.mpr c28
      have c28b1 : (a0 != 2) = false := bne_eq_false_iff_eq.mpr c28
      clear c28
      (first | rw [c28b0] | (simp only [i64_w, i32_w]; rw [c28b0]) | skip)
      have H' := Aside0.mk H
      clear H
      have hnb29 := NB299_300.out
      have hnc29 := NB300_299.out
      have hcz30_0 : wc.cell? ⟨gb299, 0, none⟩ = some (.int .u64 a1_0) := (blk_cell BK299.out 0).trans rfl
      have hcz30_1 : wc.cell? ⟨gb299, 1, none⟩ = some (.int .u64 a1_1) := (blk_cell BK299.out 1).trans rfl
      have hcz30_2 : wc.cell? ⟨gb299, 2, none⟩ = some (.int .u64 a1_2) := (blk_cell BK299.out 2).trans rfl
      have hcz30_3 : wc.cell? ⟨gb299, 3, none⟩ = some (.string a1_3) := (blk_cell BK299.out 3).trans rfl
      have hcz30_4 : wc.cell? ⟨gb299, 4, none⟩ = some (.string a1_4) := (blk_cell BK299.out 4).trans rfl
      have hcz30_5 : wc.cell? ⟨gb299, 5, none⟩ = some (.int .i64 a1_5) := (blk_cell BK299.out 5).trans rfl
      have hcz30_6 : wc.cell? ⟨gb299, 6, none⟩ = some (.int .i64 a1_6) := (blk_cell BK299.out 6).trans rfl
      have hcz30_7 : wc.cell? ⟨gb299, 7, none⟩ = some (.int .i64 a1_7) := (blk_cell BK299.out 7).trans rfl
      have hcz30_8 : wc.cell? ⟨gb299, 8, none⟩ = some (.slice A1_8 l1_8.length c1_8) := (blk_cell BK299.out 8).trans rfl
      have hcz30_9 : wc.cell? ⟨gb299, 9, none⟩ = some (.slice A1_9 l1_9.length c1_9) := (blk_cell BK299.out 9).trans rfl
      have hcz30_10 : wc.cell? ⟨gb299, 10, none⟩ = some (.slice A1_10 l1_10.length c1_10) := (blk_cell BK299.out 10).trans rfl
      have hfz30_0 := blk_frozen BK299.out 0
      have hfz30_1 := blk_frozen BK299.out 1
      have hfz30_2 := blk_frozen BK299.out 2
      have hfz30_3 := blk_frozen BK299.out 3
      have hfz30_4 := blk_frozen BK299.out 4
      have hfz30_5 := blk_frozen BK299.out 5
      have hfz30_6 := blk_frozen BK299.out 6
      have hfz30_7 := blk_frozen BK299.out 7
      have hfz30_8 := blk_frozen BK299.out 8
      have hfz30_9 := blk_frozen BK299.out 9
      have hfz30_10 := blk_frozen BK299.out 10
      have hcz31_0 : wc.cell? ⟨gb300, 0, none⟩ = some (.int .u64 a2_0) := (blk_cell BK300.out 0).trans rfl
      have hcz31_1 : wc.cell? ⟨gb300, 1, none⟩ = some (.int .u64 a2_1) := (blk_cell BK300.out 1).trans rfl
      have hcz31_2 : wc.cell? ⟨gb300, 2, none⟩ = some (.int .u64 a2_2) := (blk_cell BK300.out 2).trans rfl
      have hcz31_3 : wc.cell? ⟨gb300, 3, none⟩ = some (.string a2_3) := (blk_cell BK300.out 3).trans rfl
      have hcz31_4 : wc.cell? ⟨gb300, 4, none⟩ = some (.string a2_4) := (blk_cell BK300.out 4).trans rfl
      have hcz31_5 : wc.cell? ⟨gb300, 5, none⟩ = some (.int .i64 a2_5) := (blk_cell BK300.out 5).trans rfl
      have hcz31_6 : wc.cell? ⟨gb300, 6, none⟩ = some (.int .i64 a2_6) := (blk_cell BK300.out 6).trans rfl
      have hcz31_7 : wc.cell? ⟨gb300, 7, none⟩ = some (.int .i64 a2_7) := (blk_cell BK300.out 7).trans rfl
      have hcz31_8 : wc.cell? ⟨gb300, 8, none⟩ = some (.slice A2_8 l2_8.length c2_8) := (blk_cell BK300.out 8).trans rfl
      have hcz31_9 : wc.cell? ⟨gb300, 9, none⟩ = some (.slice A2_9 l2_9.length c2_9) := (blk_cell BK300.out 9).trans rfl
      have hcz31_10 : wc.cell? ⟨gb300, 10, none⟩ = some (.slice A2_10 l2_10.length c2_10) := (blk_cell BK300.out 10).trans rfl
      have hfz31_0 := blk_frozen BK300.out 0
      have hfz31_1 := blk_frozen BK300.out 1
      have hfz31_2 := blk_frozen BK300.out 2
      have hfz31_3 := blk_frozen BK300.out 3
      have hfz31_4 := blk_frozen BK300.out 4
      have hfz31_5 := blk_frozen BK300.out 5
      have hfz31_6 := blk_frozen BK300.out 6
      have hfz31_7 := blk_frozen BK300.out 7
      have hfz31_8 := blk_frozen BK300.out 8
      have hfz31_9 := blk_frozen BK300.out 9
      have hfz31_10 := blk_frozen BK300.out 10
      go_wp2
      go_meet
      case rel => exact ⟨_, ((a1_4.toList != a2_4.toList)), q11y5, H', ⟨by have := HJ3.out; have := HJ7.out; first | omega | exact Nat.le_refl _⟩, ⟨by (with_reducible repeat (first | refine blk_drewN ?_ _ | refine blk_drew ?_ | refine blk_alloc ?_ _)); exact BK299.out⟩, ⟨by (with_reducible repeat (first | refine blk_drewN ?_ _ | refine blk_drew ?_ | refine blk_alloc ?_ _)); exact BK300.out⟩, ⟨by repeat (first | (with_reducible first | exact HB.out | apply below_alloc | apply pw_below_drewN | apply below_drew1 | refine below_set ?_ GE299.out | refine below_set ?_ GE300.out) | exact HB.out)⟩⟩
     case rest =>
      clear HC27
      try clear c1
      try clear c2
      try clear p2
      try clear c7
      try clear c7b0
      try clear c7b1
      try clear c9
      try clear c10
      try clear c10b0
      try clear c10b1
      try clear c11
      try clear c14
      try clear c14b0
      try clear c14b1
      try clear c15
      try clear c15b0
      try clear c15b1
      try clear c16
      try clear c17
      try clear c28
      try clear c28b0
      try clear c28b1
      try clear c29
      try clear hcz12_0 hcz12_1 hcz12_10 hcz12_2 hcz12_3 hcz12_4 hcz12_5 hcz12_6 hcz12_7 hcz12_8 hcz12_9
      try clear hcz13_0 hcz13_1 hcz13_10 hcz13_2 hcz13_3 hcz13_4 hcz13_5 hcz13_6 hcz13_7 hcz13_8 hcz13_9
      try clear hcz18_0 hcz18_1 hcz18_10 hcz18_2 hcz18_3 hcz18_4 hcz18_5 hcz18_6 hcz18_7 hcz18_8 hcz18_9
      try clear hcz19_0 hcz19_1 hcz19_10 hcz19_2 hcz19_3 hcz19_4 hcz19_5 hcz19_6 hcz19_7 hcz19_8 hcz19_9
      try clear hcz22_0 hcz22_1 hcz22_10 hcz22_2 hcz22_3 hcz22_4 hcz22_5 hcz22_6 hcz22_7 hcz22_8 hcz22_9
      try clear hcz30_0 hcz30_1 hcz30_10 hcz30_2 hcz30_3 hcz30_4 hcz30_5 hcz30_6 hcz30_7 hcz30_8 hcz30_9
      try clear hcz31_0 hcz31_1 hcz31_10 hcz31_2 hcz31_3 hcz31_4 hcz31_5 hcz31_6 hcz31_7 hcz31_8 hcz31_9
      try clear hfz12_0 hfz12_1 hfz12_10 hfz12_2 hfz12_3 hfz12_4 hfz12_5 hfz12_6 hfz12_7 hfz12_8 hfz12_9
      try clear hfz13_0 hfz13_1 hfz13_10 hfz13_2 hfz13_3 hfz13_4 hfz13_5 hfz13_6 hfz13_7 hfz13_8 hfz13_9
      try clear hfz18_0 hfz18_1 hfz18_10 hfz18_2 hfz18_3 hfz18_4 hfz18_5 hfz18_6 hfz18_7 hfz18_8 hfz18_9
      try clear hfz19_0 hfz19_1 hfz19_10 hfz19_2 hfz19_3 hfz19_4 hfz19_5 hfz19_6 hfz19_7 hfz19_8 hfz19_9
      try clear hfz22_0 hfz22_1 hfz22_10 hfz22_2 hfz22_3 hfz22_4 hfz22_5 hfz22_6 hfz22_7 hfz22_8 hfz22_9
      try clear hfz30_0 hfz30_1 hfz30_10 hfz30_2 hfz30_3 hfz30_4 hfz30_5 hfz30_6 hfz30_7 hfz30_8 hfz30_9
      try clear hfz31_0 hfz31_1 hfz31_10 hfz31_2 hfz31_3 hfz31_4 hfz31_5 hfz31_6 hfz31_7 hfz31_8 hfz31_9
      try clear p2
      obtain ⟨kq, x33_26, rfl, HA, HJ26, BK299, BK300, HB⟩ := hcut
      cases kq with
      | zero => exact absurd HA.out (by simp [cambiumref18_Before.j2])
      | succ kj26 =>
       have H := HA.out
       clear HA
       simp only [cambiumref18_Before.j2] at H
       by_cases c32 : x33_26 = true
       ·subst c32
        have H1 : (if (a1_4.size : Int) ≤ 140737488355328 then (if (a2_4.size : Int) ≤ 140737488355328 then ((cambiumref01_Less.f kj26 (bytesOf a1_4) (bytesOf a2_4)).bind fun t314 => (some t314)) else (none)) else (none)) = some r := by rw [if_pos rfl] at H; exact H
        clear H
        have H := H1
        clear H1
        by_cases c33 : (a1_4.size : Int) ≤ 140737488355328
        rotate_left
        ·rw [if_neg c33] at H
         exact absurd H (by simp)
        rw [if_pos c33] at H
        have c33b0 := eq_true c33
        have c33b1 : decide ((a1_4.size : Int) ≤ 140737488355328) = true := decide_eq_true c33
        clear c33
        obtain ⟨y308, hy308⟩ : ∃ y_ : List Int, y_ = (bytesOf a1_4) := ⟨_, rfl⟩
        replace H : (if (a2_4.size : Int) ≤ 140737488355328 then ((cambiumref01_Less.f kj26 y308 (bytesOf a2_4)).bind fun t314 => (some t314)) else (none)) = some r := by first | (rw [hy308]; with_reducible exact H) | (have H2_ := (Option.bind_some _ _).symm.trans H; rw [hy308]; with_reducible exact H2_) | (have H2_ := (Option.bind_some _ _).symm.trans H; with_reducible exact H2_) | with_reducible exact H | (rw [hy308]; exact H) | exact H
        have Ny308 := Aside0.mk hy308
        clear hy308
        by_cases c34 : (a2_4.size : Int) ≤ 140737488355328
        rotate_left
        ·rw [if_neg c34] at H
         exact absurd H (by simp)
        rw [if_pos c34] at H
        have c34b0 := eq_true c34
        have c34b1 : decide ((a2_4.size : Int) ≤ 140737488355328) = true := decide_eq_true c34
        clear c34
        obtain ⟨y311, hy311⟩ : ∃ y_ : List Int, y_ = (bytesOf a2_4) := ⟨_, rfl⟩
        replace H : ((cambiumref01_Less.f kj26 y308 y311).bind fun t314 => (some t314)) = some r := by first | (rw [hy311]; with_reducible exact H) | (have H2_ := (Option.bind_some _ _).symm.trans H; rw [hy311]; with_reducible exact H2_) | (have H2_ := (Option.bind_some _ _).symm.trans H; with_reducible exact H2_) | with_reducible exact H | (rw [hy311]; exact H) | exact H
        have Ny311 := Aside0.mk hy311
        clear hy311
        replace H := Option.bind_eq_some_iff.mp H
        obtain ⟨t314, A350, H⟩ := H
        replace H : (some t314) = some r := H
        have A35 := Aside0.mk A350
        clear A350
        obtain rfl := Option.some.inj H
        have hnb36 := NB299_300.out
        have hnc36 := NB300_299.out
        have hcz37_0 : wc.cell? ⟨gb299, 0, none⟩ = some (.int .u64 a1_0) := (blk_cell BK299.out 0).trans rfl
        have hcz37_1 : wc.cell? ⟨gb299, 1, none⟩ = some (.int .u64 a1_1) := (blk_cell BK299.out 1).trans rfl
        have hcz37_2 : wc.cell? ⟨gb299, 2, none⟩ = some (.int .u64 a1_2) := (blk_cell BK299.out 2).trans rfl
        have hcz37_3 : wc.cell? ⟨gb299, 3, none⟩ = some (.string a1_3) := (blk_cell BK299.out 3).trans rfl
        have hcz37_4 : wc.cell? ⟨gb299, 4, none⟩ = some (.string a1_4) := (blk_cell BK299.out 4).trans rfl
        have hcz37_5 : wc.cell? ⟨gb299, 5, none⟩ = some (.int .i64 a1_5) := (blk_cell BK299.out 5).trans rfl
        have hcz37_6 : wc.cell? ⟨gb299, 6, none⟩ = some (.int .i64 a1_6) := (blk_cell BK299.out 6).trans rfl
        have hcz37_7 : wc.cell? ⟨gb299, 7, none⟩ = some (.int .i64 a1_7) := (blk_cell BK299.out 7).trans rfl
        have hcz37_8 : wc.cell? ⟨gb299, 8, none⟩ = some (.slice A1_8 l1_8.length c1_8) := (blk_cell BK299.out 8).trans rfl
        have hcz37_9 : wc.cell? ⟨gb299, 9, none⟩ = some (.slice A1_9 l1_9.length c1_9) := (blk_cell BK299.out 9).trans rfl
        have hcz37_10 : wc.cell? ⟨gb299, 10, none⟩ = some (.slice A1_10 l1_10.length c1_10) := (blk_cell BK299.out 10).trans rfl
        have hfz37_0 := blk_frozen BK299.out 0
        have hfz37_1 := blk_frozen BK299.out 1
        have hfz37_2 := blk_frozen BK299.out 2
        have hfz37_3 := blk_frozen BK299.out 3
        have hfz37_4 := blk_frozen BK299.out 4
        have hfz37_5 := blk_frozen BK299.out 5
        have hfz37_6 := blk_frozen BK299.out 6
        have hfz37_7 := blk_frozen BK299.out 7
        have hfz37_8 := blk_frozen BK299.out 8
        have hfz37_9 := blk_frozen BK299.out 9
        have hfz37_10 := blk_frozen BK299.out 10
        go_wp2_with (first | ((with_reducible refine gate_dst (N := 36) rfl ?_); (first | refine Go.Proofs.Ytenmjbcedadcbaa.Conv.V_conv _ 5 rfl (N' := 36) rfl 9 22 _ rfl Try.underlying9 Try.underlying22 Try.underlying5 a1_4 rfl q11y3 (Below.refl _ _) (Nat.le_refl _) ?_ | refine Go.Proofs.Ytenmjbcedadcbaa.Conv.V_conv_on _ 5 (by rfl) (N' := 36) rfl 9 22 _ rfl Try.underlying9 Try.underlying22 Try.underlying5 a1_4 rfl q11y3 (Below.refl _ _) (Nat.le_refl _) ?_); intro v309 w38 ho39 hb hg_ hnew_; clear hg_ hnew_; (first | rw [← Ny308.out] at ho39 | (simp only [Int.reduceToNat] at ho39; rw [← Ny308.out] at ho39)); have n0_ := Aside0.mk (Kd.V_lower (Kd.V_mono (ok' := fun k_ => k_ ≠ gb299 ∧ k_ ≠ gb300) ho39 (fun k_ hk_ => ⟨(Kd.freshB (g := gb299) (o := .cells #[.int .u64 a1_0, .int .u64 a1_1, .int .u64 a1_2, .string a1_3, .string a1_4, .int .i64 a1_5, .int .i64 a1_6, .int .i64 a1_7, .slice A1_8 l1_8.length c1_8, .slice A1_9 l1_9.length c1_9, .slice A1_10 l1_10.length c1_10] 34 (0, 0)) q11y1 k_ hk_), (Kd.freshB (g := gb300) (o := .cells #[.int .u64 a2_0, .int .u64 a2_1, .int .u64 a2_2, .string a2_3, .string a2_4, .int .i64 a2_5, .int .i64 a2_6, .int .i64 a2_7, .slice A2_8 l2_8.length c2_8, .slice A2_9 l2_9.length c2_9, .slice A2_10 l2_10.length c2_10] 34 (0, 0)) q11y2 k_ hk_)⟩)) (below_size q11y0)); have n1_ := Aside0.mk (blk_below (g := gb299) (o := .cells #[.int .u64 a1_0, .int .u64 a1_1, .int .u64 a1_2, .string a1_3, .string a1_4, .int .i64 a1_5, .int .i64 a1_6, .int .i64 a1_7, .slice A1_8 l1_8.length c1_8, .slice A1_9 l1_9.length c1_9, .slice A1_10 l1_10.length c1_10] 34 (0, 0)) q11y1 hb); have n2_ := Aside0.mk (blk_below (g := gb300) (o := .cells #[.int .u64 a2_0, .int .u64 a2_1, .int .u64 a2_2, .string a2_3, .string a2_4, .int .i64 a2_5, .int .i64 a2_6, .int .i64 a2_7, .slice A2_8 l2_8.length c2_8, .slice A2_9 l2_9.length c2_9, .slice A2_10 l2_10.length c2_10] 34 (0, 0)) q11y2 hb); have n3_ := Aside0.mk (below_step q11y0 hb); clear BK299; clear BK300; clear HB; have HO310 := n0_; have BK299 := n1_; have BK300 := n2_; have HB := n3_; clear n0_ n1_ n2_ n3_; clear hb ho39; have hcz40_0 : w38.cell? ⟨gb300, 0, none⟩ = some (.int .u64 a2_0) := (blk_cell BK300.out 0).trans rfl; have hcz40_1 : w38.cell? ⟨gb300, 1, none⟩ = some (.int .u64 a2_1) := (blk_cell BK300.out 1).trans rfl; have hcz40_2 : w38.cell? ⟨gb300, 2, none⟩ = some (.int .u64 a2_2) := (blk_cell BK300.out 2).trans rfl; have hcz40_3 : w38.cell? ⟨gb300, 3, none⟩ = some (.string a2_3) := (blk_cell BK300.out 3).trans rfl; have hcz40_4 : w38.cell? ⟨gb300, 4, none⟩ = some (.string a2_4) := (blk_cell BK300.out 4).trans rfl; have hcz40_5 : w38.cell? ⟨gb300, 5, none⟩ = some (.int .i64 a2_5) := (blk_cell BK300.out 5).trans rfl; have hcz40_6 : w38.cell? ⟨gb300, 6, none⟩ = some (.int .i64 a2_6) := (blk_cell BK300.out 6).trans rfl; have hcz40_7 : w38.cell? ⟨gb300, 7, none⟩ = some (.int .i64 a2_7) := (blk_cell BK300.out 7).trans rfl; have hcz40_8 : w38.cell? ⟨gb300, 8, none⟩ = some (.slice A2_8 l2_8.length c2_8) := (blk_cell BK300.out 8).trans rfl; have hcz40_9 : w38.cell? ⟨gb300, 9, none⟩ = some (.slice A2_9 l2_9.length c2_9) := (blk_cell BK300.out 9).trans rfl; have hcz40_10 : w38.cell? ⟨gb300, 10, none⟩ = some (.slice A2_10 l2_10.length c2_10) := (blk_cell BK300.out 10).trans rfl; have hfz40_0 := blk_frozen BK300.out 0; have hfz40_1 := blk_frozen BK300.out 1; have hfz40_2 := blk_frozen BK300.out 2; have hfz40_3 := blk_frozen BK300.out 3; have hfz40_4 := blk_frozen BK300.out 4; have hfz40_5 := blk_frozen BK300.out 5; have hfz40_6 := blk_frozen BK300.out 6; have hfz40_7 := blk_frozen BK300.out 7; have hfz40_8 := blk_frozen BK300.out 8; have hfz40_9 := blk_frozen BK300.out 9; have hfz40_10 := blk_frozen BK300.out 10) | ((with_reducible refine gate_dst (N := 39) rfl ?_); (first | refine Go.Proofs.Ytenmjbcedadcbaa.Conv.V_conv _ 5 rfl (N' := 39) rfl 9 22 _ rfl Try.underlying9 Try.underlying22 Try.underlying5 a2_4 rfl q11y3 (Below.refl _ _) (Nat.le_refl _) ?_ | refine Go.Proofs.Ytenmjbcedadcbaa.Conv.V_conv_on _ 5 (by rfl) (N' := 39) rfl 9 22 _ rfl Try.underlying9 Try.underlying22 Try.underlying5 a2_4 rfl q11y3 (Below.refl _ _) (Nat.le_refl _) ?_); intro v312 w41 ho42 hb hg_ hnew_; clear hg_ hnew_; (first | rw [← Ny311.out] at ho42 | (simp only [Int.reduceToNat] at ho42; rw [← Ny311.out] at ho42)); have n0_ := Aside0.mk (Kd.V_below (by (with_reducible repeat (first | apply Kd.V_alloc | apply Kd.V_drewN | apply Kd.V_drew)); exact HO310.out) hb); have n1_ := Aside0.mk (Kd.V_lower (Kd.V_mono (ok' := fun k_ => k_ ≠ gb299 ∧ k_ ≠ gb300) ho42 (fun k_ hk_ => ⟨(Kd.freshB (g := gb299) (o := .cells #[.int .u64 a1_0, .int .u64 a1_1, .int .u64 a1_2, .string a1_3, .string a1_4, .int .i64 a1_5, .int .i64 a1_6, .int .i64 a1_7, .slice A1_8 l1_8.length c1_8, .slice A1_9 l1_9.length c1_9, .slice A1_10 l1_10.length c1_10] 34 (0, 0)) q11y1 k_ hk_), (Kd.freshB (g := gb300) (o := .cells #[.int .u64 a2_0, .int .u64 a2_1, .int .u64 a2_2, .string a2_3, .string a2_4, .int .i64 a2_5, .int .i64 a2_6, .int .i64 a2_7, .slice A2_8 l2_8.length c2_8, .slice A2_9 l2_9.length c2_9, .slice A2_10 l2_10.length c2_10] 34 (0, 0)) q11y2 k_ hk_)⟩)) (below_size q11y0)); have n2_ := Aside0.mk (blk_below (g := gb299) (o := .cells #[.int .u64 a1_0, .int .u64 a1_1, .int .u64 a1_2, .string a1_3, .string a1_4, .int .i64 a1_5, .int .i64 a1_6, .int .i64 a1_7, .slice A1_8 l1_8.length c1_8, .slice A1_9 l1_9.length c1_9, .slice A1_10 l1_10.length c1_10] 34 (0, 0)) q11y1 hb); have n3_ := Aside0.mk (blk_below (g := gb300) (o := .cells #[.int .u64 a2_0, .int .u64 a2_1, .int .u64 a2_2, .string a2_3, .string a2_4, .int .i64 a2_5, .int .i64 a2_6, .int .i64 a2_7, .slice A2_8 l2_8.length c2_8, .slice A2_9 l2_9.length c2_9, .slice A2_10 l2_10.length c2_10] 34 (0, 0)) q11y2 hb); have n4_ := Aside0.mk (below_step q11y0 hb); clear HO310; clear BK299; clear BK300; clear HB; have HO310 := n0_; have HO313 := n1_; have BK299 := n2_; have BK300 := n3_; have HB := n4_; clear n0_ n1_ n2_ n3_ n4_; clear hb ho42; obtain ⟨Ao43, co43, eo43⟩ := Kd.V_slice HO310.out; subst eo43; obtain ⟨Ao44, co44, eo44⟩ := Kd.V_slice HO313.out; subst eo44) | ((with_reducible refine gate_callee (f := 15) rfl ?_); refine goesL_ (some 40) rfl rfl Try.func15 (by kernel_rfl) rfl #[.slice Ao43 y308.length co43, .slice Ao44 y311.length co44] rfl (by (try simp only [List.map_toArray, List.map_cons, List.map_nil]); first | done | rfl | (simp only [List.length_drop, List.length_take]; rfl)) ?_; (with_reducible refine (cambiumref01_Less.calls kj26 _ _ y308 _ _ y311 t314 _ ?side1 ?side2 ?side3 ?side4 A35.out).mono ?_); (case side1 => repeat (first | exact (Kd.V_reads' HO310.out).2.2 | (with_reducible refine Kd.C_alloc ?_ _) | (with_reducible refine Kd.C_drewN ?_ _) | (with_reducible refine Kd.C_drew ?_))); (case side2 => exact (Kd.V_reads' HO310.out).2.1); (case side3 => repeat (first | exact (Kd.V_reads' HO313.out).2.2 | (with_reducible refine Kd.C_alloc ?_ _) | (with_reducible refine Kd.C_drewN ?_ _) | (with_reducible refine Kd.C_drew ?_))); (case side4 => exact (Kd.V_reads' HO313.out).2.1); rintro e w' ⟨rfl, ⟨nd, rfl⟩⟩; refine ⟨_, rfl, ?_⟩))
        go_ret
        exact ⟨by first | rfl | (simp [errW_none, errW_some] <;> rfl) | (simp [*, errW_none, errW_some] <;> rfl), by repeat (first | (with_reducible first | exact HB.out | apply below_alloc | apply pw_below_drewN | apply below_drew1 | refine below_set ?_ GE299.out | refine below_set ?_ GE300.out) | exact HB.out)⟩
       replace c32 := Bool.eq_false_iff.mpr c32
       subst c32
       have H1 : (if a0 = 3 then (cambiumref18_Before.j3 kj26 a0 (a1_6 != a2_6) a1_0 a1_1 a1_2 a1_3 a1_4 a1_5 a1_6 a1_7 l1_8 l1_9 l1_10 a2_0 a2_1 a2_2 a2_3 a2_4 a2_5 a2_6 a2_7 l2_8 l2_9 l2_10) else (cambiumref18_Before.j3 kj26 a0 false a1_0 a1_1 a1_2 a1_3 a1_4 a1_5 a1_6 a1_7 l1_8 l1_9 l1_10 a2_0 a2_1 a2_2 a2_3 a2_4 a2_5 a2_6 a2_7 l2_8 l2_9 l2_10)) = some r := by rw [if_neg (show ¬ (false = true) by decide)] at H; exact H
       clear H
       have H := H1
       clear H1
       have HC45 := Aside0.mk H
       clear H
       go_upto_region 6 with (fail)
       go_cut [49] (fun v49 wc => ∃ (kq : Nat) (x49_44 : Bool), v49 = .bool x49_44 ∧ Aside0 (cambiumref18_Before.j3 kq a0 x49_44 a1_0 a1_1 a1_2 a1_3 a1_4 a1_5 a1_6 a1_7 l1_8 l1_9 l1_10 a2_0 a2_1 a2_2 a2_3 a2_4 a2_5 a2_6 a2_7 l2_8 l2_9 l2_10 = some r) ∧ Aside0 (kq ≤ kj26) ∧ Aside0 (wc.heap[gb299]? = some (.cells #[.int .u64 a1_0, .int .u64 a1_1, .int .u64 a1_2, .string a1_3, .string a1_4, .int .i64 a1_5, .int .i64 a1_6, .int .i64 a1_7, (.slice A1_8 l1_8.length c1_8), (.slice A1_9 l1_9.length c1_9), (.slice A1_10 l1_10.length c1_10)] 34 (0, 0))) ∧ Aside0 (wc.heap[gb300]? = some (.cells #[.int .u64 a2_0, .int .u64 a2_1, .int .u64 a2_2, .string a2_3, .string a2_4, .int .i64 a2_5, .int .i64 a2_6, .int .i64 a2_7, (.slice A2_8 l2_8.length c2_8), (.slice A2_9 l2_9.length c2_9), (.slice A2_10 l2_10.length c2_10)] 34 (0, 0))) ∧ Aside0 (Below w.heap.size w wc))
       case first =>
        have H := HC45.out
        clear HC45
        by_cases c46 : a0 = 3
        rotate_left
        ·rw [if_neg c46] at H
         have c46b0 : (a0 == 3) = false := beq_eq_false_iff_ne.mpr c46
         have c46b1 : (a0 != 3) = true := bne_iff_ne.mpr c46
         (first | rw [c46b0] | (simp only [i64_w, i32_w]; rw [c46b0]) | skip)
         have H' := Aside0.mk H
         clear H
         go_wp2
         go_meet
         case rel => exact ⟨_, (false), q11y5, H', ⟨by have := HJ3.out; have := HJ7.out; have := HJ26.out; first | omega | exact Nat.le_refl _⟩, ⟨by (with_reducible repeat (first | refine blk_drewN ?_ _ | refine blk_drew ?_ | refine blk_alloc ?_ _)); exact BK299.out⟩, ⟨by (with_reducible repeat (first | refine blk_drewN ?_ _ | refine blk_drew ?_ | refine blk_alloc ?_ _)); exact BK300.out⟩, ⟨by repeat (first | (with_reducible first | exact HB.out | apply below_alloc | apply pw_below_drewN | apply below_drew1 | refine below_set ?_ GE299.out | refine below_set ?_ GE300.out) | exact HB.out)⟩⟩
        rw [if_pos c46] at H
        have c46b0 : (a0 == 3) = true := beq_iff_eq.mpr c46
        have c46b1 : (a0 != 3) = false := bne_eq_false_iff_eq.mpr c46
        clear c46
        (first | rw [c46b0] | (simp only [i64_w, i32_w]; rw [c46b0]) | skip)
        have H' := Aside0.mk H
        clear H
        have hnb47 := NB299_300.out
        have hnc47 := NB300_299.out
        have hcz48_0 : wc.cell? ⟨gb299, 0, none⟩ = some (.int .u64 a1_0) := (blk_cell BK299.out 0).trans rfl
        have hcz48_1 : wc.cell? ⟨gb299, 1, none⟩ = some (.int .u64 a1_1) := (blk_cell BK299.out 1).trans rfl
        have hcz48_2 : wc.cell? ⟨gb299, 2, none⟩ = some (.int .u64 a1_2) := (blk_cell BK299.out 2).trans rfl
        have hcz48_3 : wc.cell? ⟨gb299, 3, none⟩ = some (.string a1_3) := (blk_cell BK299.out 3).trans rfl
        have hcz48_4 : wc.cell? ⟨gb299, 4, none⟩ = some (.string a1_4) := (blk_cell BK299.out 4).trans rfl
        have hcz48_5 : wc.cell? ⟨gb299, 5, none⟩ = some (.int .i64 a1_5) := (blk_cell BK299.out 5).trans rfl
        have hcz48_6 : wc.cell? ⟨gb299, 6, none⟩ = some (.int .i64 a1_6) := (blk_cell BK299.out 6).trans rfl
        have hcz48_7 : wc.cell? ⟨gb299, 7, none⟩ = some (.int .i64 a1_7) := (blk_cell BK299.out 7).trans rfl
        have hcz48_8 : wc.cell? ⟨gb299, 8, none⟩ = some (.slice A1_8 l1_8.length c1_8) := (blk_cell BK299.out 8).trans rfl
        have hcz48_9 : wc.cell? ⟨gb299, 9, none⟩ = some (.slice A1_9 l1_9.length c1_9) := (blk_cell BK299.out 9).trans rfl
        have hcz48_10 : wc.cell? ⟨gb299, 10, none⟩ = some (.slice A1_10 l1_10.length c1_10) := (blk_cell BK299.out 10).trans rfl
        have hfz48_0 := blk_frozen BK299.out 0
        have hfz48_1 := blk_frozen BK299.out 1
        have hfz48_2 := blk_frozen BK299.out 2
        have hfz48_3 := blk_frozen BK299.out 3
        have hfz48_4 := blk_frozen BK299.out 4
        have hfz48_5 := blk_frozen BK299.out 5
        have hfz48_6 := blk_frozen BK299.out 6
        have hfz48_7 := blk_frozen BK299.out 7
        have hfz48_8 := blk_frozen BK299.out 8
        have hfz48_9 := blk_frozen BK299.out 9
        have hfz48_10 := blk_frozen BK299.out 10
        have hcz49_0 : wc.cell? ⟨gb300, 0, none⟩ = some (.int .u64 a2_0) := (blk_cell BK300.out 0).trans rfl
        have hcz49_1 : wc.cell? ⟨gb300, 1, none⟩ = some (.int .u64 a2_1) := (blk_cell BK300.out 1).trans rfl
        have hcz49_2 : wc.cell? ⟨gb300, 2, none⟩ = some (.int .u64 a2_2) := (blk_cell BK300.out 2).trans rfl
        have hcz49_3 : wc.cell? ⟨gb300, 3, none⟩ = some (.string a2_3) := (blk_cell BK300.out 3).trans rfl
        have hcz49_4 : wc.cell? ⟨gb300, 4, none⟩ = some (.string a2_4) := (blk_cell BK300.out 4).trans rfl
        have hcz49_5 : wc.cell? ⟨gb300, 5, none⟩ = some (.int .i64 a2_5) := (blk_cell BK300.out 5).trans rfl
        have hcz49_6 : wc.cell? ⟨gb300, 6, none⟩ = some (.int .i64 a2_6) := (blk_cell BK300.out 6).trans rfl
        have hcz49_7 : wc.cell? ⟨gb300, 7, none⟩ = some (.int .i64 a2_7) := (blk_cell BK300.out 7).trans rfl
        have hcz49_8 : wc.cell? ⟨gb300, 8, none⟩ = some (.slice A2_8 l2_8.length c2_8) := (blk_cell BK300.out 8).trans rfl
        have hcz49_9 : wc.cell? ⟨gb300, 9, none⟩ = some (.slice A2_9 l2_9.length c2_9) := (blk_cell BK300.out 9).trans rfl
        have hcz49_10 : wc.cell? ⟨gb300, 10, none⟩ = some (.slice A2_10 l2_10.length c2_10) := (blk_cell BK300.out 10).trans rfl
        have hfz49_0 := blk_frozen BK300.out 0
        have hfz49_1 := blk_frozen BK300.out 1
        have hfz49_2 := blk_frozen BK300.out 2
        have hfz49_3 := blk_frozen BK300.out 3
        have hfz49_4 := blk_frozen BK300.out 4
        have hfz49_5 := blk_frozen BK300.out 5
        have hfz49_6 := blk_frozen BK300.out 6
        have hfz49_7 := blk_frozen BK300.out 7
        have hfz49_8 := blk_frozen BK300.out 8
        have hfz49_9 := blk_frozen BK300.out 9
        have hfz49_10 := blk_frozen BK300.out 10
        go_wp2
        go_meet
        case rel => exact ⟨_, ((a1_6 != a2_6)), q11y5, H', ⟨by have := HJ3.out; have := HJ7.out; have := HJ26.out; first | omega | exact Nat.le_refl _⟩, ⟨by (with_reducible repeat (first | refine blk_drewN ?_ _ | refine blk_drew ?_ | refine blk_alloc ?_ _)); exact BK299.out⟩, ⟨by (with_reducible repeat (first | refine blk_drewN ?_ _ | refine blk_drew ?_ | refine blk_alloc ?_ _)); exact BK300.out⟩, ⟨by repeat (first | (with_reducible first | exact HB.out | apply below_alloc | apply pw_below_drewN | apply below_drew1 | refine below_set ?_ GE299.out | refine below_set ?_ GE300.out) | exact HB.out)⟩⟩
       case rest =>
        clear HC45
        try clear c1
        try clear c2
        try clear p2
        try clear c3
        try clear c4
        try clear c7
        try clear c7b0
        try clear c7b1
        try clear c9
        try clear c10
        try clear c10b0
        try clear c10b1
        try clear c11
        try clear c14
        try clear c14b0
        try clear c14b1
        try clear c15
        try clear c15b0
        try clear c15b1
        try clear c16
        try clear c17
        try clear c28
        try clear c28b0
        try clear c28b1
        try clear c29
        try clear c32
        try clear c33
        try clear c33b0
        try clear c33b1
        try clear c34
        try clear c34b0
        try clear c34b1
        try clear c36
        try clear c46
        try clear c46b0
        try clear c46b1
        try clear c47
        try clear hcz12_0 hcz12_1 hcz12_10 hcz12_2 hcz12_3 hcz12_4 hcz12_5 hcz12_6 hcz12_7 hcz12_8 hcz12_9
        try clear hcz13_0 hcz13_1 hcz13_10 hcz13_2 hcz13_3 hcz13_4 hcz13_5 hcz13_6 hcz13_7 hcz13_8 hcz13_9
        try clear hcz18_0 hcz18_1 hcz18_10 hcz18_2 hcz18_3 hcz18_4 hcz18_5 hcz18_6 hcz18_7 hcz18_8 hcz18_9
        try clear hcz19_0 hcz19_1 hcz19_10 hcz19_2 hcz19_3 hcz19_4 hcz19_5 hcz19_6 hcz19_7 hcz19_8 hcz19_9
        try clear hcz22_0 hcz22_1 hcz22_10 hcz22_2 hcz22_3 hcz22_4 hcz22_5 hcz22_6 hcz22_7 hcz22_8 hcz22_9
        try clear hcz30_0 hcz30_1 hcz30_10 hcz30_2 hcz30_3 hcz30_4 hcz30_5 hcz30_6 hcz30_7 hcz30_8 hcz30_9
        try clear hcz31_0 hcz31_1 hcz31_10 hcz31_2 hcz31_3 hcz31_4 hcz31_5 hcz31_6 hcz31_7 hcz31_8 hcz31_9
        try clear hcz37_0 hcz37_1 hcz37_10 hcz37_2 hcz37_3 hcz37_4 hcz37_5 hcz37_6 hcz37_7 hcz37_8 hcz37_9
        try clear hcz40_0 hcz40_1 hcz40_10 hcz40_2 hcz40_3 hcz40_4 hcz40_5 hcz40_6 hcz40_7 hcz40_8 hcz40_9
        try clear hcz48_0 hcz48_1 hcz48_10 hcz48_2 hcz48_3 hcz48_4 hcz48_5 hcz48_6 hcz48_7 hcz48_8 hcz48_9
        try clear hcz49_0 hcz49_1 hcz49_10 hcz49_2 hcz49_3 hcz49_4 hcz49_5 hcz49_6 hcz49_7 hcz49_8 hcz49_9
        try clear hfz12_0 hfz12_1 hfz12_10 hfz12_2 hfz12_3 hfz12_4 hfz12_5 hfz12_6 hfz12_7 hfz12_8 hfz12_9
        try clear hfz13_0 hfz13_1 hfz13_10 hfz13_2 hfz13_3 hfz13_4 hfz13_5 hfz13_6 hfz13_7 hfz13_8 hfz13_9
        try clear hfz18_0 hfz18_1 hfz18_10 hfz18_2 hfz18_3 hfz18_4 hfz18_5 hfz18_6 hfz18_7 hfz18_8 hfz18_9
        try clear hfz19_0 hfz19_1 hfz19_10 hfz19_2 hfz19_3 hfz19_4 hfz19_5 hfz19_6 hfz19_7 hfz19_8 hfz19_9
        try clear hfz22_0 hfz22_1 hfz22_10 hfz22_2 hfz22_3 hfz22_4 hfz22_5 hfz22_6 hfz22_7 hfz22_8 hfz22_9
        try clear hfz30_0 hfz30_1 hfz30_10 hfz30_2 hfz30_3 hfz30_4 hfz30_5 hfz30_6 hfz30_7 hfz30_8 hfz30_9
        try clear hfz31_0 hfz31_1 hfz31_10 hfz31_2 hfz31_3 hfz31_4 hfz31_5 hfz31_6 hfz31_7 hfz31_8 hfz31_9
        try clear hfz37_0 hfz37_1 hfz37_10 hfz37_2 hfz37_3 hfz37_4 hfz37_5 hfz37_6 hfz37_7 hfz37_8 hfz37_9
        try clear hfz40_0 hfz40_1 hfz40_10 hfz40_2 hfz40_3 hfz40_4 hfz40_5 hfz40_6 hfz40_7 hfz40_8 hfz40_9
        try clear hfz48_0 hfz48_1 hfz48_10 hfz48_2 hfz48_3 hfz48_4 hfz48_5 hfz48_6 hfz48_7 hfz48_8 hfz48_9
        try clear hfz49_0 hfz49_1 hfz49_10 hfz49_2 hfz49_3 hfz49_4 hfz49_5 hfz49_6 hfz49_7 hfz49_8 hfz49_9
        try clear p2
        obtain ⟨kq, x49_44, rfl, HA, HJ44, BK299, BK300, HB⟩ := hcut
        cases kq with
        | zero => exact absurd HA.out (by simp [cambiumref18_Before.j3])
        | succ kj44 =>
         have H := HA.out
         clear HA
         simp only [cambiumref18_Before.j3] at H
         by_cases c50 : x49_44 = true
         ·subst c50
          have H1 : (some (decide (a1_6 < a2_6))) = some r := by rw [if_pos rfl] at H; exact H
          clear H
          have H := H1
          clear H1
          obtain rfl := Option.some.inj H
          have hnb51 := NB299_300.out
          have hnc51 := NB300_299.out
          have hcz52_0 : wc.cell? ⟨gb299, 0, none⟩ = some (.int .u64 a1_0) := (blk_cell BK299.out 0).trans rfl
          have hcz52_1 : wc.cell? ⟨gb299, 1, none⟩ = some (.int .u64 a1_1) := (blk_cell BK299.out 1).trans rfl
          have hcz52_2 : wc.cell? ⟨gb299, 2, none⟩ = some (.int .u64 a1_2) := (blk_cell BK299.out 2).trans rfl
          have hcz52_3 : wc.cell? ⟨gb299, 3, none⟩ = some (.string a1_3) := (blk_cell BK299.out 3).trans rfl
          have hcz52_4 : wc.cell? ⟨gb299, 4, none⟩ = some (.string a1_4) := (blk_cell BK299.out 4).trans rfl
          have hcz52_5 : wc.cell? ⟨gb299, 5, none⟩ = some (.int .i64 a1_5) := (blk_cell BK299.out 5).trans rfl
          have hcz52_6 : wc.cell? ⟨gb299, 6, none⟩ = some (.int .i64 a1_6) := (blk_cell BK299.out 6).trans rfl
          have hcz52_7 : wc.cell? ⟨gb299, 7, none⟩ = some (.int .i64 a1_7) := (blk_cell BK299.out 7).trans rfl
          have hcz52_8 : wc.cell? ⟨gb299, 8, none⟩ = some (.slice A1_8 l1_8.length c1_8) := (blk_cell BK299.out 8).trans rfl
          have hcz52_9 : wc.cell? ⟨gb299, 9, none⟩ = some (.slice A1_9 l1_9.length c1_9) := (blk_cell BK299.out 9).trans rfl
          have hcz52_10 : wc.cell? ⟨gb299, 10, none⟩ = some (.slice A1_10 l1_10.length c1_10) := (blk_cell BK299.out 10).trans rfl
          have hfz52_0 := blk_frozen BK299.out 0
          have hfz52_1 := blk_frozen BK299.out 1
          have hfz52_2 := blk_frozen BK299.out 2
          have hfz52_3 := blk_frozen BK299.out 3
          have hfz52_4 := blk_frozen BK299.out 4
          have hfz52_5 := blk_frozen BK299.out 5
          have hfz52_6 := blk_frozen BK299.out 6
          have hfz52_7 := blk_frozen BK299.out 7
          have hfz52_8 := blk_frozen BK299.out 8
          have hfz52_9 := blk_frozen BK299.out 9
          have hfz52_10 := blk_frozen BK299.out 10
          have hcz53_0 : wc.cell? ⟨gb300, 0, none⟩ = some (.int .u64 a2_0) := (blk_cell BK300.out 0).trans rfl
          have hcz53_1 : wc.cell? ⟨gb300, 1, none⟩ = some (.int .u64 a2_1) := (blk_cell BK300.out 1).trans rfl
          have hcz53_2 : wc.cell? ⟨gb300, 2, none⟩ = some (.int .u64 a2_2) := (blk_cell BK300.out 2).trans rfl
          have hcz53_3 : wc.cell? ⟨gb300, 3, none⟩ = some (.string a2_3) := (blk_cell BK300.out 3).trans rfl
          have hcz53_4 : wc.cell? ⟨gb300, 4, none⟩ = some (.string a2_4) := (blk_cell BK300.out 4).trans rfl
          have hcz53_5 : wc.cell? ⟨gb300, 5, none⟩ = some (.int .i64 a2_5) := (blk_cell BK300.out 5).trans rfl
          have hcz53_6 : wc.cell? ⟨gb300, 6, none⟩ = some (.int .i64 a2_6) := (blk_cell BK300.out 6).trans rfl
          have hcz53_7 : wc.cell? ⟨gb300, 7, none⟩ = some (.int .i64 a2_7) := (blk_cell BK300.out 7).trans rfl
          have hcz53_8 : wc.cell? ⟨gb300, 8, none⟩ = some (.slice A2_8 l2_8.length c2_8) := (blk_cell BK300.out 8).trans rfl
          have hcz53_9 : wc.cell? ⟨gb300, 9, none⟩ = some (.slice A2_9 l2_9.length c2_9) := (blk_cell BK300.out 9).trans rfl
          have hcz53_10 : wc.cell? ⟨gb300, 10, none⟩ = some (.slice A2_10 l2_10.length c2_10) := (blk_cell BK300.out 10).trans rfl
          have hfz53_0 := blk_frozen BK300.out 0
          have hfz53_1 := blk_frozen BK300.out 1
          have hfz53_2 := blk_frozen BK300.out 2
          have hfz53_3 := blk_frozen BK300.out 3
          have hfz53_4 := blk_frozen BK300.out 4
          have hfz53_5 := blk_frozen BK300.out 5
          have hfz53_6 := blk_frozen BK300.out 6
          have hfz53_7 := blk_frozen BK300.out 7
          have hfz53_8 := blk_frozen BK300.out 8
          have hfz53_9 := blk_frozen BK300.out 9
          have hfz53_10 := blk_frozen BK300.out 10
          go_wp2
          go_ret
          exact ⟨by first | rfl | (simp [errW_none, errW_some] <;> rfl) | (simp [*, errW_none, errW_some] <;> rfl), by repeat (first | (with_reducible first | exact HB.out | apply below_alloc | apply pw_below_drewN | apply below_drew1 | refine below_set ?_ GE299.out | refine below_set ?_ GE300.out) | exact HB.out)⟩
         replace c50 := Bool.eq_false_iff.mpr c50
         subst c50
         have H1 : (if a0 = 3 then (cambiumref18_Before.j4 kj44 false a1_0 a1_1 a1_2 a1_3 a1_4 a1_5 a1_6 a1_7 l1_8 l1_9 l1_10 a2_0 a2_1 a2_2 a2_3 a2_4 a2_5 a2_6 a2_7 l2_8 l2_9 l2_10) else (cambiumref18_Before.j4 kj44 (a1_5 != a2_5) a1_0 a1_1 a1_2 a1_3 a1_4 a1_5 a1_6 a1_7 l1_8 l1_9 l1_10 a2_0 a2_1 a2_2 a2_3 a2_4 a2_5 a2_6 a2_7 l2_8 l2_9 l2_10)) = some r := by rw [if_neg (show ¬ (false = true) by decide)] at H; exact H
         clear H
         have H := H1
         clear H1
         have HC54 := Aside0.mk H
         clear H
         go_upto_region 8 with (fail)
         go_cut [63] (fun v63 wc => ∃ (kq : Nat) (x63_53 : Bool), v63 = .bool x63_53 ∧ Aside0 (cambiumref18_Before.j4 kq x63_53 a1_0 a1_1 a1_2 a1_3 a1_4 a1_5 a1_6 a1_7 l1_8 l1_9 l1_10 a2_0 a2_1 a2_2 a2_3 a2_4 a2_5 a2_6 a2_7 l2_8 l2_9 l2_10 = some r) ∧ Aside0 (kq ≤ kj44) ∧ Aside0 (wc.heap[gb299]? = some (.cells #[.int .u64 a1_0, .int .u64 a1_1, .int .u64 a1_2, .string a1_3, .string a1_4, .int .i64 a1_5, .int .i64 a1_6, .int .i64 a1_7, (.slice A1_8 l1_8.length c1_8), (.slice A1_9 l1_9.length c1_9), (.slice A1_10 l1_10.length c1_10)] 34 (0, 0))) ∧ Aside0 (wc.heap[gb300]? = some (.cells #[.int .u64 a2_0, .int .u64 a2_1, .int .u64 a2_2, .string a2_3, .string a2_4, .int .i64 a2_5, .int .i64 a2_6, .int .i64 a2_7, (.slice A2_8 l2_8.length c2_8), (.slice A2_9 l2_9.length c2_9), (.slice A2_10 l2_10.length c2_10)] 34 (0, 0))) ∧ Aside0 (Below w.heap.size w wc))
         case first =>
          have H := HC54.out
          clear HC54
          by_cases c55 : a0 = 3
          ·rw [if_pos c55] at H
           have c55b0 : (a0 == 3) = true := beq_iff_eq.mpr c55
           have c55b1 : (a0 != 3) = false := bne_eq_false_iff_eq.mpr c55
           clear c55
           (first | rw [c55b0] | (simp only [i64_w, i32_w]; rw [c55b0]) | skip)
           have H' := Aside0.mk H
           clear H
           go_wp2
           go_meet
           case rel => exact ⟨_, (false), q11y5, H', ⟨by have := HJ3.out; have := HJ7.out; have := HJ26.out; have := HJ44.out; first | omega | exact Nat.le_refl _⟩, ⟨by (with_reducible repeat (first | refine blk_drewN ?_ _ | refine blk_drew ?_ | refine blk_alloc ?_ _)); exact BK299.out⟩, ⟨by (with_reducible repeat (first | refine blk_drewN ?_ _ | refine blk_drew ?_ | refine blk_alloc ?_ _)); exact BK300.out⟩, ⟨by repeat (first | (with_reducible first | exact HB.out | apply below_alloc | apply pw_below_drewN | apply below_drew1 | refine below_set ?_ GE299.out | refine below_set ?_ GE300.out) | exact HB.out)⟩⟩
          rw [if_neg c55] at H
          have c55b0 : (a0 == 3) = false := beq_eq_false_iff_ne.mpr c55
          have c55b1 : (a0 != 3) = true := bne_iff_ne.mpr c55
          (first | rw [c55b0] | (simp only [i64_w, i32_w]; rw [c55b0]) | skip)
          have H' := Aside0.mk H
          clear H
          have hnb56 := NB299_300.out
          have hnc56 := NB300_299.out
          have hcz57_0 : wc.cell? ⟨gb299, 0, none⟩ = some (.int .u64 a1_0) := (blk_cell BK299.out 0).trans rfl
          have hcz57_1 : wc.cell? ⟨gb299, 1, none⟩ = some (.int .u64 a1_1) := (blk_cell BK299.out 1).trans rfl
          have hcz57_2 : wc.cell? ⟨gb299, 2, none⟩ = some (.int .u64 a1_2) := (blk_cell BK299.out 2).trans rfl
          have hcz57_3 : wc.cell? ⟨gb299, 3, none⟩ = some (.string a1_3) := (blk_cell BK299.out 3).trans rfl
          have hcz57_4 : wc.cell? ⟨gb299, 4, none⟩ = some (.string a1_4) := (blk_cell BK299.out 4).trans rfl
          have hcz57_5 : wc.cell? ⟨gb299, 5, none⟩ = some (.int .i64 a1_5) := (blk_cell BK299.out 5).trans rfl
          have hcz57_6 : wc.cell? ⟨gb299, 6, none⟩ = some (.int .i64 a1_6) := (blk_cell BK299.out 6).trans rfl
          have hcz57_7 : wc.cell? ⟨gb299, 7, none⟩ = some (.int .i64 a1_7) := (blk_cell BK299.out 7).trans rfl
          have hcz57_8 : wc.cell? ⟨gb299, 8, none⟩ = some (.slice A1_8 l1_8.length c1_8) := (blk_cell BK299.out 8).trans rfl
          have hcz57_9 : wc.cell? ⟨gb299, 9, none⟩ = some (.slice A1_9 l1_9.length c1_9) := (blk_cell BK299.out 9).trans rfl
          have hcz57_10 : wc.cell? ⟨gb299, 10, none⟩ = some (.slice A1_10 l1_10.length c1_10) := (blk_cell BK299.out 10).trans rfl
          have hfz57_0 := blk_frozen BK299.out 0
          have hfz57_1 := blk_frozen BK299.out 1
          have hfz57_2 := blk_frozen BK299.out 2
          have hfz57_3 := blk_frozen BK299.out 3
          have hfz57_4 := blk_frozen BK299.out 4
          have hfz57_5 := blk_frozen BK299.out 5
          have hfz57_6 := blk_frozen BK299.out 6
          have hfz57_7 := blk_frozen BK299.out 7
          have hfz57_8 := blk_frozen BK299.out 8
          have hfz57_9 := blk_frozen BK299.out 9
          have hfz57_10 := blk_frozen BK299.out 10
          have hcz58_0 : wc.cell? ⟨gb300, 0, none⟩ = some (.int .u64 a2_0) := (blk_cell BK300.out 0).trans rfl
          have hcz58_1 : wc.cell? ⟨gb300, 1, none⟩ = some (.int .u64 a2_1) := (blk_cell BK300.out 1).trans rfl
          have hcz58_2 : wc.cell? ⟨gb300, 2, none⟩ = some (.int .u64 a2_2) := (blk_cell BK300.out 2).trans rfl
          have hcz58_3 : wc.cell? ⟨gb300, 3, none⟩ = some (.string a2_3) := (blk_cell BK300.out 3).trans rfl
          have hcz58_4 : wc.cell? ⟨gb300, 4, none⟩ = some (.string a2_4) := (blk_cell BK300.out 4).trans rfl
          have hcz58_5 : wc.cell? ⟨gb300, 5, none⟩ = some (.int .i64 a2_5) := (blk_cell BK300.out 5).trans rfl
          have hcz58_6 : wc.cell? ⟨gb300, 6, none⟩ = some (.int .i64 a2_6) := (blk_cell BK300.out 6).trans rfl
          have hcz58_7 : wc.cell? ⟨gb300, 7, none⟩ = some (.int .i64 a2_7) := (blk_cell BK300.out 7).trans rfl
          have hcz58_8 : wc.cell? ⟨gb300, 8, none⟩ = some (.slice A2_8 l2_8.length c2_8) := (blk_cell BK300.out 8).trans rfl
          have hcz58_9 : wc.cell? ⟨gb300, 9, none⟩ = some (.slice A2_9 l2_9.length c2_9) := (blk_cell BK300.out 9).trans rfl
          have hcz58_10 : wc.cell? ⟨gb300, 10, none⟩ = some (.slice A2_10 l2_10.length c2_10) := (blk_cell BK300.out 10).trans rfl
          have hfz58_0 := blk_frozen BK300.out 0
          have hfz58_1 := blk_frozen BK300.out 1
          have hfz58_2 := blk_frozen BK300.out 2
          have hfz58_3 := blk_frozen BK300.out 3
          have hfz58_4 := blk_frozen BK300.out 4
          have hfz58_5 := blk_frozen BK300.out 5
          have hfz58_6 := blk_frozen BK300.out 6
          have hfz58_7 := blk_frozen BK300.out 7
          have hfz58_8 := blk_frozen BK300.out 8
          have hfz58_9 := blk_frozen BK300.out 9
          have hfz58_10 := blk_frozen BK300.out 10
          go_wp2
          go_meet
          case rel => exact ⟨_, ((a1_5 != a2_5)), q11y5, H', ⟨by have := HJ3.out; have := HJ7.out; have := HJ26.out; have := HJ44.out; first | omega | exact Nat.le_refl _⟩, ⟨by (with_reducible repeat (first | refine blk_drewN ?_ _ | refine blk_drew ?_ | refine blk_alloc ?_ _)); exact BK299.out⟩, ⟨by (with_reducible repeat (first | refine blk_drewN ?_ _ | refine blk_drew ?_ | refine blk_alloc ?_ _)); exact BK300.out⟩, ⟨by repeat (first | (with_reducible first | exact HB.out | apply below_alloc | apply pw_below_drewN | apply below_drew1 | refine below_set ?_ GE299.out | refine below_set ?_ GE300.out) | exact HB.out)⟩⟩
         case rest =>
          clear HC54
          try clear c1
          try clear c2
          try clear p2
          try clear c3
          try clear c4
          try clear c5
          try clear c7
          try clear c7b0
          try clear c7b1
          try clear c9
          try clear c10
          try clear c10b0
          try clear c10b1
          try clear c11
          try clear c14
          try clear c14b0
          try clear c14b1
          try clear c15
          try clear c15b0
          try clear c15b1
          try clear c16
          try clear c17
          try clear c28
          try clear c28b0
          try clear c28b1
          try clear c29
          try clear c32
          try clear c33
          try clear c33b0
          try clear c33b1
          try clear c34
          try clear c34b0
          try clear c34b1
          try clear c36
          try clear c46
          try clear c46b0
          try clear c46b1
          try clear c47
          try clear c50
          try clear c51
          try clear c55
          try clear c55b0
          try clear c55b1
          try clear c56
          try clear hcz12_0 hcz12_1 hcz12_10 hcz12_2 hcz12_3 hcz12_4 hcz12_5 hcz12_6 hcz12_7 hcz12_8 hcz12_9
          try clear hcz13_0 hcz13_1 hcz13_10 hcz13_2 hcz13_3 hcz13_4 hcz13_5 hcz13_6 hcz13_7 hcz13_8 hcz13_9
          try clear hcz18_0 hcz18_1 hcz18_10 hcz18_2 hcz18_3 hcz18_4 hcz18_5 hcz18_6 hcz18_7 hcz18_8 hcz18_9
          try clear hcz19_0 hcz19_1 hcz19_10 hcz19_2 hcz19_3 hcz19_4 hcz19_5 hcz19_6 hcz19_7 hcz19_8 hcz19_9
          try clear hcz22_0 hcz22_1 hcz22_10 hcz22_2 hcz22_3 hcz22_4 hcz22_5 hcz22_6 hcz22_7 hcz22_8 hcz22_9
          try clear hcz30_0 hcz30_1 hcz30_10 hcz30_2 hcz30_3 hcz30_4 hcz30_5 hcz30_6 hcz30_7 hcz30_8 hcz30_9
          try clear hcz31_0 hcz31_1 hcz31_10 hcz31_2 hcz31_3 hcz31_4 hcz31_5 hcz31_6 hcz31_7 hcz31_8 hcz31_9
          try clear hcz37_0 hcz37_1 hcz37_10 hcz37_2 hcz37_3 hcz37_4 hcz37_5 hcz37_6 hcz37_7 hcz37_8 hcz37_9
          try clear hcz40_0 hcz40_1 hcz40_10 hcz40_2 hcz40_3 hcz40_4 hcz40_5 hcz40_6 hcz40_7 hcz40_8 hcz40_9
          try clear hcz48_0 hcz48_1 hcz48_10 hcz48_2 hcz48_3 hcz48_4 hcz48_5 hcz48_6 hcz48_7 hcz48_8 hcz48_9
          try clear hcz49_0 hcz49_1 hcz49_10 hcz49_2 hcz49_3 hcz49_4 hcz49_5 hcz49_6 hcz49_7 hcz49_8 hcz49_9
          try clear hcz52_0 hcz52_1 hcz52_10 hcz52_2 hcz52_3 hcz52_4 hcz52_5 hcz52_6 hcz52_7 hcz52_8 hcz52_9
          try clear hcz53_0 hcz53_1 hcz53_10 hcz53_2 hcz53_3 hcz53_4 hcz53_5 hcz53_6 hcz53_7 hcz53_8 hcz53_9
          try clear hcz57_0 hcz57_1 hcz57_10 hcz57_2 hcz57_3 hcz57_4 hcz57_5 hcz57_6 hcz57_7 hcz57_8 hcz57_9
          try clear hcz58_0 hcz58_1 hcz58_10 hcz58_2 hcz58_3 hcz58_4 hcz58_5 hcz58_6 hcz58_7 hcz58_8 hcz58_9
          try clear hfz12_0 hfz12_1 hfz12_10 hfz12_2 hfz12_3 hfz12_4 hfz12_5 hfz12_6 hfz12_7 hfz12_8 hfz12_9
          try clear hfz13_0 hfz13_1 hfz13_10 hfz13_2 hfz13_3 hfz13_4 hfz13_5 hfz13_6 hfz13_7 hfz13_8 hfz13_9
          try clear hfz18_0 hfz18_1 hfz18_10 hfz18_2 hfz18_3 hfz18_4 hfz18_5 hfz18_6 hfz18_7 hfz18_8 hfz18_9
          try clear hfz19_0 hfz19_1 hfz19_10 hfz19_2 hfz19_3 hfz19_4 hfz19_5 hfz19_6 hfz19_7 hfz19_8 hfz19_9
          try clear hfz22_0 hfz22_1 hfz22_10 hfz22_2 hfz22_3 hfz22_4 hfz22_5 hfz22_6 hfz22_7 hfz22_8 hfz22_9
          try clear hfz30_0 hfz30_1 hfz30_10 hfz30_2 hfz30_3 hfz30_4 hfz30_5 hfz30_6 hfz30_7 hfz30_8 hfz30_9
          try clear hfz31_0 hfz31_1 hfz31_10 hfz31_2 hfz31_3 hfz31_4 hfz31_5 hfz31_6 hfz31_7 hfz31_8 hfz31_9
          try clear hfz37_0 hfz37_1 hfz37_10 hfz37_2 hfz37_3 hfz37_4 hfz37_5 hfz37_6 hfz37_7 hfz37_8 hfz37_9
          try clear hfz40_0 hfz40_1 hfz40_10 hfz40_2 hfz40_3 hfz40_4 hfz40_5 hfz40_6 hfz40_7 hfz40_8 hfz40_9
          try clear hfz48_0 hfz48_1 hfz48_10 hfz48_2 hfz48_3 hfz48_4 hfz48_5 hfz48_6 hfz48_7 hfz48_8 hfz48_9
          try clear hfz49_0 hfz49_1 hfz49_10 hfz49_2 hfz49_3 hfz49_4 hfz49_5 hfz49_6 hfz49_7 hfz49_8 hfz49_9
          try clear hfz52_0 hfz52_1 hfz52_10 hfz52_2 hfz52_3 hfz52_4 hfz52_5 hfz52_6 hfz52_7 hfz52_8 hfz52_9
          try clear hfz53_0 hfz53_1 hfz53_10 hfz53_2 hfz53_3 hfz53_4 hfz53_5 hfz53_6 hfz53_7 hfz53_8 hfz53_9
          try clear hfz57_0 hfz57_1 hfz57_10 hfz57_2 hfz57_3 hfz57_4 hfz57_5 hfz57_6 hfz57_7 hfz57_8 hfz57_9
          try clear hfz58_0 hfz58_1 hfz58_10 hfz58_2 hfz58_3 hfz58_4 hfz58_5 hfz58_6 hfz58_7 hfz58_8 hfz58_9
          try clear p2
          obtain ⟨kq, x63_53, rfl, HA, HJ53, BK299, BK300, HB⟩ := hcut
          cases kq with
          | zero => exact absurd HA.out (by simp [cambiumref18_Before.j4])
          | succ kj53 =>
           have H := HA.out
           clear HA
           simp only [cambiumref18_Before.j4] at H
           by_cases c59 : x63_53 = true
           ·subst c59
            have H1 : (some (decide (a1_5 < a2_5))) = some r := by rw [if_pos rfl] at H; exact H
            clear H
            have H := H1
            clear H1
            obtain rfl := Option.some.inj H
            have hnb60 := NB299_300.out
            have hnc60 := NB300_299.out
            have hcz61_0 : wc.cell? ⟨gb299, 0, none⟩ = some (.int .u64 a1_0) := (blk_cell BK299.out 0).trans rfl
            have hcz61_1 : wc.cell? ⟨gb299, 1, none⟩ = some (.int .u64 a1_1) := (blk_cell BK299.out 1).trans rfl
            have hcz61_2 : wc.cell? ⟨gb299, 2, none⟩ = some (.int .u64 a1_2) := (blk_cell BK299.out 2).trans rfl
            have hcz61_3 : wc.cell? ⟨gb299, 3, none⟩ = some (.string a1_3) := (blk_cell BK299.out 3).trans rfl
            have hcz61_4 : wc.cell? ⟨gb299, 4, none⟩ = some (.string a1_4) := (blk_cell BK299.out 4).trans rfl
            have hcz61_5 : wc.cell? ⟨gb299, 5, none⟩ = some (.int .i64 a1_5) := (blk_cell BK299.out 5).trans rfl
            have hcz61_6 : wc.cell? ⟨gb299, 6, none⟩ = some (.int .i64 a1_6) := (blk_cell BK299.out 6).trans rfl
            have hcz61_7 : wc.cell? ⟨gb299, 7, none⟩ = some (.int .i64 a1_7) := (blk_cell BK299.out 7).trans rfl
            have hcz61_8 : wc.cell? ⟨gb299, 8, none⟩ = some (.slice A1_8 l1_8.length c1_8) := (blk_cell BK299.out 8).trans rfl
            have hcz61_9 : wc.cell? ⟨gb299, 9, none⟩ = some (.slice A1_9 l1_9.length c1_9) := (blk_cell BK299.out 9).trans rfl
            have hcz61_10 : wc.cell? ⟨gb299, 10, none⟩ = some (.slice A1_10 l1_10.length c1_10) := (blk_cell BK299.out 10).trans rfl
            have hfz61_0 := blk_frozen BK299.out 0
            have hfz61_1 := blk_frozen BK299.out 1
            have hfz61_2 := blk_frozen BK299.out 2
            have hfz61_3 := blk_frozen BK299.out 3
            have hfz61_4 := blk_frozen BK299.out 4
            have hfz61_5 := blk_frozen BK299.out 5
            have hfz61_6 := blk_frozen BK299.out 6
            have hfz61_7 := blk_frozen BK299.out 7
            have hfz61_8 := blk_frozen BK299.out 8
            have hfz61_9 := blk_frozen BK299.out 9
            have hfz61_10 := blk_frozen BK299.out 10
            have hcz62_0 : wc.cell? ⟨gb300, 0, none⟩ = some (.int .u64 a2_0) := (blk_cell BK300.out 0).trans rfl
            have hcz62_1 : wc.cell? ⟨gb300, 1, none⟩ = some (.int .u64 a2_1) := (blk_cell BK300.out 1).trans rfl
            have hcz62_2 : wc.cell? ⟨gb300, 2, none⟩ = some (.int .u64 a2_2) := (blk_cell BK300.out 2).trans rfl
            have hcz62_3 : wc.cell? ⟨gb300, 3, none⟩ = some (.string a2_3) := (blk_cell BK300.out 3).trans rfl
            have hcz62_4 : wc.cell? ⟨gb300, 4, none⟩ = some (.string a2_4) := (blk_cell BK300.out 4).trans rfl
            have hcz62_5 : wc.cell? ⟨gb300, 5, none⟩ = some (.int .i64 a2_5) := (blk_cell BK300.out 5).trans rfl
            have hcz62_6 : wc.cell? ⟨gb300, 6, none⟩ = some (.int .i64 a2_6) := (blk_cell BK300.out 6).trans rfl
            have hcz62_7 : wc.cell? ⟨gb300, 7, none⟩ = some (.int .i64 a2_7) := (blk_cell BK300.out 7).trans rfl
            have hcz62_8 : wc.cell? ⟨gb300, 8, none⟩ = some (.slice A2_8 l2_8.length c2_8) := (blk_cell BK300.out 8).trans rfl
            have hcz62_9 : wc.cell? ⟨gb300, 9, none⟩ = some (.slice A2_9 l2_9.length c2_9) := (blk_cell BK300.out 9).trans rfl
            have hcz62_10 : wc.cell? ⟨gb300, 10, none⟩ = some (.slice A2_10 l2_10.length c2_10) := (blk_cell BK300.out 10).trans rfl
            have hfz62_0 := blk_frozen BK300.out 0
            have hfz62_1 := blk_frozen BK300.out 1
            have hfz62_2 := blk_frozen BK300.out 2
            have hfz62_3 := blk_frozen BK300.out 3
            have hfz62_4 := blk_frozen BK300.out 4
            have hfz62_5 := blk_frozen BK300.out 5
            have hfz62_6 := blk_frozen BK300.out 6
            have hfz62_7 := blk_frozen BK300.out 7
            have hfz62_8 := blk_frozen BK300.out 8
            have hfz62_9 := blk_frozen BK300.out 9
            have hfz62_10 := blk_frozen BK300.out 10
            go_wp2
            go_ret
            exact ⟨by first | rfl | (simp [errW_none, errW_some] <;> rfl) | (simp [*, errW_none, errW_some] <;> rfl), by repeat (first | (with_reducible first | exact HB.out | apply below_alloc | apply pw_below_drewN | apply below_drew1 | refine below_set ?_ GE299.out | refine below_set ?_ GE300.out) | exact HB.out)⟩
           replace c59 := Bool.eq_false_iff.mpr c59
           subst c59
           have H1 : (if a1_0 = a2_0 then (some (decide (a1_1 < a2_1))) else (some (decide (a1_0 < a2_0)))) = some r := by rw [if_neg (show ¬ (false = true) by decide)] at H; exact H
           clear H
           have H := H1
           clear H1
           by_cases c63 : a1_0 = a2_0
           ·rw [if_pos c63] at H
            have c63b0 : (a1_0 == a2_0) = true := beq_iff_eq.mpr c63
            have c63b1 : (a1_0 != a2_0) = false := bne_eq_false_iff_eq.mpr c63
            clear c63
            obtain rfl := Option.some.inj H
            have hnb64 := NB299_300.out
            have hnc64 := NB300_299.out
            have hcz65_0 : wc.cell? ⟨gb299, 0, none⟩ = some (.int .u64 a1_0) := (blk_cell BK299.out 0).trans rfl
            have hcz65_1 : wc.cell? ⟨gb299, 1, none⟩ = some (.int .u64 a1_1) := (blk_cell BK299.out 1).trans rfl
            have hcz65_2 : wc.cell? ⟨gb299, 2, none⟩ = some (.int .u64 a1_2) := (blk_cell BK299.out 2).trans rfl
            have hcz65_3 : wc.cell? ⟨gb299, 3, none⟩ = some (.string a1_3) := (blk_cell BK299.out 3).trans rfl
            have hcz65_4 : wc.cell? ⟨gb299, 4, none⟩ = some (.string a1_4) := (blk_cell BK299.out 4).trans rfl
            have hcz65_5 : wc.cell? ⟨gb299, 5, none⟩ = some (.int .i64 a1_5) := (blk_cell BK299.out 5).trans rfl
            have hcz65_6 : wc.cell? ⟨gb299, 6, none⟩ = some (.int .i64 a1_6) := (blk_cell BK299.out 6).trans rfl
            have hcz65_7 : wc.cell? ⟨gb299, 7, none⟩ = some (.int .i64 a1_7) := (blk_cell BK299.out 7).trans rfl
            have hcz65_8 : wc.cell? ⟨gb299, 8, none⟩ = some (.slice A1_8 l1_8.length c1_8) := (blk_cell BK299.out 8).trans rfl
            have hcz65_9 : wc.cell? ⟨gb299, 9, none⟩ = some (.slice A1_9 l1_9.length c1_9) := (blk_cell BK299.out 9).trans rfl
            have hcz65_10 : wc.cell? ⟨gb299, 10, none⟩ = some (.slice A1_10 l1_10.length c1_10) := (blk_cell BK299.out 10).trans rfl
            have hfz65_0 := blk_frozen BK299.out 0
            have hfz65_1 := blk_frozen BK299.out 1
            have hfz65_2 := blk_frozen BK299.out 2
            have hfz65_3 := blk_frozen BK299.out 3
            have hfz65_4 := blk_frozen BK299.out 4
            have hfz65_5 := blk_frozen BK299.out 5
            have hfz65_6 := blk_frozen BK299.out 6
            have hfz65_7 := blk_frozen BK299.out 7
            have hfz65_8 := blk_frozen BK299.out 8
            have hfz65_9 := blk_frozen BK299.out 9
            have hfz65_10 := blk_frozen BK299.out 10
            have hcz66_0 : wc.cell? ⟨gb300, 0, none⟩ = some (.int .u64 a2_0) := (blk_cell BK300.out 0).trans rfl
            have hcz66_1 : wc.cell? ⟨gb300, 1, none⟩ = some (.int .u64 a2_1) := (blk_cell BK300.out 1).trans rfl
            have hcz66_2 : wc.cell? ⟨gb300, 2, none⟩ = some (.int .u64 a2_2) := (blk_cell BK300.out 2).trans rfl
            have hcz66_3 : wc.cell? ⟨gb300, 3, none⟩ = some (.string a2_3) := (blk_cell BK300.out 3).trans rfl
            have hcz66_4 : wc.cell? ⟨gb300, 4, none⟩ = some (.string a2_4) := (blk_cell BK300.out 4).trans rfl
            have hcz66_5 : wc.cell? ⟨gb300, 5, none⟩ = some (.int .i64 a2_5) := (blk_cell BK300.out 5).trans rfl
            have hcz66_6 : wc.cell? ⟨gb300, 6, none⟩ = some (.int .i64 a2_6) := (blk_cell BK300.out 6).trans rfl
            have hcz66_7 : wc.cell? ⟨gb300, 7, none⟩ = some (.int .i64 a2_7) := (blk_cell BK300.out 7).trans rfl
            have hcz66_8 : wc.cell? ⟨gb300, 8, none⟩ = some (.slice A2_8 l2_8.length c2_8) := (blk_cell BK300.out 8).trans rfl
            have hcz66_9 : wc.cell? ⟨gb300, 9, none⟩ = some (.slice A2_9 l2_9.length c2_9) := (blk_cell BK300.out 9).trans rfl
            have hcz66_10 : wc.cell? ⟨gb300, 10, none⟩ = some (.slice A2_10 l2_10.length c2_10) := (blk_cell BK300.out 10).trans rfl
            have hfz66_0 := blk_frozen BK300.out 0
            have hfz66_1 := blk_frozen BK300.out 1
            have hfz66_2 := blk_frozen BK300.out 2
            have hfz66_3 := blk_frozen BK300.out 3
            have hfz66_4 := blk_frozen BK300.out 4
            have hfz66_5 := blk_frozen BK300.out 5
            have hfz66_6 := blk_frozen BK300.out 6
            have hfz66_7 := blk_frozen BK300.out 7
            have hfz66_8 := blk_frozen BK300.out 8
            have hfz66_9 := blk_frozen BK300.out 9
            have hfz66_10 := blk_frozen BK300.out 10
            go_wp2
            go_ret
            exact ⟨by first | rfl | (simp [errW_none, errW_some] <;> rfl) | (simp [*, errW_none, errW_some] <;> rfl), by repeat (first | (with_reducible first | exact HB.out | apply below_alloc | apply pw_below_drewN | apply below_drew1 | refine below_set ?_ GE299.out | refine below_set ?_ GE300.out) | exact HB.out)⟩
           rw [if_neg c63] at H
           have c63b0 : (a1_0 == a2_0) = false := beq_eq_false_iff_ne.mpr c63
           have c63b1 : (a1_0 != a2_0) = true := bne_iff_ne.mpr c63
           obtain rfl := Option.some.inj H
           have hnb67 := NB299_300.out
           have hnc67 := NB300_299.out
           have hcz68_0 : wc.cell? ⟨gb299, 0, none⟩ = some (.int .u64 a1_0) := (blk_cell BK299.out 0).trans rfl
           have hcz68_1 : wc.cell? ⟨gb299, 1, none⟩ = some (.int .u64 a1_1) := (blk_cell BK299.out 1).trans rfl
           have hcz68_2 : wc.cell? ⟨gb299, 2, none⟩ = some (.int .u64 a1_2) := (blk_cell BK299.out 2).trans rfl
           have hcz68_3 : wc.cell? ⟨gb299, 3, none⟩ = some (.string a1_3) := (blk_cell BK299.out 3).trans rfl
           have hcz68_4 : wc.cell? ⟨gb299, 4, none⟩ = some (.string a1_4) := (blk_cell BK299.out 4).trans rfl
           have hcz68_5 : wc.cell? ⟨gb299, 5, none⟩ = some (.int .i64 a1_5) := (blk_cell BK299.out 5).trans rfl
           have hcz68_6 : wc.cell? ⟨gb299, 6, none⟩ = some (.int .i64 a1_6) := (blk_cell BK299.out 6).trans rfl
           have hcz68_7 : wc.cell? ⟨gb299, 7, none⟩ = some (.int .i64 a1_7) := (blk_cell BK299.out 7).trans rfl
           have hcz68_8 : wc.cell? ⟨gb299, 8, none⟩ = some (.slice A1_8 l1_8.length c1_8) := (blk_cell BK299.out 8).trans rfl
           have hcz68_9 : wc.cell? ⟨gb299, 9, none⟩ = some (.slice A1_9 l1_9.length c1_9) := (blk_cell BK299.out 9).trans rfl
           have hcz68_10 : wc.cell? ⟨gb299, 10, none⟩ = some (.slice A1_10 l1_10.length c1_10) := (blk_cell BK299.out 10).trans rfl
           have hfz68_0 := blk_frozen BK299.out 0
           have hfz68_1 := blk_frozen BK299.out 1
           have hfz68_2 := blk_frozen BK299.out 2
           have hfz68_3 := blk_frozen BK299.out 3
           have hfz68_4 := blk_frozen BK299.out 4
           have hfz68_5 := blk_frozen BK299.out 5
           have hfz68_6 := blk_frozen BK299.out 6
           have hfz68_7 := blk_frozen BK299.out 7
           have hfz68_8 := blk_frozen BK299.out 8
           have hfz68_9 := blk_frozen BK299.out 9
           have hfz68_10 := blk_frozen BK299.out 10
           have hcz69_0 : wc.cell? ⟨gb300, 0, none⟩ = some (.int .u64 a2_0) := (blk_cell BK300.out 0).trans rfl
           have hcz69_1 : wc.cell? ⟨gb300, 1, none⟩ = some (.int .u64 a2_1) := (blk_cell BK300.out 1).trans rfl
           have hcz69_2 : wc.cell? ⟨gb300, 2, none⟩ = some (.int .u64 a2_2) := (blk_cell BK300.out 2).trans rfl
           have hcz69_3 : wc.cell? ⟨gb300, 3, none⟩ = some (.string a2_3) := (blk_cell BK300.out 3).trans rfl
           have hcz69_4 : wc.cell? ⟨gb300, 4, none⟩ = some (.string a2_4) := (blk_cell BK300.out 4).trans rfl
           have hcz69_5 : wc.cell? ⟨gb300, 5, none⟩ = some (.int .i64 a2_5) := (blk_cell BK300.out 5).trans rfl
           have hcz69_6 : wc.cell? ⟨gb300, 6, none⟩ = some (.int .i64 a2_6) := (blk_cell BK300.out 6).trans rfl
           have hcz69_7 : wc.cell? ⟨gb300, 7, none⟩ = some (.int .i64 a2_7) := (blk_cell BK300.out 7).trans rfl
           have hcz69_8 : wc.cell? ⟨gb300, 8, none⟩ = some (.slice A2_8 l2_8.length c2_8) := (blk_cell BK300.out 8).trans rfl
           have hcz69_9 : wc.cell? ⟨gb300, 9, none⟩ = some (.slice A2_9 l2_9.length c2_9) := (blk_cell BK300.out 9).trans rfl
           have hcz69_10 : wc.cell? ⟨gb300, 10, none⟩ = some (.slice A2_10 l2_10.length c2_10) := (blk_cell BK300.out 10).trans rfl
           have hfz69_0 := blk_frozen BK300.out 0
           have hfz69_1 := blk_frozen BK300.out 1
           have hfz69_2 := blk_frozen BK300.out 2
           have hfz69_3 := blk_frozen BK300.out 3
           have hfz69_4 := blk_frozen BK300.out 4
           have hfz69_5 := blk_frozen BK300.out 5
           have hfz69_6 := blk_frozen BK300.out 6
           have hfz69_7 := blk_frozen BK300.out 7
           have hfz69_8 := blk_frozen BK300.out 8
           have hfz69_9 := blk_frozen BK300.out 9
           have hfz69_10 := blk_frozen BK300.out 10
           go_wp2
           go_ret
           exact ⟨by first | rfl | (simp [errW_none, errW_some] <;> rfl) | (simp [*, errW_none, errW_some] <;> rfl), by repeat (first | (with_reducible first | exact HB.out | apply below_alloc | apply pw_below_drewN | apply below_drew1 | refine below_set ?_ GE299.out | refine below_set ?_ GE300.out) | exact HB.out)⟩

end Go.Proofs.Ytenmjbcedadcbaa.PAll
