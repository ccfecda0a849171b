-- Written by a program: the kit's print.py, driven for several laws at once. Not trusted: Lean checks it.
import Derived.Test.YtenmjbcedadcbaaPAllx0
import Derived.Test.YtenmjbcedadcbaaPAllx2
import Derived.Test.YtenmjbcedadcbaaPAllx3
import Derived.Test.YtenmjbcedadcbaaPAllx7
import Derived.Test.YtenmjbcedadcbaaPAllx11
import Derived.Test.YtenmjbcedadcbaaPAllx12
import Derived.Test.YtenmjbcedadcbaaExtAwake18
import Derived.Test.YtenmjbcedadcbaaExtIndex2
namespace Go.Proofs.Ytenmjbcedadcbaa.PAll
open Go.RowKit Go.Proofs.YtenmjbcedadcbaaW.PrintWords Go.Proofs.YtenmjbcedadcbaaW.PrintLast Go.Proofs.YtenmjbcedadcbaaW.PrintMore
attribute [local go_sem] max2_int min2_int max_two min_two max_three min_three max_four min_four   -- for this text's walks alone
set_option linter.unusedVariables false
set_option linter.unusedSimpArgs false

/-! ### cambiumlaw18_KeyOrder: function 4 -/
def q13m (n m : Nat) : Array Bool := ((List.range n).map (Nat.testBit m)).toArray
theorem q13a {α : Type} (xs : List α) (i : Nat) (x : α) : xs.toArray.setIfInBounds i x = (xs.set i x).toArray := List.setIfInBounds_toArray ..
theorem q13b {α : Type} (x y : α) (xs : List α) : (x :: xs).set 0 y = y :: xs := List.set_cons_zero ..
theorem q13c {α : Type} (x y : α) (xs : List α) (n : Nat) : (x :: xs).set (n + 1) y = x :: xs.set n y := List.set_cons_succ ..
theorem q13h {w w' : World} {p : Addr} {v : Value} (h : Below w.heap.size w w') (x : w.cell? p = some v) : w'.cell? p = some v := (h.cell (World.block_lt_of_cell? w _ x)).trans x
theorem q13p {P : Program} {md : Region.Mode} {ops : Array Oper} {Q : Exit → Act → World → Prop} {S : World → Prop} {ds : List Nat} {T : Bool × List (List Nat × List Nat)} {i : Nat} {N : Option Tmp} {oi : Oper} {v : Value} {fuel : Nat} {l : Array Bool} {a : Act} {w : World} (l' : Array Bool) (hT : rtab md ops = T) {a' : Act}
    (h : wpAnyLast P md ops Q S ds fuel l' a' w) (hi : ops[i]? = some oi := by rfl) (hN : oi.dst = N := by rfl) (hc : anyT T l.toList l'.toList i = true := by kernel_rfl) (hQ : ∀ c a w, Q (.panic c) (a.put oi.dst v) w → Q (.panic c) a w := by exact fun _ _ _ h => h)
    (hw : Region.wanted oi (yielded ops a.tmps) = true := by rfl) (hy : ∀ w', (execOp a.eval oi).run P w' = .ok (.value v) w' := by intro w'; go_simp; with_reducible rfl) (ha : a.put N v = a' := by simp only [Act.put, q13a, q13b, q13c, i64_w, i32_w]; rfl) :
    wpAnyLast P md ops Q S ds (fuel + 1) l a w := pure_ l' hi hN (any_of hT hc) hQ (Or.inl ⟨hw, hy⟩) ha h
theorem q13u {P : Program} {md : Region.Mode} {ops : Array Oper} {Q : Exit → Act → World → Prop} {S : World → Prop} {ds : List Nat} {T : Bool × List (List Nat × List Nat)} {i : Nat} {N : Option Tmp} {oi : Oper} {fuel : Nat} {l : Array Bool} {a : Act} {w : World} (l' : Array Bool) (hT : rtab md ops = T) {a' : Act}
    (h : wpAnyLast P md ops Q S ds fuel l' a' w) (hi : ops[i]? = some oi := by rfl) (hN : oi.dst = N := by rfl) (hc : anyT T l.toList l'.toList i = true := by kernel_rfl) (hQ : ∀ c a w, Q (.panic c) (a.put oi.dst undef) w → Q (.panic c) a w := by exact fun _ _ _ h => h)
    (hw : Region.wanted oi (yielded ops a.tmps) = false := by rfl) (ha : a.put N undef = a' := by simp only [Act.put, q13a, q13b, q13c, i64_w, i32_w]; rfl) :
    wpAnyLast P md ops Q S ds (fuel + 1) l a w := pure_ l' hi hN (any_of hT hc) hQ (Or.inr ⟨hw, rfl⟩) ha h
theorem q13k {w : World} {g : Nat} {cs : Array Value} {t : TypeId} (h : w.heap[g]? = some (.cells cs t (0, 0))) (i : Nat) {v : Value} (e : cs[i]? = some v := by rfl) : w.cell? ⟨g, i, none⟩ = some v := (blk_cell h i).trans e
theorem q13y0 {P : Prop} (h : P := by repeat (first | (with_reducible first | exact HB.out | apply below_alloc | apply pw_below_drewN | apply below_drew1 | refine below_set ?_ GE317.out | refine below_set ?_ GE318.out) | exact HB.out)) : P := h
theorem q13y1 {P : Prop} (h : P := by (with_reducible repeat (first | refine blk_drewN ?_ _ | refine blk_drew ?_ | refine blk_alloc ?_ _)); exact BK317.out) : P := h
theorem q13y2 {P : Prop} (h : P := by (try simp only [List.map_toArray, List.map_cons, List.map_nil]); first | done | rfl | (simp only [List.length_drop, List.length_take]; rfl)) : P := h
theorem q13y3 {P : Prop} (h : P := by (with_reducible repeat (first | refine blk_drewN ?_ _ | refine blk_drew ?_ | refine blk_alloc ?_ _)); exact BK318.out) : P := h
theorem q13y4 {P : Prop} (h : P := by (with_reducible repeat (first | apply Kd.R_alloc | apply Kd.R_drewN | apply Kd.R_drew)); exact HO336.out) : P := h
theorem q13y5 {P : Prop} (h : P := by (with_reducible repeat (first | apply Kd.R_alloc | apply Kd.R_drewN | apply Kd.R_drew)); exact HO326.out) : P := h
theorem q13y6 {P : Prop} (h : P := by repeat (first | (with_reducible first | exact HB.out | apply below_alloc | apply pw_below_drewN | apply below_drew1 | refine below_set ?_ GE317.out) | exact HB.out)) : P := h
theorem q13y7 {P : Prop} (h : P := by repeat (first | (with_reducible first | exact HB.out | apply below_alloc | apply pw_below_drewN | apply below_drew1) | exact HB.out)) : P := h
theorem q13y8 {P : Prop} (h : P := by (with_reducible repeat (first | apply Kd.R_alloc | apply Kd.R_drewN | apply Kd.R_drew)); exact HO329.out) : P := h
theorem q13y9 {P : Prop} (h : P := by (with_reducible repeat (first | apply Kd.V_alloc | apply Kd.V_drewN | apply Kd.V_drew)); exact HO339.out) : P := h
theorem q13y10 {P : Prop} (h : P := by (with_reducible repeat (first | apply Kd.R_alloc | apply Kd.R_drewN | apply Kd.R_drew)); exact HO343.out) : P := h
theorem q13y11 {P : Prop} (h : P := by first | rfl | (simp; done) | (simp [*]; done)) : P := h

mutual
def cambiumlaw18_KeyOrder.j0 : Nat → Bool → Int → Int → Int → ByteArray → ByteArray → Int → Int → Int → List (S51) → List (S53) → List (S58) → Int → Int → Int → ByteArray → ByteArray → Int → Int → Int → List (S51) → List (S53) → List (S58) → Option (Bool)
 | 0, _, _, _, _, _, _, _, _, _, _, _, _, _, _, _, _, _, _, _, _, _, _, _ => none
 | k + 1, x27, x318000, x318001, x318002, x318003, x318004, x318005, x318006, x318007, x318008, x318009, x318010, x319000, x319001, x319002, x319003, x319004, x319005, x319006, x319007, x319008, x319009, x319010 => if x27 = true then (some true) else (cambiumlaw18_KeyOrder.l0 k 1 x318000 x318001 x318002 x318003 x318004 x318005 x318006 x318007 x318008 x318009 x318010 x319000 x319001 x319002 x319003 x319004 x319005 x319006 x319007 x319008 x319009 x319010)
def cambiumlaw18_KeyOrder.l0 : Nat → Int → Int → Int → Int → ByteArray → ByteArray → Int → Int → Int → List (S51) → List (S53) → List (S58) → Int → Int → Int → ByteArray → ByteArray → Int → Int → Int → List (S51) → List (S53) → List (S58) → Option (Bool)
 | 0, _, _, _, _, _, _, _, _, _, _, _, _, _, _, _, _, _, _, _, _, _, _, _ => none
 | k + 1, x5, x318000, x318001, x318002, x318003, x318004, x318005, x318006, x318007, x318008, x318009, x318010, x319000, x319001, x319002, x319003, x319004, x319005, x319006, x319007, x319008, x319009, x319010 => if x5 ≤ 4 then ((key_Index.f k x5 x318000 x318001 x318002 x318003 x318004 x318005 x318006 x318007 x318008 x318009 x318010).bind fun t324 => ((key_Index.f k x5 x319000 x319001 x319002 x319003 x319004 x319005 x319006 x319007 x319008 x319009 x319010).bind fun t327 => ((cambiumref01_Less.f k t324 t327).bind fun t330 => ((cambiumref18_Before.f k x5 x318000 x318001 x318002 x318003 x318004 x318005 x318006 x318007 x318008 x318009 x318010 x319000 x319001 x319002 x319003 x319004 x319005 x319006 x319007 x319008 x319009 x319010).bind fun t331 => (if (t330 != t331) = true then (some false) else ((cambiumref01_Less.f k t327 t324).bind fun t332 => ((cambiumref18_Before.f k x5 x319000 x319001 x319002 x319003 x319004 x319005 x319006 x319007 x319008 x319009 x319010 x318000 x318001 x318002 x318003 x318004 x318005 x318006 x318007 x318008 x318009 x318010).bind fun t333 => (if (t332 != t333) = true then (some false) else (cambiumlaw18_KeyOrder.l0 k (wrap64 (x5 + 1)) x318000 x318001 x318002 x318003 x318004 x318005 x318006 x318007 x318008 x318009 x318010 x319000 x319001 x319002 x319003 x319004 x319005 x319006 x319007 x319008 x319009 x319010))))))))) else ((key_Index.f k 1 x318000 x318001 x318002 x318003 x318004 x318005 x318006 x318007 x318008 x318009 x318010).bind fun t334 => ((key_Service.f x319003).bind fun t337 => ((cambiumref18_Begins.f k t334 t337).bind fun t340 => (if (t340 == (x318003.toList == x319003.toList)) = true then ((key_Index.f k 2 x318000 x318001 x318002 x318003 x318004 x318005 x318006 x318007 x318008 x318009 x318010).bind fun t341 => ((key_Operation.f x319003 x319004).bind fun t344 => ((cambiumref18_Begins.f k t341 t344).bind fun t347 => (if x318003.toList = x319003.toList then (some (t347 == (x318004.toList == x319004.toList))) else (some (t347 == false)))))) else (some false)))))
end
def cambiumlaw18_KeyOrder.f (k : Nat) (a0_0 : Int) (a0_1 : Int) (a0_2 : Int) (a0_3 : ByteArray) (a0_4 : ByteArray) (a0_5 : Int) (a0_6 : Int) (a0_7 : Int) (l0_8 : List (S51)) (l0_9 : List (S53)) (l0_10 : List (S58)) (a1_0 : Int) (a1_1 : Int) (a1_2 : Int) (a1_3 : ByteArray) (a1_4 : ByteArray) (a1_5 : Int) (a1_6 : Int) (a1_7 : Int) (l1_8 : List (S51)) (l1_9 : List (S53)) (l1_10 : List (S58)) : Option (Bool) := (cambiumlaw18_awake.f).bind fun t319 => (if t319 = true then ((cambiumref16_Small.f k a0_0 a0_1 a0_2 a0_3 a0_4 a0_5 a0_6 a0_7 l0_8 l0_9 l0_10).bind fun t320 => (if t320 = true then ((cambiumref16_Small.f k a1_0 a1_1 a1_2 a1_3 a1_4 a1_5 a1_6 a1_7 l1_8 l1_9 l1_10).bind fun t321 => (if t321 = true then ((cambiumref16_May.f k a0_0 a0_1 a0_2 a0_3 a0_4 a0_5 a0_6 a0_7 l0_8 l0_9 l0_10).bind fun t322 => (if t322 = true then ((cambiumref16_May.f k a1_0 a1_1 a1_2 a1_3 a1_4 a1_5 a1_6 a1_7 l1_8 l1_9 l1_10).bind fun t323 => (cambiumlaw18_KeyOrder.j0 k (!t323) a0_0 a0_1 a0_2 a0_3 a0_4 a0_5 a0_6 a0_7 l0_8 l0_9 l0_10 a1_0 a1_1 a1_2 a1_3 a1_4 a1_5 a1_6 a1_7 l1_8 l1_9 l1_10)) else (cambiumlaw18_KeyOrder.j0 k true a0_0 a0_1 a0_2 a0_3 a0_4 a0_5 a0_6 a0_7 l0_8 l0_9 l0_10 a1_0 a1_1 a1_2 a1_3 a1_4 a1_5 a1_6 a1_7 l1_8 l1_9 l1_10))) else (cambiumlaw18_KeyOrder.j0 k true a0_0 a0_1 a0_2 a0_3 a0_4 a0_5 a0_6 a0_7 l0_8 l0_9 l0_10 a1_0 a1_1 a1_2 a1_3 a1_4 a1_5 a1_6 a1_7 l1_8 l1_9 l1_10))) else (cambiumlaw18_KeyOrder.j0 k true a0_0 a0_1 a0_2 a0_3 a0_4 a0_5 a0_6 a0_7 l0_8 l0_9 l0_10 a1_0 a1_1 a1_2 a1_3 a1_4 a1_5 a1_6 a1_7 l1_8 l1_9 l1_10))) else (some false))
theorem cambiumlaw18_KeyOrder.mono_l : ∀ k, (∀ y0 y1 y2 y3 y4 y5 y6 y7 y8 y9 y10 y11 y12 y13 y14 y15 y16 y17 y18 y19 y20 y21 y22, LeO (cambiumlaw18_KeyOrder.j0 k y0 y1 y2 y3 y4 y5 y6 y7 y8 y9 y10 y11 y12 y13 y14 y15 y16 y17 y18 y19 y20 y21 y22) (cambiumlaw18_KeyOrder.j0 (k + 1) y0 y1 y2 y3 y4 y5 y6 y7 y8 y9 y10 y11 y12 y13 y14 y15 y16 y17 y18 y19 y20 y21 y22)) ∧ (∀ y0 y1 y2 y3 y4 y5 y6 y7 y8 y9 y10 y11 y12 y13 y14 y15 y16 y17 y18 y19 y20 y21 y22, LeO (cambiumlaw18_KeyOrder.l0 k y0 y1 y2 y3 y4 y5 y6 y7 y8 y9 y10 y11 y12 y13 y14 y15 y16 y17 y18 y19 y20 y21 y22) (cambiumlaw18_KeyOrder.l0 (k + 1) y0 y1 y2 y3 y4 y5 y6 y7 y8 y9 y10 y11 y12 y13 y14 y15 y16 y17 y18 y19 y20 y21 y22))
 | 0 => ⟨fun _ _ _ _ _ _ _ _ _ _ _ _ _ _ _ _ _ _ _ _ _ _ _ r h => by simp [cambiumlaw18_KeyOrder.j0] at h, fun _ _ _ _ _ _ _ _ _ _ _ _ _ _ _ _ _ _ _ _ _ _ _ r h => by simp [cambiumlaw18_KeyOrder.l0] at h⟩
 | k + 1 => by
  obtain ⟨ih0, ih1⟩ := cambiumlaw18_KeyOrder.mono_l k
  refine ⟨?_, ?_⟩
  ·intro y0 y1 y2 y3 y4 y5 y6 y7 y8 y9 y10 y11 y12 y13 y14 y15 y16 y17 y18 y19 y20 y21 y22
   unfold cambiumlaw18_KeyOrder.j0
   repeat' first
   | (with_reducible exact ih0 _ _ _ _ _ _ _ _ _ _ _ _ _ _ _ _ _ _ _ _ _ _ _)
   | (with_reducible exact ih1 _ _ _ _ _ _ _ _ _ _ _ _ _ _ _ _ _ _ _ _ _ _ _)
   | (with_reducible exact cambiumref01_Less.mono _ _ _)
   | (with_reducible exact cambiumref16_May.mono _ _ _ _ _ _ _ _ _ _ _ _)
   | (with_reducible exact cambiumref16_Small.mono _ _ _ _ _ _ _ _ _ _ _ _)
   | (with_reducible exact cambiumref18_Before.mono _ _ _ _ _ _ _ _ _ _ _ _ _ _ _ _ _ _ _ _ _ _ _ _)
   | (with_reducible exact cambiumref18_Begins.mono _ _ _)
   | (with_reducible exact key_Index.mono _ _ _ _ _ _ _ _ _ _ _ _ _)
   | (with_reducible exact LeO.refl _)
   | (with_reducible exact LeO.none _)
   | (with_reducible refine LeO.ite ?_ ?_)
   | (with_reducible refine LeO.bind ?_ (fun _ => ?_))
   | exact ih0 _ _ _ _ _ _ _ _ _ _ _ _ _ _ _ _ _ _ _ _ _ _ _
   | exact ih1 _ _ _ _ _ _ _ _ _ _ _ _ _ _ _ _ _ _ _ _ _ _ _
   | exact cambiumref01_Less.mono _ _ _
   | exact cambiumref16_May.mono _ _ _ _ _ _ _ _ _ _ _ _
   | exact cambiumref16_Small.mono _ _ _ _ _ _ _ _ _ _ _ _
   | exact cambiumref18_Before.mono _ _ _ _ _ _ _ _ _ _ _ _ _ _ _ _ _ _ _ _ _ _ _ _
   | exact cambiumref18_Begins.mono _ _ _
   | exact key_Index.mono _ _ _ _ _ _ _ _ _ _ _ _ _
   | exact LeO.none _
   | refine LeO.ite ?_ ?_
   | refine LeO.bind ?_ (fun _ => ?_)
  ·intro y0 y1 y2 y3 y4 y5 y6 y7 y8 y9 y10 y11 y12 y13 y14 y15 y16 y17 y18 y19 y20 y21 y22
   unfold cambiumlaw18_KeyOrder.l0
   repeat' first
   | (with_reducible exact ih0 _ _ _ _ _ _ _ _ _ _ _ _ _ _ _ _ _ _ _ _ _ _ _)
   | (with_reducible exact ih1 _ _ _ _ _ _ _ _ _ _ _ _ _ _ _ _ _ _ _ _ _ _ _)
   | (with_reducible exact cambiumref01_Less.mono _ _ _)
   | (with_reducible exact cambiumref16_May.mono _ _ _ _ _ _ _ _ _ _ _ _)
   | (with_reducible exact cambiumref16_Small.mono _ _ _ _ _ _ _ _ _ _ _ _)
   | (with_reducible exact cambiumref18_Before.mono _ _ _ _ _ _ _ _ _ _ _ _ _ _ _ _ _ _ _ _ _ _ _ _)
   | (with_reducible exact cambiumref18_Begins.mono _ _ _)
   | (with_reducible exact key_Index.mono _ _ _ _ _ _ _ _ _ _ _ _ _)
   | (with_reducible exact LeO.refl _)
   | (with_reducible exact LeO.none _)
   | (with_reducible refine LeO.ite ?_ ?_)
   | (with_reducible refine LeO.bind ?_ (fun _ => ?_))
   | exact ih0 _ _ _ _ _ _ _ _ _ _ _ _ _ _ _ _ _ _ _ _ _ _ _
   | exact ih1 _ _ _ _ _ _ _ _ _ _ _ _ _ _ _ _ _ _ _ _ _ _ _
   | exact cambiumref01_Less.mono _ _ _
   | exact cambiumref16_May.mono _ _ _ _ _ _ _ _ _ _ _ _
   | exact cambiumref16_Small.mono _ _ _ _ _ _ _ _ _ _ _ _
   | exact cambiumref18_Before.mono _ _ _ _ _ _ _ _ _ _ _ _ _ _ _ _ _ _ _ _ _ _ _ _
   | exact cambiumref18_Begins.mono _ _ _
   | exact key_Index.mono _ _ _ _ _ _ _ _ _ _ _ _ _
   | exact LeO.none _
   | refine LeO.ite ?_ ?_
   | refine LeO.bind ?_ (fun _ => ?_)
theorem cambiumlaw18_KeyOrder.mono : ∀ a0 a1 a2 a3 a4 a5 a6 a7 a8 a9 a10 a11 a12 a13 a14 a15 a16 a17 a18 a19 a20 a21 k, LeO (cambiumlaw18_KeyOrder.f k a0 a1 a2 a3 a4 a5 a6 a7 a8 a9 a10 a11 a12 a13 a14 a15 a16 a17 a18 a19 a20 a21) (cambiumlaw18_KeyOrder.f (k + 1) a0 a1 a2 a3 a4 a5 a6 a7 a8 a9 a10 a11 a12 a13 a14 a15 a16 a17 a18 a19 a20 a21) := by
 intro a0 a1 a2 a3 a4 a5 a6 a7 a8 a9 a10 a11 a12 a13 a14 a15 a16 a17 a18 a19 a20 a21 k
 obtain ⟨ih0, ih1⟩ := cambiumlaw18_KeyOrder.mono_l k
 unfold cambiumlaw18_KeyOrder.f
 repeat' first
   | (with_reducible exact ih0 _ _ _ _ _ _ _ _ _ _ _ _ _ _ _ _ _ _ _ _ _ _ _)
   | (with_reducible exact ih1 _ _ _ _ _ _ _ _ _ _ _ _ _ _ _ _ _ _ _ _ _ _ _)
   | (with_reducible exact cambiumref01_Less.mono _ _ _)
   | (with_reducible exact cambiumref16_May.mono _ _ _ _ _ _ _ _ _ _ _ _)
   | (with_reducible exact cambiumref16_Small.mono _ _ _ _ _ _ _ _ _ _ _ _)
   | (with_reducible exact cambiumref18_Before.mono _ _ _ _ _ _ _ _ _ _ _ _ _ _ _ _ _ _ _ _ _ _ _ _)
   | (with_reducible exact cambiumref18_Begins.mono _ _ _)
   | (with_reducible exact key_Index.mono _ _ _ _ _ _ _ _ _ _ _ _ _)
   | (with_reducible exact LeO.refl _)
   | (with_reducible exact LeO.none _)
   | (with_reducible refine LeO.ite ?_ ?_)
   | (with_reducible refine LeO.bind ?_ (fun _ => ?_))
   | exact ih0 _ _ _ _ _ _ _ _ _ _ _ _ _ _ _ _ _ _ _ _ _ _ _
   | exact ih1 _ _ _ _ _ _ _ _ _ _ _ _ _ _ _ _ _ _ _ _ _ _ _
   | exact cambiumref01_Less.mono _ _ _
   | exact cambiumref16_May.mono _ _ _ _ _ _ _ _ _ _ _ _
   | exact cambiumref16_Small.mono _ _ _ _ _ _ _ _ _ _ _ _
   | exact cambiumref18_Before.mono _ _ _ _ _ _ _ _ _ _ _ _ _ _ _ _ _ _ _ _ _ _ _ _
   | exact cambiumref18_Begins.mono _ _ _
   | exact key_Index.mono _ _ _ _ _ _ _ _ _ _ _ _ _
   | exact LeO.none _
   | refine LeO.ite ?_ ?_
   | refine LeO.bind ?_ (fun _ => ?_)
def cambiumlaw18_KeyOrder.T10 : Bool × List (List Nat × List Nat) := (true, [([], []), ([], []), ([0, 1], [0, 1]), ([], []), ([], []), ([], []), ([3, 4, 5, 2], [3, 4, 5]), ([2, 6], [2, 6]), ([7, 6], [7]), ([8], [8]), ([8], [8]), ([9, 10, 8, 8], [8, 9, 10]), ([8], [8]), ([8], [8]), ([8], [8]), ([12, 13, 14, 11, 8], [8, 12, 13, 14]), ([11, 15, 8], [8, 11, 15]), ([8, 16], [8, 16])])
def cambiumlaw18_KeyOrder.B10 : List Nat := [0, 0, 3, 0, 0, 0, 63, 127, 255, 511, 511, 2047, 511, 511, 511, 32767, 65535, 131071]
theorem cambiumlaw18_KeyOrder.tab10 : rtab .any (opsOf Try.f4 10) = cambiumlaw18_KeyOrder.T10 := by kernel_rfl
theorem cambiumlaw18_KeyOrder.bits10 : waitsOk cambiumlaw18_KeyOrder.T10.2 cambiumlaw18_KeyOrder.B10 = true := by kernel_rfl
def cambiumlaw18_KeyOrder.T12 : Bool × List (List Nat × List Nat) := (true, [([], []), ([0], [0]), ([], []), ([2], [2]), ([3, 1], [3]), ([1, 4, 4], [1, 4]), ([], []), ([6], [6]), ([], []), ([8], [8]), ([7, 9], [7, 9]), ([5, 10], [5, 10]), ([11, 5], [11]), ([12], [12]), ([13, 12, 12], [12, 13]), ([12], [12]), ([15, 12], [12, 15]), ([12], [12]), ([17, 12], [12, 17]), ([16, 18, 14, 12], [12, 16, 18]), ([14, 19, 19, 12], [12, 14, 19]), ([12], [12]), ([21, 12], [12, 21]), ([12], [12]), ([23, 12], [12, 23]), ([22, 24, 12], [12, 22, 24]), ([25, 20, 12], [12, 25]), ([26], [26]), ([27, 26], [26, 27]), ([26], [26]), ([29, 26], [26, 29]), ([28, 30, 26], [26, 28, 30]), ([26, 31, 12], [12, 26, 31]), ([20, 32, 12], [12, 20, 32]), ([12, 33], [12, 33]), ([34, 26, 0, 1, 2, 3, 4, 5, 6, 7, 8, 9, 10, 11, 12, 13, 14, 15, 16, 17, 18, 19, 20, 21, 22, 23, 24, 25, 26, 27, 28, 29, 30, 31, 32, 33, 34], [34])])
def cambiumlaw18_KeyOrder.B12 : List Nat := [0, 1, 0, 4, 15, 31, 0, 64, 0, 256, 960, 2047, 4095, 8191, 16383, 8191, 40959, 8191, 139263, 524287, 1048575, 8191, 2105343, 8191, 8396799, 31465471, 67108863, 134217727, 268435455, 134217727, 671088639, 2147483647, 4294967295, 8589934591, 17179869183, 34359738367]
theorem cambiumlaw18_KeyOrder.tab12 : rtab .any (opsOf Try.f4 12) = cambiumlaw18_KeyOrder.T12 := by kernel_rfl
theorem cambiumlaw18_KeyOrder.bits12 : waitsOk cambiumlaw18_KeyOrder.T12.2 cambiumlaw18_KeyOrder.B12 = true := by kernel_rfl
set_option maxHeartbeats 8000000 in
set_option maxRecDepth 100000 in
theorem cambiumlaw18_KeyOrder.calls (k : Nat) (a0_0 : Int) (a0_1 : Int) (a0_2 : Int) (a0_3 : ByteArray) (a0_4 : ByteArray) (a0_5 : Int) (a0_6 : Int) (a0_7 : Int) (A0_8 : Option Addr) (c0_8 : Nat) (l0_8 : List (S51)) (A0_9 : Option Addr) (c0_9 : Nat) (l0_9 : List (S53)) (A0_10 : Option Addr) (c0_10 : Nat) (l0_10 : List (S58)) (a1_0 : Int) (a1_1 : Int) (a1_2 : Int) (a1_3 : ByteArray) (a1_4 : ByteArray) (a1_5 : Int) (a1_6 : Int) (a1_7 : Int) (A1_8 : Option Addr) (c1_8 : Nat) (l1_8 : List (S51)) (A1_9 : Option Addr) (c1_9 : Nat) (l1_9 : List (S53)) (A1_10 : Option Addr) (c1_10 : Nat) (l1_10 : List (S58)) (r : Bool) (w : World) (hr0_8 : Kd.C k51 w A0_8 l0_8.length l0_8) (hc0_8 : l0_8.length ≤ c0_8) (hr0_9 : Kd.C k53 w A0_9 l0_9.length l0_9) (hc0_9 : l0_9.length ≤ c0_9) (hr0_10 : Kd.C k58 w A0_10 l0_10.length l0_10) (hc0_10 : l0_10.length ≤ c0_10) (hr1_8 : Kd.C k51 w A1_8 l1_8.length l1_8) (hc1_8 : l1_8.length ≤ c1_8) (hr1_9 : Kd.C k53 w A1_9 l1_9.length l1_9) (hc1_9 : l1_9.length ≤ c1_9) (hr1_10 : Kd.C k58 w A1_10 l1_10.length l1_10) (hc1_10 : l1_10.length ≤ c1_10) (h : cambiumlaw18_KeyOrder.f k a0_0 a0_1 a0_2 a0_3 a0_4 a0_5 a0_6 a0_7 l0_8 l0_9 l0_10 a1_0 a1_1 a1_2 a1_3 a1_4 a1_5 a1_6 a1_7 l1_8 l1_9 l1_10 = some r) :
  Calls Try.prog 4 #[.agg #[.int .u64 a0_0, .int .u64 a0_1, .int .u64 a0_2, .string a0_3, .string a0_4, .int .i64 a0_5, .int .i64 a0_6, .int .i64 a0_7, .slice A0_8 l0_8.length c0_8, .slice A0_9 l0_9.length c0_9, .slice A0_10 l0_10.length c0_10], .agg #[.int .u64 a1_0, .int .u64 a1_1, .int .u64 a1_2, .string a1_3, .string a1_4, .int .i64 a1_5, .int .i64 a1_6, .int .i64 a1_7, .slice A1_8 l1_8.length c1_8, .slice A1_9 l1_9.length c1_9, .slice A1_10 l1_10.length c1_10]] w fun e w' => e = .returned (.bool r) ∧ Below w.heap.size w w' := by
 have hu34 := Try.underlying34
 have HR0_8 := Aside0.mk hr0_8
 have HC0_8 := Aside0.mk hc0_8
 clear hr0_8 hc0_8
 have HR0_9 := Aside0.mk hr0_9
 have HC0_9 := Aside0.mk hc0_9
 clear hr0_9 hc0_9
 have HR0_10 := Aside0.mk hr0_10
 have HC0_10 := Aside0.mk hc0_10
 clear hr0_10 hc0_10
 have HR1_8 := Aside0.mk hr1_8
 have HC1_8 := Aside0.mk hc1_8
 clear hr1_8 hc1_8
 have HR1_9 := Aside0.mk hr1_9
 have HC1_9 := Aside0.mk hc1_9
 clear hr1_9 hc1_9
 have HR1_10 := Aside0.mk hr1_10
 have HC1_10 := Aside0.mk hc1_10
 clear hr1_10 hc1_10
 have HB := Aside0.mk (Below.refl w.heap.size w)
 have H : ((cambiumlaw18_awake.f).bind fun t319 => (if t319 = true then ((cambiumref16_Small.f k a0_0 a0_1 a0_2 a0_3 a0_4 a0_5 a0_6 a0_7 l0_8 l0_9 l0_10).bind fun t320 => (if t320 = true then ((cambiumref16_Small.f k a1_0 a1_1 a1_2 a1_3 a1_4 a1_5 a1_6 a1_7 l1_8 l1_9 l1_10).bind fun t321 => (if t321 = true then ((cambiumref16_May.f k a0_0 a0_1 a0_2 a0_3 a0_4 a0_5 a0_6 a0_7 l0_8 l0_9 l0_10).bind fun t322 => (if t322 = true then ((cambiumref16_May.f k a1_0 a1_1 a1_2 a1_3 a1_4 a1_5 a1_6 a1_7 l1_8 l1_9 l1_10).bind fun t323 => (cambiumlaw18_KeyOrder.j0 k (!t323) a0_0 a0_1 a0_2 a0_3 a0_4 a0_5 a0_6 a0_7 l0_8 l0_9 l0_10 a1_0 a1_1 a1_2 a1_3 a1_4 a1_5 a1_6 a1_7 l1_8 l1_9 l1_10)) else (cambiumlaw18_KeyOrder.j0 k true a0_0 a0_1 a0_2 a0_3 a0_4 a0_5 a0_6 a0_7 l0_8 l0_9 l0_10 a1_0 a1_1 a1_2 a1_3 a1_4 a1_5 a1_6 a1_7 l1_8 l1_9 l1_10))) else (cambiumlaw18_KeyOrder.j0 k true a0_0 a0_1 a0_2 a0_3 a0_4 a0_5 a0_6 a0_7 l0_8 l0_9 l0_10 a1_0 a1_1 a1_2 a1_3 a1_4 a1_5 a1_6 a1_7 l1_8 l1_9 l1_10))) else (cambiumlaw18_KeyOrder.j0 k true a0_0 a0_1 a0_2 a0_3 a0_4 a0_5 a0_6 a0_7 l0_8 l0_9 l0_10 a1_0 a1_1 a1_2 a1_3 a1_4 a1_5 a1_6 a1_7 l1_8 l1_9 l1_10))) else (some false))) = some r := h
 clear h
 replace H := Option.bind_eq_some_iff.mp H
 obtain ⟨t319, A30, H⟩ := H
 replace H : (if t319 = true then ((cambiumref16_Small.f k a0_0 a0_1 a0_2 a0_3 a0_4 a0_5 a0_6 a0_7 l0_8 l0_9 l0_10).bind fun t320 => (if t320 = true then ((cambiumref16_Small.f k a1_0 a1_1 a1_2 a1_3 a1_4 a1_5 a1_6 a1_7 l1_8 l1_9 l1_10).bind fun t321 => (if t321 = true then ((cambiumref16_May.f k a0_0 a0_1 a0_2 a0_3 a0_4 a0_5 a0_6 a0_7 l0_8 l0_9 l0_10).bind fun t322 => (if t322 = true then ((cambiumref16_May.f k a1_0 a1_1 a1_2 a1_3 a1_4 a1_5 a1_6 a1_7 l1_8 l1_9 l1_10).bind fun t323 => (cambiumlaw18_KeyOrder.j0 k (!t323) a0_0 a0_1 a0_2 a0_3 a0_4 a0_5 a0_6 a0_7 l0_8 l0_9 l0_10 a1_0 a1_1 a1_2 a1_3 a1_4 a1_5 a1_6 a1_7 l1_8 l1_9 l1_10)) else (cambiumlaw18_KeyOrder.j0 k true a0_0 a0_1 a0_2 a0_3 a0_4 a0_5 a0_6 a0_7 l0_8 l0_9 l0_10 a1_0 a1_1 a1_2 a1_3 a1_4 a1_5 a1_6 a1_7 l1_8 l1_9 l1_10))) else (cambiumlaw18_KeyOrder.j0 k true a0_0 a0_1 a0_2 a0_3 a0_4 a0_5 a0_6 a0_7 l0_8 l0_9 l0_10 a1_0 a1_1 a1_2 a1_3 a1_4 a1_5 a1_6 a1_7 l1_8 l1_9 l1_10))) else (cambiumlaw18_KeyOrder.j0 k true a0_0 a0_1 a0_2 a0_3 a0_4 a0_5 a0_6 a0_7 l0_8 l0_9 l0_10 a1_0 a1_1 a1_2 a1_3 a1_4 a1_5 a1_6 a1_7 l1_8 l1_9 l1_10))) else (some false)) = some r := H
 have A3 := Aside0.mk A30
 clear A30
 by_cases c4 : t319 = true
 rotate_left
 ·replace c4 := Bool.eq_false_iff.mpr c4
  subst c4
  have H1 : (some false) = some r := by rw [if_neg (show ¬ (false = true) by decide)] at H; exact H
  clear H
  have H := H1
  clear H1
  obtain rfl := Option.some.inj H
  go_enter Try.func4, Try.ntmps4
  go_wp2_with (first | ((with_reducible refine gate_dst (N := 2) rfl ?_); refine box_event ?hg (N := 2) ?hd (cs := #[.int .u64 a0_0, .int .u64 a0_1, .int .u64 a0_2, .string a0_3, .string a0_4, .int .i64 a0_5, .int .i64 a0_6, .int .i64 a0_7, .slice A0_8 l0_8.length c0_8, .slice A0_9 l0_9.length c0_9, .slice A0_10 l0_10.length c0_10]) (t := 34) ?hr ?_; (case hd => rfl); (case hg => rfl); (case hr => first | (go_simp; done) | (go_simp; rfl)); intro gb317 hg w110 hbox hb; have n0_ := Aside0.mk (below_step q13y7 hb); have n1_ := Aside0.mk (hbox); have n2_ := Aside0.mk ((by rw [hg]; exact (below_size q13y7) : w.heap.size ≤ gb317)); have n3_ := Aside0.mk ((by rw [hg]; exact (below_size q13y7) : w.heap.size ≤ gb317)); clear HB; have HB := n0_; have BK317 := n1_; have GW317 := n2_; have GE317 := n3_; clear n0_ n1_ n2_ n3_; clear hb hbox hg) | ((with_reducible refine gate_dst (N := 3) rfl ?_); refine box_event ?hg (N := 3) ?hd (cs := #[.int .u64 a1_0, .int .u64 a1_1, .int .u64 a1_2, .string a1_3, .string a1_4, .int .i64 a1_5, .int .i64 a1_6, .int .i64 a1_7, .slice A1_8 l1_8.length c1_8, .slice A1_9 l1_9.length c1_9, .slice A1_10 l1_10.length c1_10]) (t := 34) ?hr ?_; (case hd => rfl); (case hg => rfl); (case hr => first | (go_simp; done) | (go_simp; rfl)); intro gb318 hg w111 hbox hb; have n0_ := Aside0.mk (blk_below (g := gb317) (o := .cells #[.int .u64 a0_0, .int .u64 a0_1, .int .u64 a0_2, .string a0_3, .string a0_4, .int .i64 a0_5, .int .i64 a0_6, .int .i64 a0_7, .slice A0_8 l0_8.length c0_8, .slice A0_9 l0_9.length c0_9, .slice A0_10 l0_10.length c0_10] 34 (0, 0)) q13y1 hb); have n1_ := Aside0.mk (below_step q13y6 hb); have n2_ := Aside0.mk (hbox); have n3_ := Aside0.mk ((by rw [hg]; exact (below_size q13y6) : w.heap.size ≤ gb318)); have n4_ := Aside0.mk ((by rw [hg]; exact (below_size q13y6) : w.heap.size ≤ gb318)); have n5_ := Aside0.mk ((by rw [hg]; exact Nat.ne_of_lt (blk_lt (g := gb317) (o := .cells #[.int .u64 a0_0, .int .u64 a0_1, .int .u64 a0_2, .string a0_3, .string a0_4, .int .i64 a0_5, .int .i64 a0_6, .int .i64 a0_7, .slice A0_8 l0_8.length c0_8, .slice A0_9 l0_9.length c0_9, .slice A0_10 l0_10.length c0_10] 34 (0, 0)) q13y1) : gb317 ≠ gb318)); have n6_ := Aside0.mk ((by rw [hg]; exact Nat.ne_of_gt (blk_lt (g := gb317) (o := .cells #[.int .u64 a0_0, .int .u64 a0_1, .int .u64 a0_2, .string a0_3, .string a0_4, .int .i64 a0_5, .int .i64 a0_6, .int .i64 a0_7, .slice A0_8 l0_8.length c0_8, .slice A0_9 l0_9.length c0_9, .slice A0_10 l0_10.length c0_10] 34 (0, 0)) q13y1) : gb318 ≠ gb317)); clear BK317; clear HB; have BK317 := n0_; have HB := n1_; have BK318 := n2_; have GW318 := n3_; have GE318 := n4_; have NB317_318 := n5_; have NB318_317 := n6_; clear n0_ n1_ n2_ n3_ n4_ n5_ n6_; clear hb hbox hg) | ((with_reducible refine gate_callee (f := 7) rfl ?_); refine goesL_ (some 8) rfl rfl Try.func7 (by kernel_rfl) rfl #[] rfl q13y2 ?_; (with_reducible refine (cambiumlaw18_awake.calls  false _ A3.out).mono ?_); rintro e w112 ⟨rfl, hb⟩; refine ⟨_, rfl, ?_⟩; have n0_ := Aside0.mk (blk_below (g := gb317) (o := .cells #[.int .u64 a0_0, .int .u64 a0_1, .int .u64 a0_2, .string a0_3, .string a0_4, .int .i64 a0_5, .int .i64 a0_6, .int .i64 a0_7, .slice A0_8 l0_8.length c0_8, .slice A0_9 l0_9.length c0_9, .slice A0_10 l0_10.length c0_10] 34 (0, 0)) q13y1 hb); have n1_ := Aside0.mk (blk_below (g := gb318) (o := .cells #[.int .u64 a1_0, .int .u64 a1_1, .int .u64 a1_2, .string a1_3, .string a1_4, .int .i64 a1_5, .int .i64 a1_6, .int .i64 a1_7, .slice A1_8 l1_8.length c1_8, .slice A1_9 l1_9.length c1_9, .slice A1_10 l1_10.length c1_10] 34 (0, 0)) q13y3 hb); have n2_ := Aside0.mk (below_step q13y0 hb); clear BK317; clear BK318; clear HB; have BK317 := n0_; have BK318 := n1_; have HB := n2_; clear n0_ n1_ n2_; (try clear hb); (try clear hb2); (try clear hk); (try clear hi)))
  go_ret
  exact ⟨by first | rfl | (simp [errW_none, errW_some] <;> rfl) | (simp [*, errW_none, errW_some] <;> rfl), by repeat (first | (with_reducible first | exact HB.out | apply below_alloc | apply pw_below_drewN | apply below_drew1 | refine below_set ?_ GE317.out | refine below_set ?_ GE318.out) | exact HB.out)⟩

 subst c4
 have H1 : ((cambiumref16_Small.f k a0_0 a0_1 a0_2 a0_3 a0_4 a0_5 a0_6 a0_7 l0_8 l0_9 l0_10).bind fun t320 => (if t320 = true then ((cambiumref16_Small.f k a1_0 a1_1 a1_2 a1_3 a1_4 a1_5 a1_6 a1_7 l1_8 l1_9 l1_10).bind fun t321 => (if t321 = true then ((cambiumref16_May.f k a0_0 a0_1 a0_2 a0_3 a0_4 a0_5 a0_6 a0_7 l0_8 l0_9 l0_10).bind fun t322 => (if t322 = true then ((cambiumref16_May.f k a1_0 a1_1 a1_2 a1_3 a1_4 a1_5 a1_6 a1_7 l1_8 l1_9 l1_10).bind fun t323 => (cambiumlaw18_KeyOrder.j0 k (!t323) a0_0 a0_1 a0_2 a0_3 a0_4 a0_5 a0_6 a0_7 l0_8 l0_9 l0_10 a1_0 a1_1 a1_2 a1_3 a1_4 a1_5 a1_6 a1_7 l1_8 l1_9 l1_10)) else (cambiumlaw18_KeyOrder.j0 k true a0_0 a0_1 a0_2 a0_3 a0_4 a0_5 a0_6 a0_7 l0_8 l0_9 l0_10 a1_0 a1_1 a1_2 a1_3 a1_4 a1_5 a1_6 a1_7 l1_8 l1_9 l1_10))) else (cambiumlaw18_KeyOrder.j0 k true a0_0 a0_1 a0_2 a0_3 a0_4 a0_5 a0_6 a0_7 l0_8 l0_9 l0_10 a1_0 a1_1 a1_2 a1_3 a1_4 a1_5 a1_6 a1_7 l1_8 l1_9 l1_10))) else (cambiumlaw18_KeyOrder.j0 k true a0_0 a0_1 a0_2 a0_3 a0_4 a0_5 a0_6 a0_7 l0_8 l0_9 l0_10 a1_0 a1_1 a1_2 a1_3 a1_4 a1_5 a1_6 a1_7 l1_8 l1_9 l1_10))) = some r := by rw [if_pos rfl] at H; exact H
 clear H
 have H := H1
 clear H1
 have HC5 := Aside0.mk H
 clear H
 go_enter Try.func4, Try.ntmps4
 go_upto_region 3 with (first | ((with_reducible refine gate_dst (N := 2) rfl ?_); refine box_event ?hg (N := 2) ?hd (cs := #[.int .u64 a0_0, .int .u64 a0_1, .int .u64 a0_2, .string a0_3, .string a0_4, .int .i64 a0_5, .int .i64 a0_6, .int .i64 a0_7, .slice A0_8 l0_8.length c0_8, .slice A0_9 l0_9.length c0_9, .slice A0_10 l0_10.length c0_10]) (t := 34) ?hr ?_; (case hd => rfl); (case hg => rfl); (case hr => first | (go_simp; done) | (go_simp; rfl)); intro gb317 hg w6 hbox hb; have n0_ := Aside0.mk (below_step q13y7 hb); have n1_ := Aside0.mk (hbox); have n2_ := Aside0.mk ((by rw [hg]; exact (below_size q13y7) : w.heap.size ≤ gb317)); have n3_ := Aside0.mk ((by rw [hg]; exact (below_size q13y7) : w.heap.size ≤ gb317)); clear HB; have HB := n0_; have BK317 := n1_; have GW317 := n2_; have GE317 := n3_; clear n0_ n1_ n2_ n3_; clear hb hbox hg) | ((with_reducible refine gate_dst (N := 3) rfl ?_); refine box_event ?hg (N := 3) ?hd (cs := #[.int .u64 a1_0, .int .u64 a1_1, .int .u64 a1_2, .string a1_3, .string a1_4, .int .i64 a1_5, .int .i64 a1_6, .int .i64 a1_7, .slice A1_8 l1_8.length c1_8, .slice A1_9 l1_9.length c1_9, .slice A1_10 l1_10.length c1_10]) (t := 34) ?hr ?_; (case hd => rfl); (case hg => rfl); (case hr => first | (go_simp; done) | (go_simp; rfl)); intro gb318 hg w7 hbox hb; have n0_ := Aside0.mk (blk_below (g := gb317) (o := .cells #[.int .u64 a0_0, .int .u64 a0_1, .int .u64 a0_2, .string a0_3, .string a0_4, .int .i64 a0_5, .int .i64 a0_6, .int .i64 a0_7, .slice A0_8 l0_8.length c0_8, .slice A0_9 l0_9.length c0_9, .slice A0_10 l0_10.length c0_10] 34 (0, 0)) q13y1 hb); have n1_ := Aside0.mk (below_step q13y6 hb); have n2_ := Aside0.mk (hbox); have n3_ := Aside0.mk ((by rw [hg]; exact (below_size q13y6) : w.heap.size ≤ gb318)); have n4_ := Aside0.mk ((by rw [hg]; exact (below_size q13y6) : w.heap.size ≤ gb318)); have n5_ := Aside0.mk ((by rw [hg]; exact Nat.ne_of_lt (blk_lt (g := gb317) (o := .cells #[.int .u64 a0_0, .int .u64 a0_1, .int .u64 a0_2, .string a0_3, .string a0_4, .int .i64 a0_5, .int .i64 a0_6, .int .i64 a0_7, .slice A0_8 l0_8.length c0_8, .slice A0_9 l0_9.length c0_9, .slice A0_10 l0_10.length c0_10] 34 (0, 0)) q13y1) : gb317 ≠ gb318)); have n6_ := Aside0.mk ((by rw [hg]; exact Nat.ne_of_gt (blk_lt (g := gb317) (o := .cells #[.int .u64 a0_0, .int .u64 a0_1, .int .u64 a0_2, .string a0_3, .string a0_4, .int .i64 a0_5, .int .i64 a0_6, .int .i64 a0_7, .slice A0_8 l0_8.length c0_8, .slice A0_9 l0_9.length c0_9, .slice A0_10 l0_10.length c0_10] 34 (0, 0)) q13y1) : gb318 ≠ gb317)); clear BK317; clear HB; have BK317 := n0_; have HB := n1_; have BK318 := n2_; have GW318 := n3_; have GE318 := n4_; have NB317_318 := n5_; have NB318_317 := n6_; clear n0_ n1_ n2_ n3_ n4_ n5_ n6_; clear hb hbox hg) | ((with_reducible refine gate_callee (f := 7) rfl ?_); refine goesL_ (some 8) rfl rfl Try.func7 (by kernel_rfl) rfl #[] rfl q13y2 ?_; (with_reducible refine (cambiumlaw18_awake.calls  true _ A3.out).mono ?_); rintro e w8 ⟨rfl, hb⟩; refine ⟨_, rfl, ?_⟩; have n0_ := Aside0.mk (blk_below (g := gb317) (o := .cells #[.int .u64 a0_0, .int .u64 a0_1, .int .u64 a0_2, .string a0_3, .string a0_4, .int .i64 a0_5, .int .i64 a0_6, .int .i64 a0_7, .slice A0_8 l0_8.length c0_8, .slice A0_9 l0_9.length c0_9, .slice A0_10 l0_10.length c0_10] 34 (0, 0)) q13y1 hb); have n1_ := Aside0.mk (blk_below (g := gb318) (o := .cells #[.int .u64 a1_0, .int .u64 a1_1, .int .u64 a1_2, .string a1_3, .string a1_4, .int .i64 a1_5, .int .i64 a1_6, .int .i64 a1_7, .slice A1_8 l1_8.length c1_8, .slice A1_9 l1_9.length c1_9, .slice A1_10 l1_10.length c1_10] 34 (0, 0)) q13y3 hb); have n2_ := Aside0.mk (below_step q13y0 hb); clear BK317; clear BK318; clear HB; have BK317 := n0_; have BK318 := n1_; have HB := n2_; clear n0_ n1_ n2_; (try clear hb); (try clear hb2); (try clear hk); (try clear hi)))
 (try simp only [Act.put, q13a, q13b, q13c])
 go_cut [27] (fun v27 wc => ∃ (kq : Nat) (x27_4 : Bool), v27 = .bool x27_4 ∧ Aside0 (cambiumlaw18_KeyOrder.j0 kq x27_4 a0_0 a0_1 a0_2 a0_3 a0_4 a0_5 a0_6 a0_7 l0_8 l0_9 l0_10 a1_0 a1_1 a1_2 a1_3 a1_4 a1_5 a1_6 a1_7 l1_8 l1_9 l1_10 = some r) ∧ Aside0 (kq ≤ k) ∧ Aside0 (wc.heap[gb317]? = some (.cells #[.int .u64 a0_0, .int .u64 a0_1, .int .u64 a0_2, .string a0_3, .string a0_4, .int .i64 a0_5, .int .i64 a0_6, .int .i64 a0_7, (.slice A0_8 l0_8.length c0_8), (.slice A0_9 l0_9.length c0_9), (.slice A0_10 l0_10.length c0_10)] 34 (0, 0))) ∧ Aside0 (wc.heap[gb318]? = some (.cells #[.int .u64 a1_0, .int .u64 a1_1, .int .u64 a1_2, .string a1_3, .string a1_4, .int .i64 a1_5, .int .i64 a1_6, .int .i64 a1_7, (.slice A1_8 l1_8.length c1_8), (.slice A1_9 l1_9.length c1_9), (.slice A1_10 l1_10.length c1_10)] 34 (0, 0))) ∧ Aside0 (Below w.heap.size w wc))
 case first =>
  have H := HC5.out
  clear HC5
  replace H := Option.bind_eq_some_iff.mp H
  obtain ⟨t320, A90, H⟩ := H
  replace H : (if t320 = true then ((cambiumref16_Small.f k a1_0 a1_1 a1_2 a1_3 a1_4 a1_5 a1_6 a1_7 l1_8 l1_9 l1_10).bind fun t321 => (if t321 = true then ((cambiumref16_May.f k a0_0 a0_1 a0_2 a0_3 a0_4 a0_5 a0_6 a0_7 l0_8 l0_9 l0_10).bind fun t322 => (if t322 = true then ((cambiumref16_May.f k a1_0 a1_1 a1_2 a1_3 a1_4 a1_5 a1_6 a1_7 l1_8 l1_9 l1_10).bind fun t323 => (cambiumlaw18_KeyOrder.j0 k (!t323) a0_0 a0_1 a0_2 a0_3 a0_4 a0_5 a0_6 a0_7 l0_8 l0_9 l0_10 a1_0 a1_1 a1_2 a1_3 a1_4 a1_5 a1_6 a1_7 l1_8 l1_9 l1_10)) else (cambiumlaw18_KeyOrder.j0 k true a0_0 a0_1 a0_2 a0_3 a0_4 a0_5 a0_6 a0_7 l0_8 l0_9 l0_10 a1_0 a1_1 a1_2 a1_3 a1_4 a1_5 a1_6 a1_7 l1_8 l1_9 l1_10))) else (cambiumlaw18_KeyOrder.j0 k true a0_0 a0_1 a0_2 a0_3 a0_4 a0_5 a0_6 a0_7 l0_8 l0_9 l0_10 a1_0 a1_1 a1_2 a1_3 a1_4 a1_5 a1_6 a1_7 l1_8 l1_9 l1_10))) else (cambiumlaw18_KeyOrder.j0 k true a0_0 a0_1 a0_2 a0_3 a0_4 a0_5 a0_6 a0_7 l0_8 l0_9 l0_10 a1_0 a1_1 a1_2 a1_3 a1_4 a1_5 a1_6 a1_7 l1_8 l1_9 l1_10)) = some r := H
  have A9 := Aside0.mk A90
  clear A90
  by_cases c10 : t320 = true
  rotate_left
  ·replace c10 := Bool.eq_false_iff.mpr c10
   subst c10
   have H1 : (cambiumlaw18_KeyOrder.j0 k true a0_0 a0_1 a0_2 a0_3 a0_4 a0_5 a0_6 a0_7 l0_8 l0_9 l0_10 a1_0 a1_1 a1_2 a1_3 a1_4 a1_5 a1_6 a1_7 l1_8 l1_9 l1_10) = some r := by rw [if_neg (show ¬ (false = true) by decide)] at H; exact H
   clear H
   have H := H1
   clear H1
   have H' := Aside0.mk H
   clear H
   have hnb37 := NB317_318.out
   have hnc37 := NB318_317.out
   have hcz38_0 : w8.cell? ⟨gb317, 0, none⟩ = some (.int .u64 a0_0) := (blk_cell BK317.out 0).trans rfl
   have hcz38_1 : w8.cell? ⟨gb317, 1, none⟩ = some (.int .u64 a0_1) := (blk_cell BK317.out 1).trans rfl
   have hcz38_2 : w8.cell? ⟨gb317, 2, none⟩ = some (.int .u64 a0_2) := (blk_cell BK317.out 2).trans rfl
   have hcz38_3 : w8.cell? ⟨gb317, 3, none⟩ = some (.string a0_3) := (blk_cell BK317.out 3).trans rfl
   have hcz38_4 : w8.cell? ⟨gb317, 4, none⟩ = some (.string a0_4) := (blk_cell BK317.out 4).trans rfl
   have hcz38_5 : w8.cell? ⟨gb317, 5, none⟩ = some (.int .i64 a0_5) := (blk_cell BK317.out 5).trans rfl
   have hcz38_6 : w8.cell? ⟨gb317, 6, none⟩ = some (.int .i64 a0_6) := (blk_cell BK317.out 6).trans rfl
   have hcz38_7 : w8.cell? ⟨gb317, 7, none⟩ = some (.int .i64 a0_7) := (blk_cell BK317.out 7).trans rfl
   have hcz38_8 : w8.cell? ⟨gb317, 8, none⟩ = some (.slice A0_8 l0_8.length c0_8) := (blk_cell BK317.out 8).trans rfl
   have hcz38_9 : w8.cell? ⟨gb317, 9, none⟩ = some (.slice A0_9 l0_9.length c0_9) := (blk_cell BK317.out 9).trans rfl
   have hcz38_10 : w8.cell? ⟨gb317, 10, none⟩ = some (.slice A0_10 l0_10.length c0_10) := (blk_cell BK317.out 10).trans rfl
   have hfz38_0 := blk_frozen BK317.out 0
   have hfz38_1 := blk_frozen BK317.out 1
   have hfz38_2 := blk_frozen BK317.out 2
   have hfz38_3 := blk_frozen BK317.out 3
   have hfz38_4 := blk_frozen BK317.out 4
   have hfz38_5 := blk_frozen BK317.out 5
   have hfz38_6 := blk_frozen BK317.out 6
   have hfz38_7 := blk_frozen BK317.out 7
   have hfz38_8 := blk_frozen BK317.out 8
   have hfz38_9 := blk_frozen BK317.out 9
   have hfz38_10 := blk_frozen BK317.out 10
   go_wp2_with (first | ((with_reducible refine gate_callee (f := 12) rfl ?_); refine goesL_ (some 11) rfl rfl Try.func12 (by kernel_rfl) rfl #[.agg #[.int .u64 a0_0, .int .u64 a0_1, .int .u64 a0_2, .string a0_3, .string a0_4, .int .i64 a0_5, .int .i64 a0_6, .int .i64 a0_7, .slice A0_8 l0_8.length c0_8, .slice A0_9 l0_9.length c0_9, .slice A0_10 l0_10.length c0_10]] rfl q13y2 ?_; (with_reducible refine (cambiumref16_Small.calls k a0_0 a0_1 a0_2 a0_3 a0_4 a0_5 a0_6 a0_7 _ _ l0_8 _ _ l0_9 _ _ l0_10 false _ ?side1 ?side2 ?side3 ?side4 ?side5 ?side6 A9.out).mono ?_); (case side1 => repeat (first | exact (Kd.C_below HR0_8.out HB.out) | (with_reducible refine Kd.C_alloc ?_ _) | (with_reducible refine Kd.C_drewN ?_ _) | (with_reducible refine Kd.C_drew ?_))); (case side2 => exact HC0_8.out); (case side3 => repeat (first | exact (Kd.C_below HR0_9.out HB.out) | (with_reducible refine Kd.C_alloc ?_ _) | (with_reducible refine Kd.C_drewN ?_ _) | (with_reducible refine Kd.C_drew ?_))); (case side4 => exact HC0_9.out); (case side5 => repeat (first | exact (Kd.C_below HR0_10.out HB.out) | (with_reducible refine Kd.C_alloc ?_ _) | (with_reducible refine Kd.C_drewN ?_ _) | (with_reducible refine Kd.C_drew ?_))); (case side6 => exact HC0_10.out); rintro e w39 ⟨rfl, hb⟩; refine ⟨_, rfl, ?_⟩; have n0_ := Aside0.mk (blk_below (g := gb317) (o := .cells #[.int .u64 a0_0, .int .u64 a0_1, .int .u64 a0_2, .string a0_3, .string a0_4, .int .i64 a0_5, .int .i64 a0_6, .int .i64 a0_7, .slice A0_8 l0_8.length c0_8, .slice A0_9 l0_9.length c0_9, .slice A0_10 l0_10.length c0_10] 34 (0, 0)) q13y1 hb); have n1_ := Aside0.mk (blk_below (g := gb318) (o := .cells #[.int .u64 a1_0, .int .u64 a1_1, .int .u64 a1_2, .string a1_3, .string a1_4, .int .i64 a1_5, .int .i64 a1_6, .int .i64 a1_7, .slice A1_8 l1_8.length c1_8, .slice A1_9 l1_9.length c1_9, .slice A1_10 l1_10.length c1_10] 34 (0, 0)) q13y3 hb); have n2_ := Aside0.mk (below_step q13y0 hb); clear BK317; clear BK318; clear HB; have BK317 := n0_; have BK318 := n1_; have HB := n2_; clear n0_ n1_ n2_; (try clear hb); (try clear hb2); (try clear hk); (try clear hi)))
   go_meet
   case rel => exact ⟨_, (true), q13y11, H', ⟨by first | omega | exact Nat.le_refl _⟩, ⟨by (with_reducible repeat (first | refine blk_drewN ?_ _ | refine blk_drew ?_ | refine blk_alloc ?_ _)); exact BK317.out⟩, ⟨by (with_reducible repeat (first | refine blk_drewN ?_ _ | refine blk_drew ?_ | refine blk_alloc ?_ _)); exact BK318.out⟩, ⟨by repeat (first | (with_reducible first | exact HB.out | apply below_alloc | apply pw_below_drewN | apply below_drew1 | refine below_set ?_ GE317.out | refine below_set ?_ GE318.out) | exact HB.out)⟩⟩
  subst c10
  have H1 : ((cambiumref16_Small.f k a1_0 a1_1 a1_2 a1_3 a1_4 a1_5 a1_6 a1_7 l1_8 l1_9 l1_10).bind fun t321 => (if t321 = true then ((cambiumref16_May.f k a0_0 a0_1 a0_2 a0_3 a0_4 a0_5 a0_6 a0_7 l0_8 l0_9 l0_10).bind fun t322 => (if t322 = true then ((cambiumref16_May.f k a1_0 a1_1 a1_2 a1_3 a1_4 a1_5 a1_6 a1_7 l1_8 l1_9 l1_10).bind fun t323 => (cambiumlaw18_KeyOrder.j0 k (!t323) a0_0 a0_1 a0_2 a0_3 a0_4 a0_5 a0_6 a0_7 l0_8 l0_9 l0_10 a1_0 a1_1 a1_2 a1_3 a1_4 a1_5 a1_6 a1_7 l1_8 l1_9 l1_10)) else (cambiumlaw18_KeyOrder.j0 k true a0_0 a0_1 a0_2 a0_3 a0_4 a0_5 a0_6 a0_7 l0_8 l0_9 l0_10 a1_0 a1_1 a1_2 a1_3 a1_4 a1_5 a1_6 a1_7 l1_8 l1_9 l1_10))) else (cambiumlaw18_KeyOrder.j0 k true a0_0 a0_1 a0_2 a0_3 a0_4 a0_5 a0_6 a0_7 l0_8 l0_9 l0_10 a1_0 a1_1 a1_2 a1_3 a1_4 a1_5 a1_6 a1_7 l1_8 l1_9 l1_10))) = some r := by rw [if_pos rfl] at H; exact H
  clear H
  have H := H1
  clear H1
  replace H := Option.bind_eq_some_iff.mp H
  obtain ⟨t321, A110, H⟩ := H
  replace H : (if t321 = true then ((cambiumref16_May.f k a0_0 a0_1 a0_2 a0_3 a0_4 a0_5 a0_6 a0_7 l0_8 l0_9 l0_10).bind fun t322 => (if t322 = true then ((cambiumref16_May.f k a1_0 a1_1 a1_2 a1_3 a1_4 a1_5 a1_6 a1_7 l1_8 l1_9 l1_10).bind fun t323 => (cambiumlaw18_KeyOrder.j0 k (!t323) a0_0 a0_1 a0_2 a0_3 a0_4 a0_5 a0_6 a0_7 l0_8 l0_9 l0_10 a1_0 a1_1 a1_2 a1_3 a1_4 a1_5 a1_6 a1_7 l1_8 l1_9 l1_10)) else (cambiumlaw18_KeyOrder.j0 k true a0_0 a0_1 a0_2 a0_3 a0_4 a0_5 a0_6 a0_7 l0_8 l0_9 l0_10 a1_0 a1_1 a1_2 a1_3 a1_4 a1_5 a1_6 a1_7 l1_8 l1_9 l1_10))) else (cambiumlaw18_KeyOrder.j0 k true a0_0 a0_1 a0_2 a0_3 a0_4 a0_5 a0_6 a0_7 l0_8 l0_9 l0_10 a1_0 a1_1 a1_2 a1_3 a1_4 a1_5 a1_6 a1_7 l1_8 l1_9 l1_10)) = some r := H
  have A11 := Aside0.mk A110
  clear A110
  by_cases c12 : t321 = true
  rotate_left
  ·replace c12 := Bool.eq_false_iff.mpr c12
   subst c12
   have H1 : (cambiumlaw18_KeyOrder.j0 k true a0_0 a0_1 a0_2 a0_3 a0_4 a0_5 a0_6 a0_7 l0_8 l0_9 l0_10 a1_0 a1_1 a1_2 a1_3 a1_4 a1_5 a1_6 a1_7 l1_8 l1_9 l1_10) = some r := by rw [if_neg (show ¬ (false = true) by decide)] at H; exact H
   clear H
   have H := H1
   clear H1
   have H' := Aside0.mk H
   clear H
   have hnb32 := NB317_318.out
   have hnc32 := NB318_317.out
   have hcz33_0 : w8.cell? ⟨gb317, 0, none⟩ = some (.int .u64 a0_0) := (blk_cell BK317.out 0).trans rfl
   have hcz33_1 : w8.cell? ⟨gb317, 1, none⟩ = some (.int .u64 a0_1) := (blk_cell BK317.out 1).trans rfl
   have hcz33_2 : w8.cell? ⟨gb317, 2, none⟩ = some (.int .u64 a0_2) := (blk_cell BK317.out 2).trans rfl
   have hcz33_3 : w8.cell? ⟨gb317, 3, none⟩ = some (.string a0_3) := (blk_cell BK317.out 3).trans rfl
   have hcz33_4 : w8.cell? ⟨gb317, 4, none⟩ = some (.string a0_4) := (blk_cell BK317.out 4).trans rfl
   have hcz33_5 : w8.cell? ⟨gb317, 5, none⟩ = some (.int .i64 a0_5) := (blk_cell BK317.out 5).trans rfl
   have hcz33_6 : w8.cell? ⟨gb317, 6, none⟩ = some (.int .i64 a0_6) := (blk_cell BK317.out 6).trans rfl
   have hcz33_7 : w8.cell? ⟨gb317, 7, none⟩ = some (.int .i64 a0_7) := (blk_cell BK317.out 7).trans rfl
   have hcz33_8 : w8.cell? ⟨gb317, 8, none⟩ = some (.slice A0_8 l0_8.length c0_8) := (blk_cell BK317.out 8).trans rfl
   have hcz33_9 : w8.cell? ⟨gb317, 9, none⟩ = some (.slice A0_9 l0_9.length c0_9) := (blk_cell BK317.out 9).trans rfl
   have hcz33_10 : w8.cell? ⟨gb317, 10, none⟩ = some (.slice A0_10 l0_10.length c0_10) := (blk_cell BK317.out 10).trans rfl
   have hfz33_0 := blk_frozen BK317.out 0
   have hfz33_1 := blk_frozen BK317.out 1
   have hfz33_2 := blk_frozen BK317.out 2
   have hfz33_3 := blk_frozen BK317.out 3
   have hfz33_4 := blk_frozen BK317.out 4
   have hfz33_5 := blk_frozen BK317.out 5
   have hfz33_6 := blk_frozen BK317.out 6
   have hfz33_7 := blk_frozen BK317.out 7
   have hfz33_8 := blk_frozen BK317.out 8
   have hfz33_9 := blk_frozen BK317.out 9
   have hfz33_10 := blk_frozen BK317.out 10
   go_wp2_with (first | ((with_reducible refine gate_callee (f := 12) rfl ?_); refine goesL_ (some 11) rfl rfl Try.func12 (by kernel_rfl) rfl #[.agg #[.int .u64 a0_0, .int .u64 a0_1, .int .u64 a0_2, .string a0_3, .string a0_4, .int .i64 a0_5, .int .i64 a0_6, .int .i64 a0_7, .slice A0_8 l0_8.length c0_8, .slice A0_9 l0_9.length c0_9, .slice A0_10 l0_10.length c0_10]] rfl q13y2 ?_; (with_reducible refine (cambiumref16_Small.calls k a0_0 a0_1 a0_2 a0_3 a0_4 a0_5 a0_6 a0_7 _ _ l0_8 _ _ l0_9 _ _ l0_10 true _ ?side1 ?side2 ?side3 ?side4 ?side5 ?side6 A9.out).mono ?_); (case side1 => repeat (first | exact (Kd.C_below HR0_8.out HB.out) | (with_reducible refine Kd.C_alloc ?_ _) | (with_reducible refine Kd.C_drewN ?_ _) | (with_reducible refine Kd.C_drew ?_))); (case side2 => exact HC0_8.out); (case side3 => repeat (first | exact (Kd.C_below HR0_9.out HB.out) | (with_reducible refine Kd.C_alloc ?_ _) | (with_reducible refine Kd.C_drewN ?_ _) | (with_reducible refine Kd.C_drew ?_))); (case side4 => exact HC0_9.out); (case side5 => repeat (first | exact (Kd.C_below HR0_10.out HB.out) | (with_reducible refine Kd.C_alloc ?_ _) | (with_reducible refine Kd.C_drewN ?_ _) | (with_reducible refine Kd.C_drew ?_))); (case side6 => exact HC0_10.out); rintro e w34 ⟨rfl, hb⟩; refine ⟨_, rfl, ?_⟩; have n0_ := Aside0.mk (blk_below (g := gb317) (o := .cells #[.int .u64 a0_0, .int .u64 a0_1, .int .u64 a0_2, .string a0_3, .string a0_4, .int .i64 a0_5, .int .i64 a0_6, .int .i64 a0_7, .slice A0_8 l0_8.length c0_8, .slice A0_9 l0_9.length c0_9, .slice A0_10 l0_10.length c0_10] 34 (0, 0)) q13y1 hb); have n1_ := Aside0.mk (blk_below (g := gb318) (o := .cells #[.int .u64 a1_0, .int .u64 a1_1, .int .u64 a1_2, .string a1_3, .string a1_4, .int .i64 a1_5, .int .i64 a1_6, .int .i64 a1_7, .slice A1_8 l1_8.length c1_8, .slice A1_9 l1_9.length c1_9, .slice A1_10 l1_10.length c1_10] 34 (0, 0)) q13y3 hb); have n2_ := Aside0.mk (below_step q13y0 hb); clear BK317; clear BK318; clear HB; have BK317 := n0_; have BK318 := n1_; have HB := n2_; clear n0_ n1_ n2_; (try clear hb); (try clear hb2); (try clear hk); (try clear hi); have hcz35_0 : w34.cell? ⟨gb318, 0, none⟩ = some (.int .u64 a1_0) := (blk_cell BK318.out 0).trans rfl; have hcz35_1 : w34.cell? ⟨gb318, 1, none⟩ = some (.int .u64 a1_1) := (blk_cell BK318.out 1).trans rfl; have hcz35_2 : w34.cell? ⟨gb318, 2, none⟩ = some (.int .u64 a1_2) := (blk_cell BK318.out 2).trans rfl; have hcz35_3 : w34.cell? ⟨gb318, 3, none⟩ = some (.string a1_3) := (blk_cell BK318.out 3).trans rfl; have hcz35_4 : w34.cell? ⟨gb318, 4, none⟩ = some (.string a1_4) := (blk_cell BK318.out 4).trans rfl; have hcz35_5 : w34.cell? ⟨gb318, 5, none⟩ = some (.int .i64 a1_5) := (blk_cell BK318.out 5).trans rfl; have hcz35_6 : w34.cell? ⟨gb318, 6, none⟩ = some (.int .i64 a1_6) := (blk_cell BK318.out 6).trans rfl; have hcz35_7 : w34.cell? ⟨gb318, 7, none⟩ = some (.int .i64 a1_7) := (blk_cell BK318.out 7).trans rfl; have hcz35_8 : w34.cell? ⟨gb318, 8, none⟩ = some (.slice A1_8 l1_8.length c1_8) := (blk_cell BK318.out 8).trans rfl; have hcz35_9 : w34.cell? ⟨gb318, 9, none⟩ = some (.slice A1_9 l1_9.length c1_9) := (blk_cell BK318.out 9).trans rfl; have hcz35_10 : w34.cell? ⟨gb318, 10, none⟩ = some (.slice A1_10 l1_10.length c1_10) := (blk_cell BK318.out 10).trans rfl; have hfz35_0 := blk_frozen BK318.out 0; have hfz35_1 := blk_frozen BK318.out 1; have hfz35_2 := blk_frozen BK318.out 2; have hfz35_3 := blk_frozen BK318.out 3; have hfz35_4 := blk_frozen BK318.out 4; have hfz35_5 := blk_frozen BK318.out 5; have hfz35_6 := blk_frozen BK318.out 6; have hfz35_7 := blk_frozen BK318.out 7; have hfz35_8 := blk_frozen BK318.out 8; have hfz35_9 := blk_frozen BK318.out 9; have hfz35_10 := blk_frozen BK318.out 10) | (go_at_call 12; (with_reducible refine (cambiumref16_Small.calls k a1_0 a1_1 a1_2 a1_3 a1_4 a1_5 a1_6 a1_7 _ _ l1_8 _ _ l1_9 _ _ l1_10 false _ ?side1 ?side2 ?side3 ?side4 ?side5 ?side6 A11.out).mono ?_); (case side1 => repeat (first | exact (Kd.C_below HR1_8.out HB.out) | (with_reducible refine Kd.C_alloc ?_ _) | (with_reducible refine Kd.C_drewN ?_ _) | (with_reducible refine Kd.C_drew ?_))); (case side2 => exact HC1_8.out); (case side3 => repeat (first | exact (Kd.C_below HR1_9.out HB.out) | (with_reducible refine Kd.C_alloc ?_ _) | (with_reducible refine Kd.C_drewN ?_ _) | (with_reducible refine Kd.C_drew ?_))); (case side4 => exact HC1_9.out); (case side5 => repeat (first | exact (Kd.C_below HR1_10.out HB.out) | (with_reducible refine Kd.C_alloc ?_ _) | (with_reducible refine Kd.C_drewN ?_ _) | (with_reducible refine Kd.C_drew ?_))); (case side6 => exact HC1_10.out); rintro e w36 ⟨rfl, hb⟩; have n0_ := Aside0.mk (blk_below (g := gb317) (o := .cells #[.int .u64 a0_0, .int .u64 a0_1, .int .u64 a0_2, .string a0_3, .string a0_4, .int .i64 a0_5, .int .i64 a0_6, .int .i64 a0_7, .slice A0_8 l0_8.length c0_8, .slice A0_9 l0_9.length c0_9, .slice A0_10 l0_10.length c0_10] 34 (0, 0)) q13y1 hb); have n1_ := Aside0.mk (blk_below (g := gb318) (o := .cells #[.int .u64 a1_0, .int .u64 a1_1, .int .u64 a1_2, .string a1_3, .string a1_4, .int .i64 a1_5, .int .i64 a1_6, .int .i64 a1_7, .slice A1_8 l1_8.length c1_8, .slice A1_9 l1_9.length c1_9, .slice A1_10 l1_10.length c1_10] 34 (0, 0)) q13y3 hb); have n2_ := Aside0.mk (below_step q13y0 hb); clear BK317; clear BK318; clear HB; have BK317 := n0_; have BK318 := n1_; have HB := n2_; clear n0_ n1_ n2_; (try clear hb); (try clear hb2); (try clear hk); (try clear hi)))
   go_meet
   case rel => exact ⟨_, (true), q13y11, H', ⟨by first | omega | exact Nat.le_refl _⟩, ⟨by (with_reducible repeat (first | refine blk_drewN ?_ _ | refine blk_drew ?_ | refine blk_alloc ?_ _)); exact BK317.out⟩, ⟨by (with_reducible repeat (first | refine blk_drewN ?_ _ | refine blk_drew ?_ | refine blk_alloc ?_ _)); exact BK318.out⟩, ⟨by repeat (first | (with_reducible first | exact HB.out | apply below_alloc | apply pw_below_drewN | apply below_drew1 | refine below_set ?_ GE317.out | refine below_set ?_ GE318.out) | exact HB.out)⟩⟩
  subst c12
  have H1 : ((cambiumref16_May.f k a0_0 a0_1 a0_2 a0_3 a0_4 a0_5 a0_6 a0_7 l0_8 l0_9 l0_10).bind fun t322 => (if t322 = true then ((cambiumref16_May.f k a1_0 a1_1 a1_2 a1_3 a1_4 a1_5 a1_6 a1_7 l1_8 l1_9 l1_10).bind fun t323 => (cambiumlaw18_KeyOrder.j0 k (!t323) a0_0 a0_1 a0_2 a0_3 a0_4 a0_5 a0_6 a0_7 l0_8 l0_9 l0_10 a1_0 a1_1 a1_2 a1_3 a1_4 a1_5 a1_6 a1_7 l1_8 l1_9 l1_10)) else (cambiumlaw18_KeyOrder.j0 k true a0_0 a0_1 a0_2 a0_3 a0_4 a0_5 a0_6 a0_7 l0_8 l0_9 l0_10 a1_0 a1_1 a1_2 a1_3 a1_4 a1_5 a1_6 a1_7 l1_8 l1_9 l1_10))) = some r := by rw [if_pos rfl] at H; exact H
  clear H
  have H := H1
  clear H1
  replace H := Option.bind_eq_some_iff.mp H
  obtain ⟨t322, A130, H⟩ := H
  replace H : (if t322 = true then ((cambiumref16_May.f k a1_0 a1_1 a1_2 a1_3 a1_4 a1_5 a1_6 a1_7 l1_8 l1_9 l1_10).bind fun t323 => (cambiumlaw18_KeyOrder.j0 k (!t323) a0_0 a0_1 a0_2 a0_3 a0_4 a0_5 a0_6 a0_7 l0_8 l0_9 l0_10 a1_0 a1_1 a1_2 a1_3 a1_4 a1_5 a1_6 a1_7 l1_8 l1_9 l1_10)) else (cambiumlaw18_KeyOrder.j0 k true a0_0 a0_1 a0_2 a0_3 a0_4 a0_5 a0_6 a0_7 l0_8 l0_9 l0_10 a1_0 a1_1 a1_2 a1_3 a1_4 a1_5 a1_6 a1_7 l1_8 l1_9 l1_10)) = some r := H
  have A13 := Aside0.mk A130
  clear A130
  by_cases c14 : t322 = true
  rotate_left
  ·replace c14 := Bool.eq_false_iff.mpr c14
   subst c14
   have H1 : (cambiumlaw18_KeyOrder.j0 k true a0_0 a0_1 a0_2 a0_3 a0_4 a0_5 a0_6 a0_7 l0_8 l0_9 l0_10 a1_0 a1_1 a1_2 a1_3 a1_4 a1_5 a1_6 a1_7 l1_8 l1_9 l1_10) = some r := by rw [if_neg (show ¬ (false = true) by decide)] at H; exact H
   clear H
   have H := H1
   clear H1
   have H' := Aside0.mk H
   clear H
   have hnb25 := NB317_318.out
   have hnc25 := NB318_317.out
   have hcz26_0 : w8.cell? ⟨gb317, 0, none⟩ = some (.int .u64 a0_0) := (blk_cell BK317.out 0).trans rfl
   have hcz26_1 : w8.cell? ⟨gb317, 1, none⟩ = some (.int .u64 a0_1) := (blk_cell BK317.out 1).trans rfl
   have hcz26_2 : w8.cell? ⟨gb317, 2, none⟩ = some (.int .u64 a0_2) := (blk_cell BK317.out 2).trans rfl
   have hcz26_3 : w8.cell? ⟨gb317, 3, none⟩ = some (.string a0_3) := (blk_cell BK317.out 3).trans rfl
   have hcz26_4 : w8.cell? ⟨gb317, 4, none⟩ = some (.string a0_4) := (blk_cell BK317.out 4).trans rfl
   have hcz26_5 : w8.cell? ⟨gb317, 5, none⟩ = some (.int .i64 a0_5) := (blk_cell BK317.out 5).trans rfl
   have hcz26_6 : w8.cell? ⟨gb317, 6, none⟩ = some (.int .i64 a0_6) := (blk_cell BK317.out 6).trans rfl
   have hcz26_7 : w8.cell? ⟨gb317, 7, none⟩ = some (.int .i64 a0_7) := (blk_cell BK317.out 7).trans rfl
   have hcz26_8 : w8.cell? ⟨gb317, 8, none⟩ = some (.slice A0_8 l0_8.length c0_8) := (blk_cell BK317.out 8).trans rfl
   have hcz26_9 : w8.cell? ⟨gb317, 9, none⟩ = some (.slice A0_9 l0_9.length c0_9) := (blk_cell BK317.out 9).trans rfl
   have hcz26_10 : w8.cell? ⟨gb317, 10, none⟩ = some (.slice A0_10 l0_10.length c0_10) := (blk_cell BK317.out 10).trans rfl
   have hfz26_0 := blk_frozen BK317.out 0
   have hfz26_1 := blk_frozen BK317.out 1
   have hfz26_2 := blk_frozen BK317.out 2
   have hfz26_3 := blk_frozen BK317.out 3
   have hfz26_4 := blk_frozen BK317.out 4
   have hfz26_5 := blk_frozen BK317.out 5
   have hfz26_6 := blk_frozen BK317.out 6
   have hfz26_7 := blk_frozen BK317.out 7
   have hfz26_8 := blk_frozen BK317.out 8
   have hfz26_9 := blk_frozen BK317.out 9
   have hfz26_10 := blk_frozen BK317.out 10
   go_wp2_with (first | ((with_reducible refine gate_callee (f := 12) rfl ?_); refine goesL_ (some 11) rfl rfl Try.func12 (by kernel_rfl) rfl #[.agg #[.int .u64 a0_0, .int .u64 a0_1, .int .u64 a0_2, .string a0_3, .string a0_4, .int .i64 a0_5, .int .i64 a0_6, .int .i64 a0_7, .slice A0_8 l0_8.length c0_8, .slice A0_9 l0_9.length c0_9, .slice A0_10 l0_10.length c0_10]] rfl q13y2 ?_; (with_reducible refine (cambiumref16_Small.calls k a0_0 a0_1 a0_2 a0_3 a0_4 a0_5 a0_6 a0_7 _ _ l0_8 _ _ l0_9 _ _ l0_10 true _ ?side1 ?side2 ?side3 ?side4 ?side5 ?side6 A9.out).mono ?_); (case side1 => repeat (first | exact (Kd.C_below HR0_8.out HB.out) | (with_reducible refine Kd.C_alloc ?_ _) | (with_reducible refine Kd.C_drewN ?_ _) | (with_reducible refine Kd.C_drew ?_))); (case side2 => exact HC0_8.out); (case side3 => repeat (first | exact (Kd.C_below HR0_9.out HB.out) | (with_reducible refine Kd.C_alloc ?_ _) | (with_reducible refine Kd.C_drewN ?_ _) | (with_reducible refine Kd.C_drew ?_))); (case side4 => exact HC0_9.out); (case side5 => repeat (first | exact (Kd.C_below HR0_10.out HB.out) | (with_reducible refine Kd.C_alloc ?_ _) | (with_reducible refine Kd.C_drewN ?_ _) | (with_reducible refine Kd.C_drew ?_))); (case side6 => exact HC0_10.out); rintro e w27 ⟨rfl, hb⟩; refine ⟨_, rfl, ?_⟩; have n0_ := Aside0.mk (blk_below (g := gb317) (o := .cells #[.int .u64 a0_0, .int .u64 a0_1, .int .u64 a0_2, .string a0_3, .string a0_4, .int .i64 a0_5, .int .i64 a0_6, .int .i64 a0_7, .slice A0_8 l0_8.length c0_8, .slice A0_9 l0_9.length c0_9, .slice A0_10 l0_10.length c0_10] 34 (0, 0)) q13y1 hb); have n1_ := Aside0.mk (blk_below (g := gb318) (o := .cells #[.int .u64 a1_0, .int .u64 a1_1, .int .u64 a1_2, .string a1_3, .string a1_4, .int .i64 a1_5, .int .i64 a1_6, .int .i64 a1_7, .slice A1_8 l1_8.length c1_8, .slice A1_9 l1_9.length c1_9, .slice A1_10 l1_10.length c1_10] 34 (0, 0)) q13y3 hb); have n2_ := Aside0.mk (below_step q13y0 hb); clear BK317; clear BK318; clear HB; have BK317 := n0_; have BK318 := n1_; have HB := n2_; clear n0_ n1_ n2_; (try clear hb); (try clear hb2); (try clear hk); (try clear hi); have hcz28_0 : w27.cell? ⟨gb318, 0, none⟩ = some (.int .u64 a1_0) := (blk_cell BK318.out 0).trans rfl; have hcz28_1 : w27.cell? ⟨gb318, 1, none⟩ = some (.int .u64 a1_1) := (blk_cell BK318.out 1).trans rfl; have hcz28_2 : w27.cell? ⟨gb318, 2, none⟩ = some (.int .u64 a1_2) := (blk_cell BK318.out 2).trans rfl; have hcz28_3 : w27.cell? ⟨gb318, 3, none⟩ = some (.string a1_3) := (blk_cell BK318.out 3).trans rfl; have hcz28_4 : w27.cell? ⟨gb318, 4, none⟩ = some (.string a1_4) := (blk_cell BK318.out 4).trans rfl; have hcz28_5 : w27.cell? ⟨gb318, 5, none⟩ = some (.int .i64 a1_5) := (blk_cell BK318.out 5).trans rfl; have hcz28_6 : w27.cell? ⟨gb318, 6, none⟩ = some (.int .i64 a1_6) := (blk_cell BK318.out 6).trans rfl; have hcz28_7 : w27.cell? ⟨gb318, 7, none⟩ = some (.int .i64 a1_7) := (blk_cell BK318.out 7).trans rfl; have hcz28_8 : w27.cell? ⟨gb318, 8, none⟩ = some (.slice A1_8 l1_8.length c1_8) := (blk_cell BK318.out 8).trans rfl; have hcz28_9 : w27.cell? ⟨gb318, 9, none⟩ = some (.slice A1_9 l1_9.length c1_9) := (blk_cell BK318.out 9).trans rfl; have hcz28_10 : w27.cell? ⟨gb318, 10, none⟩ = some (.slice A1_10 l1_10.length c1_10) := (blk_cell BK318.out 10).trans rfl; have hfz28_0 := blk_frozen BK318.out 0; have hfz28_1 := blk_frozen BK318.out 1; have hfz28_2 := blk_frozen BK318.out 2; have hfz28_3 := blk_frozen BK318.out 3; have hfz28_4 := blk_frozen BK318.out 4; have hfz28_5 := blk_frozen BK318.out 5; have hfz28_6 := blk_frozen BK318.out 6; have hfz28_7 := blk_frozen BK318.out 7; have hfz28_8 := blk_frozen BK318.out 8; have hfz28_9 := blk_frozen BK318.out 9; have hfz28_10 := blk_frozen BK318.out 10) | (go_at_call 12; (with_reducible refine (cambiumref16_Small.calls k a1_0 a1_1 a1_2 a1_3 a1_4 a1_5 a1_6 a1_7 _ _ l1_8 _ _ l1_9 _ _ l1_10 true _ ?side1 ?side2 ?side3 ?side4 ?side5 ?side6 A11.out).mono ?_); (case side1 => repeat (first | exact (Kd.C_below HR1_8.out HB.out) | (with_reducible refine Kd.C_alloc ?_ _) | (with_reducible refine Kd.C_drewN ?_ _) | (with_reducible refine Kd.C_drew ?_))); (case side2 => exact HC1_8.out); (case side3 => repeat (first | exact (Kd.C_below HR1_9.out HB.out) | (with_reducible refine Kd.C_alloc ?_ _) | (with_reducible refine Kd.C_drewN ?_ _) | (with_reducible refine Kd.C_drew ?_))); (case side4 => exact HC1_9.out); (case side5 => repeat (first | exact (Kd.C_below HR1_10.out HB.out) | (with_reducible refine Kd.C_alloc ?_ _) | (with_reducible refine Kd.C_drewN ?_ _) | (with_reducible refine Kd.C_drew ?_))); (case side6 => exact HC1_10.out); rintro e w29 ⟨rfl, hb⟩; have n0_ := Aside0.mk (blk_below (g := gb317) (o := .cells #[.int .u64 a0_0, .int .u64 a0_1, .int .u64 a0_2, .string a0_3, .string a0_4, .int .i64 a0_5, .int .i64 a0_6, .int .i64 a0_7, .slice A0_8 l0_8.length c0_8, .slice A0_9 l0_9.length c0_9, .slice A0_10 l0_10.length c0_10] 34 (0, 0)) q13y1 hb); have n1_ := Aside0.mk (blk_below (g := gb318) (o := .cells #[.int .u64 a1_0, .int .u64 a1_1, .int .u64 a1_2, .string a1_3, .string a1_4, .int .i64 a1_5, .int .i64 a1_6, .int .i64 a1_7, .slice A1_8 l1_8.length c1_8, .slice A1_9 l1_9.length c1_9, .slice A1_10 l1_10.length c1_10] 34 (0, 0)) q13y3 hb); have n2_ := Aside0.mk (below_step q13y0 hb); clear BK317; clear BK318; clear HB; have BK317 := n0_; have BK318 := n1_; have HB := n2_; clear n0_ n1_ n2_; (try clear hb); (try clear hb2); (try clear hk); (try clear hi); have hcz30_0 : w29.cell? ⟨gb317, 0, none⟩ = some (.int .u64 a0_0) := (blk_cell BK317.out 0).trans rfl; have hcz30_1 : w29.cell? ⟨gb317, 1, none⟩ = some (.int .u64 a0_1) := (blk_cell BK317.out 1).trans rfl; have hcz30_2 : w29.cell? ⟨gb317, 2, none⟩ = some (.int .u64 a0_2) := (blk_cell BK317.out 2).trans rfl; have hcz30_3 : w29.cell? ⟨gb317, 3, none⟩ = some (.string a0_3) := (blk_cell BK317.out 3).trans rfl; have hcz30_4 : w29.cell? ⟨gb317, 4, none⟩ = some (.string a0_4) := (blk_cell BK317.out 4).trans rfl; have hcz30_5 : w29.cell? ⟨gb317, 5, none⟩ = some (.int .i64 a0_5) := (blk_cell BK317.out 5).trans rfl; have hcz30_6 : w29.cell? ⟨gb317, 6, none⟩ = some (.int .i64 a0_6) := (blk_cell BK317.out 6).trans rfl; have hcz30_7 : w29.cell? ⟨gb317, 7, none⟩ = some (.int .i64 a0_7) := (blk_cell BK317.out 7).trans rfl; have hcz30_8 : w29.cell? ⟨gb317, 8, none⟩ = some (.slice A0_8 l0_8.length c0_8) := (blk_cell BK317.out 8).trans rfl; have hcz30_9 : w29.cell? ⟨gb317, 9, none⟩ = some (.slice A0_9 l0_9.length c0_9) := (blk_cell BK317.out 9).trans rfl; have hcz30_10 : w29.cell? ⟨gb317, 10, none⟩ = some (.slice A0_10 l0_10.length c0_10) := (blk_cell BK317.out 10).trans rfl; have hfz30_0 := blk_frozen BK317.out 0; have hfz30_1 := blk_frozen BK317.out 1; have hfz30_2 := blk_frozen BK317.out 2; have hfz30_3 := blk_frozen BK317.out 3; have hfz30_4 := blk_frozen BK317.out 4; have hfz30_5 := blk_frozen BK317.out 5; have hfz30_6 := blk_frozen BK317.out 6; have hfz30_7 := blk_frozen BK317.out 7; have hfz30_8 := blk_frozen BK317.out 8; have hfz30_9 := blk_frozen BK317.out 9; have hfz30_10 := blk_frozen BK317.out 10) | (go_at_call 13; (with_reducible refine (cambiumref16_May.calls k a0_0 a0_1 a0_2 a0_3 a0_4 a0_5 a0_6 a0_7 _ _ l0_8 _ _ l0_9 _ _ l0_10 false _ ?side1 ?side2 ?side3 ?side4 ?side5 ?side6 A13.out).mono ?_); (case side1 => repeat (first | exact (Kd.C_below HR0_8.out HB.out) | (with_reducible refine Kd.C_alloc ?_ _) | (with_reducible refine Kd.C_drewN ?_ _) | (with_reducible refine Kd.C_drew ?_))); (case side2 => exact HC0_8.out); (case side3 => repeat (first | exact (Kd.C_below HR0_9.out HB.out) | (with_reducible refine Kd.C_alloc ?_ _) | (with_reducible refine Kd.C_drewN ?_ _) | (with_reducible refine Kd.C_drew ?_))); (case side4 => exact HC0_9.out); (case side5 => repeat (first | exact (Kd.C_below HR0_10.out HB.out) | (with_reducible refine Kd.C_alloc ?_ _) | (with_reducible refine Kd.C_drewN ?_ _) | (with_reducible refine Kd.C_drew ?_))); (case side6 => exact HC0_10.out); rintro e w31 ⟨rfl, hb⟩; have n0_ := Aside0.mk (blk_below (g := gb317) (o := .cells #[.int .u64 a0_0, .int .u64 a0_1, .int .u64 a0_2, .string a0_3, .string a0_4, .int .i64 a0_5, .int .i64 a0_6, .int .i64 a0_7, .slice A0_8 l0_8.length c0_8, .slice A0_9 l0_9.length c0_9, .slice A0_10 l0_10.length c0_10] 34 (0, 0)) q13y1 hb); have n1_ := Aside0.mk (blk_below (g := gb318) (o := .cells #[.int .u64 a1_0, .int .u64 a1_1, .int .u64 a1_2, .string a1_3, .string a1_4, .int .i64 a1_5, .int .i64 a1_6, .int .i64 a1_7, .slice A1_8 l1_8.length c1_8, .slice A1_9 l1_9.length c1_9, .slice A1_10 l1_10.length c1_10] 34 (0, 0)) q13y3 hb); have n2_ := Aside0.mk (below_step q13y0 hb); clear BK317; clear BK318; clear HB; have BK317 := n0_; have BK318 := n1_; have HB := n2_; clear n0_ n1_ n2_; (try clear hb); (try clear hb2); (try clear hk); (try clear hi)))
   go_meet
   case rel => exact ⟨_, (true), q13y11, H', ⟨by first | omega | exact Nat.le_refl _⟩, ⟨by (with_reducible repeat (first | refine blk_drewN ?_ _ | refine blk_drew ?_ | refine blk_alloc ?_ _)); exact BK317.out⟩, ⟨by (with_reducible repeat (first | refine blk_drewN ?_ _ | refine blk_drew ?_ | refine blk_alloc ?_ _)); exact BK318.out⟩, ⟨by repeat (first | (with_reducible first | exact HB.out | apply below_alloc | apply pw_below_drewN | apply below_drew1 | refine below_set ?_ GE317.out | refine below_set ?_ GE318.out) | exact HB.out)⟩⟩
  subst c14
  have H1 : ((cambiumref16_May.f k a1_0 a1_1 a1_2 a1_3 a1_4 a1_5 a1_6 a1_7 l1_8 l1_9 l1_10).bind fun t323 => (cambiumlaw18_KeyOrder.j0 k (!t323) a0_0 a0_1 a0_2 a0_3 a0_4 a0_5 a0_6 a0_7 l0_8 l0_9 l0_10 a1_0 a1_1 a1_2 a1_3 a1_4 a1_5 a1_6 a1_7 l1_8 l1_9 l1_10)) = some r := by rw [if_pos rfl] at H; exact H
  clear H
  have H := H1
  clear H1
  replace H := Option.bind_eq_some_iff.mp H
  obtain ⟨t323, A150, H⟩ := H
  replace H : (cambiumlaw18_KeyOrder.j0 k (!t323) a0_0 a0_1 a0_2 a0_3 a0_4 a0_5 a0_6 a0_7 l0_8 l0_9 l0_10 a1_0 a1_1 a1_2 a1_3 a1_4 a1_5 a1_6 a1_7 l1_8 l1_9 l1_10) = some r := H
  have A15 := Aside0.mk A150
  clear A150
  have H' := Aside0.mk H
  clear H
  have hnb16 := NB317_318.out
  have hnc16 := NB318_317.out
  have hcz17_0 : w8.cell? ⟨gb317, 0, none⟩ = some (.int .u64 a0_0) := (blk_cell BK317.out 0).trans rfl
  have hcz17_1 : w8.cell? ⟨gb317, 1, none⟩ = some (.int .u64 a0_1) := (blk_cell BK317.out 1).trans rfl
  have hcz17_2 : w8.cell? ⟨gb317, 2, none⟩ = some (.int .u64 a0_2) := (blk_cell BK317.out 2).trans rfl
  have hcz17_3 : w8.cell? ⟨gb317, 3, none⟩ = some (.string a0_3) := (blk_cell BK317.out 3).trans rfl
  have hcz17_4 : w8.cell? ⟨gb317, 4, none⟩ = some (.string a0_4) := (blk_cell BK317.out 4).trans rfl
  have hcz17_5 : w8.cell? ⟨gb317, 5, none⟩ = some (.int .i64 a0_5) := (blk_cell BK317.out 5).trans rfl
  have hcz17_6 : w8.cell? ⟨gb317, 6, none⟩ = some (.int .i64 a0_6) := (blk_cell BK317.out 6).trans rfl
  have hcz17_7 : w8.cell? ⟨gb317, 7, none⟩ = some (.int .i64 a0_7) := (blk_cell BK317.out 7).trans rfl
  have hcz17_8 : w8.cell? ⟨gb317, 8, none⟩ = some (.slice A0_8 l0_8.length c0_8) := (blk_cell BK317.out 8).trans rfl
  have hcz17_9 : w8.cell? ⟨gb317, 9, none⟩ = some (.slice A0_9 l0_9.length c0_9) := (blk_cell BK317.out 9).trans rfl
  have hcz17_10 : w8.cell? ⟨gb317, 10, none⟩ = some (.slice A0_10 l0_10.length c0_10) := (blk_cell BK317.out 10).trans rfl
  have hfz17_0 := blk_frozen BK317.out 0
  have hfz17_1 := blk_frozen BK317.out 1
  have hfz17_2 := blk_frozen BK317.out 2
  have hfz17_3 := blk_frozen BK317.out 3
  have hfz17_4 := blk_frozen BK317.out 4
  have hfz17_5 := blk_frozen BK317.out 5
  have hfz17_6 := blk_frozen BK317.out 6
  have hfz17_7 := blk_frozen BK317.out 7
  have hfz17_8 := blk_frozen BK317.out 8
  have hfz17_9 := blk_frozen BK317.out 9
  have hfz17_10 := blk_frozen BK317.out 10
  go_wp2_with (first | ((with_reducible refine gate_callee (f := 12) rfl ?_); refine goesL_ (some 11) rfl rfl Try.func12 (by kernel_rfl) rfl #[.agg #[.int .u64 a0_0, .int .u64 a0_1, .int .u64 a0_2, .string a0_3, .string a0_4, .int .i64 a0_5, .int .i64 a0_6, .int .i64 a0_7, .slice A0_8 l0_8.length c0_8, .slice A0_9 l0_9.length c0_9, .slice A0_10 l0_10.length c0_10]] rfl q13y2 ?_; (with_reducible refine (cambiumref16_Small.calls k a0_0 a0_1 a0_2 a0_3 a0_4 a0_5 a0_6 a0_7 _ _ l0_8 _ _ l0_9 _ _ l0_10 true _ ?side1 ?side2 ?side3 ?side4 ?side5 ?side6 A9.out).mono ?_); (case side1 => repeat (first | exact (Kd.C_below HR0_8.out HB.out) | (with_reducible refine Kd.C_alloc ?_ _) | (with_reducible refine Kd.C_drewN ?_ _) | (with_reducible refine Kd.C_drew ?_))); (case side2 => exact HC0_8.out); (case side3 => repeat (first | exact (Kd.C_below HR0_9.out HB.out) | (with_reducible refine Kd.C_alloc ?_ _) | (with_reducible refine Kd.C_drewN ?_ _) | (with_reducible refine Kd.C_drew ?_))); (case side4 => exact HC0_9.out); (case side5 => repeat (first | exact (Kd.C_below HR0_10.out HB.out) | (with_reducible refine Kd.C_alloc ?_ _) | (with_reducible refine Kd.C_drewN ?_ _) | (with_reducible refine Kd.C_drew ?_))); (case side6 => exact HC0_10.out); rintro e w18 ⟨rfl, hb⟩; refine ⟨_, rfl, ?_⟩; have n0_ := Aside0.mk (blk_below (g := gb317) (o := .cells #[.int .u64 a0_0, .int .u64 a0_1, .int .u64 a0_2, .string a0_3, .string a0_4, .int .i64 a0_5, .int .i64 a0_6, .int .i64 a0_7, .slice A0_8 l0_8.length c0_8, .slice A0_9 l0_9.length c0_9, .slice A0_10 l0_10.length c0_10] 34 (0, 0)) q13y1 hb); have n1_ := Aside0.mk (blk_below (g := gb318) (o := .cells #[.int .u64 a1_0, .int .u64 a1_1, .int .u64 a1_2, .string a1_3, .string a1_4, .int .i64 a1_5, .int .i64 a1_6, .int .i64 a1_7, .slice A1_8 l1_8.length c1_8, .slice A1_9 l1_9.length c1_9, .slice A1_10 l1_10.length c1_10] 34 (0, 0)) q13y3 hb); have n2_ := Aside0.mk (below_step q13y0 hb); clear BK317; clear BK318; clear HB; have BK317 := n0_; have BK318 := n1_; have HB := n2_; clear n0_ n1_ n2_; (try clear hb); (try clear hb2); (try clear hk); (try clear hi); have hcz19_0 : w18.cell? ⟨gb318, 0, none⟩ = some (.int .u64 a1_0) := (blk_cell BK318.out 0).trans rfl; have hcz19_1 : w18.cell? ⟨gb318, 1, none⟩ = some (.int .u64 a1_1) := (blk_cell BK318.out 1).trans rfl; have hcz19_2 : w18.cell? ⟨gb318, 2, none⟩ = some (.int .u64 a1_2) := (blk_cell BK318.out 2).trans rfl; have hcz19_3 : w18.cell? ⟨gb318, 3, none⟩ = some (.string a1_3) := (blk_cell BK318.out 3).trans rfl; have hcz19_4 : w18.cell? ⟨gb318, 4, none⟩ = some (.string a1_4) := (blk_cell BK318.out 4).trans rfl; have hcz19_5 : w18.cell? ⟨gb318, 5, none⟩ = some (.int .i64 a1_5) := (blk_cell BK318.out 5).trans rfl; have hcz19_6 : w18.cell? ⟨gb318, 6, none⟩ = some (.int .i64 a1_6) := (blk_cell BK318.out 6).trans rfl; have hcz19_7 : w18.cell? ⟨gb318, 7, none⟩ = some (.int .i64 a1_7) := (blk_cell BK318.out 7).trans rfl; have hcz19_8 : w18.cell? ⟨gb318, 8, none⟩ = some (.slice A1_8 l1_8.length c1_8) := (blk_cell BK318.out 8).trans rfl; have hcz19_9 : w18.cell? ⟨gb318, 9, none⟩ = some (.slice A1_9 l1_9.length c1_9) := (blk_cell BK318.out 9).trans rfl; have hcz19_10 : w18.cell? ⟨gb318, 10, none⟩ = some (.slice A1_10 l1_10.length c1_10) := (blk_cell BK318.out 10).trans rfl; have hfz19_0 := blk_frozen BK318.out 0; have hfz19_1 := blk_frozen BK318.out 1; have hfz19_2 := blk_frozen BK318.out 2; have hfz19_3 := blk_frozen BK318.out 3; have hfz19_4 := blk_frozen BK318.out 4; have hfz19_5 := blk_frozen BK318.out 5; have hfz19_6 := blk_frozen BK318.out 6; have hfz19_7 := blk_frozen BK318.out 7; have hfz19_8 := blk_frozen BK318.out 8; have hfz19_9 := blk_frozen BK318.out 9; have hfz19_10 := blk_frozen BK318.out 10) | (go_at_call 12; (with_reducible refine (cambiumref16_Small.calls k a1_0 a1_1 a1_2 a1_3 a1_4 a1_5 a1_6 a1_7 _ _ l1_8 _ _ l1_9 _ _ l1_10 true _ ?side1 ?side2 ?side3 ?side4 ?side5 ?side6 A11.out).mono ?_); (case side1 => repeat (first | exact (Kd.C_below HR1_8.out HB.out) | (with_reducible refine Kd.C_alloc ?_ _) | (with_reducible refine Kd.C_drewN ?_ _) | (with_reducible refine Kd.C_drew ?_))); (case side2 => exact HC1_8.out); (case side3 => repeat (first | exact (Kd.C_below HR1_9.out HB.out) | (with_reducible refine Kd.C_alloc ?_ _) | (with_reducible refine Kd.C_drewN ?_ _) | (with_reducible refine Kd.C_drew ?_))); (case side4 => exact HC1_9.out); (case side5 => repeat (first | exact (Kd.C_below HR1_10.out HB.out) | (with_reducible refine Kd.C_alloc ?_ _) | (with_reducible refine Kd.C_drewN ?_ _) | (with_reducible refine Kd.C_drew ?_))); (case side6 => exact HC1_10.out); rintro e w20 ⟨rfl, hb⟩; have n0_ := Aside0.mk (blk_below (g := gb317) (o := .cells #[.int .u64 a0_0, .int .u64 a0_1, .int .u64 a0_2, .string a0_3, .string a0_4, .int .i64 a0_5, .int .i64 a0_6, .int .i64 a0_7, .slice A0_8 l0_8.length c0_8, .slice A0_9 l0_9.length c0_9, .slice A0_10 l0_10.length c0_10] 34 (0, 0)) q13y1 hb); have n1_ := Aside0.mk (blk_below (g := gb318) (o := .cells #[.int .u64 a1_0, .int .u64 a1_1, .int .u64 a1_2, .string a1_3, .string a1_4, .int .i64 a1_5, .int .i64 a1_6, .int .i64 a1_7, .slice A1_8 l1_8.length c1_8, .slice A1_9 l1_9.length c1_9, .slice A1_10 l1_10.length c1_10] 34 (0, 0)) q13y3 hb); have n2_ := Aside0.mk (below_step q13y0 hb); clear BK317; clear BK318; clear HB; have BK317 := n0_; have BK318 := n1_; have HB := n2_; clear n0_ n1_ n2_; (try clear hb); (try clear hb2); (try clear hk); (try clear hi); have hcz21_0 : w20.cell? ⟨gb317, 0, none⟩ = some (.int .u64 a0_0) := (blk_cell BK317.out 0).trans rfl; have hcz21_1 : w20.cell? ⟨gb317, 1, none⟩ = some (.int .u64 a0_1) := (blk_cell BK317.out 1).trans rfl; have hcz21_2 : w20.cell? ⟨gb317, 2, none⟩ = some (.int .u64 a0_2) := (blk_cell BK317.out 2).trans rfl; have hcz21_3 : w20.cell? ⟨gb317, 3, none⟩ = some (.string a0_3) := (blk_cell BK317.out 3).trans rfl; have hcz21_4 : w20.cell? ⟨gb317, 4, none⟩ = some (.string a0_4) := (blk_cell BK317.out 4).trans rfl; have hcz21_5 : w20.cell? ⟨gb317, 5, none⟩ = some (.int .i64 a0_5) := (blk_cell BK317.out 5).trans rfl; have hcz21_6 : w20.cell? ⟨gb317, 6, none⟩ = some (.int .i64 a0_6) := (blk_cell BK317.out 6).trans rfl; have hcz21_7 : w20.cell? ⟨gb317, 7, none⟩ = some (.int .i64 a0_7) := (blk_cell BK317.out 7).trans rfl; have hcz21_8 : w20.cell? ⟨gb317, 8, none⟩ = some (.slice A0_8 l0_8.length c0_8) := (blk_cell BK317.out 8).trans rfl; have hcz21_9 : w20.cell? ⟨gb317, 9, none⟩ = some (.slice A0_9 l0_9.length c0_9) := (blk_cell BK317.out 9).trans rfl; have hcz21_10 : w20.cell? ⟨gb317, 10, none⟩ = some (.slice A0_10 l0_10.length c0_10) := (blk_cell BK317.out 10).trans rfl; have hfz21_0 := blk_frozen BK317.out 0; have hfz21_1 := blk_frozen BK317.out 1; have hfz21_2 := blk_frozen BK317.out 2; have hfz21_3 := blk_frozen BK317.out 3; have hfz21_4 := blk_frozen BK317.out 4; have hfz21_5 := blk_frozen BK317.out 5; have hfz21_6 := blk_frozen BK317.out 6; have hfz21_7 := blk_frozen BK317.out 7; have hfz21_8 := blk_frozen BK317.out 8; have hfz21_9 := blk_frozen BK317.out 9; have hfz21_10 := blk_frozen BK317.out 10) | (go_at_call 13; (with_reducible refine (cambiumref16_May.calls k a0_0 a0_1 a0_2 a0_3 a0_4 a0_5 a0_6 a0_7 _ _ l0_8 _ _ l0_9 _ _ l0_10 true _ ?side1 ?side2 ?side3 ?side4 ?side5 ?side6 A13.out).mono ?_); (case side1 => repeat (first | exact (Kd.C_below HR0_8.out HB.out) | (with_reducible refine Kd.C_alloc ?_ _) | (with_reducible refine Kd.C_drewN ?_ _) | (with_reducible refine Kd.C_drew ?_))); (case side2 => exact HC0_8.out); (case side3 => repeat (first | exact (Kd.C_below HR0_9.out HB.out) | (with_reducible refine Kd.C_alloc ?_ _) | (with_reducible refine Kd.C_drewN ?_ _) | (with_reducible refine Kd.C_drew ?_))); (case side4 => exact HC0_9.out); (case side5 => repeat (first | exact (Kd.C_below HR0_10.out HB.out) | (with_reducible refine Kd.C_alloc ?_ _) | (with_reducible refine Kd.C_drewN ?_ _) | (with_reducible refine Kd.C_drew ?_))); (case side6 => exact HC0_10.out); rintro e w22 ⟨rfl, hb⟩; have n0_ := Aside0.mk (blk_below (g := gb317) (o := .cells #[.int .u64 a0_0, .int .u64 a0_1, .int .u64 a0_2, .string a0_3, .string a0_4, .int .i64 a0_5, .int .i64 a0_6, .int .i64 a0_7, .slice A0_8 l0_8.length c0_8, .slice A0_9 l0_9.length c0_9, .slice A0_10 l0_10.length c0_10] 34 (0, 0)) q13y1 hb); have n1_ := Aside0.mk (blk_below (g := gb318) (o := .cells #[.int .u64 a1_0, .int .u64 a1_1, .int .u64 a1_2, .string a1_3, .string a1_4, .int .i64 a1_5, .int .i64 a1_6, .int .i64 a1_7, .slice A1_8 l1_8.length c1_8, .slice A1_9 l1_9.length c1_9, .slice A1_10 l1_10.length c1_10] 34 (0, 0)) q13y3 hb); have n2_ := Aside0.mk (below_step q13y0 hb); clear BK317; clear BK318; clear HB; have BK317 := n0_; have BK318 := n1_; have HB := n2_; clear n0_ n1_ n2_; (try clear hb); (try clear hb2); (try clear hk); (try clear hi); have hcz23_0 : w22.cell? ⟨gb318, 0, none⟩ = some (.int .u64 a1_0) := (blk_cell BK318.out 0).trans rfl; have hcz23_1 : w22.cell? ⟨gb318, 1, none⟩ = some (.int .u64 a1_1) := (blk_cell BK318.out 1).trans rfl; have hcz23_2 : w22.cell? ⟨gb318, 2, none⟩ = some (.int .u64 a1_2) := (blk_cell BK318.out 2).trans rfl; have hcz23_3 : w22.cell? ⟨gb318, 3, none⟩ = some (.string a1_3) := (blk_cell BK318.out 3).trans rfl; have hcz23_4 : w22.cell? ⟨gb318, 4, none⟩ = some (.string a1_4) := (blk_cell BK318.out 4).trans rfl; have hcz23_5 : w22.cell? ⟨gb318, 5, none⟩ = some (.int .i64 a1_5) := (blk_cell BK318.out 5).trans rfl; have hcz23_6 : w22.cell? ⟨gb318, 6, none⟩ = some (.int .i64 a1_6) := (blk_cell BK318.out 6).trans rfl; have hcz23_7 : w22.cell? ⟨gb318, 7, none⟩ = some (.int .i64 a1_7) := (blk_cell BK318.out 7).trans rfl; have hcz23_8 : w22.cell? ⟨gb318, 8, none⟩ = some (.slice A1_8 l1_8.length c1_8) := (blk_cell BK318.out 8).trans rfl; have hcz23_9 : w22.cell? ⟨gb318, 9, none⟩ = some (.slice A1_9 l1_9.length c1_9) := (blk_cell BK318.out 9).trans rfl; have hcz23_10 : w22.cell? ⟨gb318, 10, none⟩ = some (.slice A1_10 l1_10.length c1_10) := (blk_cell BK318.out 10).trans rfl; have hfz23_0 := blk_frozen BK318.out 0; have hfz23_1 := blk_frozen BK318.out 1; have hfz23_2 := blk_frozen BK318.out 2; have hfz23_3 := blk_frozen BK318.out 3; have hfz23_4 := blk_frozen BK318.out 4; have hfz23_5 := blk_frozen BK318.out 5; have hfz23_6 := blk_frozen BK318.out 6; have hfz23_7 := blk_frozen BK318.out 7; have hfz23_8 := blk_frozen BK318.out 8; have hfz23_9 := blk_frozen BK318.out 9; have hfz23_10 := blk_frozen BK318.out 10) | (go_at_call 13; (with_reducible refine (cambiumref16_May.calls k a1_0 a1_1 a1_2 a1_3 a1_4 a1_5 a1_6 a1_7 _ _ l1_8 _ _ l1_9 _ _ l1_10 t323 _ ?side1 ?side2 ?side3 ?side4 ?side5 ?side6 A15.out).mono ?_); (case side1 => repeat (first | exact (Kd.C_below HR1_8.out HB.out) | (with_reducible refine Kd.C_alloc ?_ _) | (with_reducible refine Kd.C_drewN ?_ _) | (with_reducible refine Kd.C_drew ?_))); (case side2 => exact HC1_8.out); (case side3 => repeat (first | exact (Kd.C_below HR1_9.out HB.out) | (with_reducible refine Kd.C_alloc ?_ _) | (with_reducible refine Kd.C_drewN ?_ _) | (with_reducible refine Kd.C_drew ?_))); (case side4 => exact HC1_9.out); (case side5 => repeat (first | exact (Kd.C_below HR1_10.out HB.out) | (with_reducible refine Kd.C_alloc ?_ _) | (with_reducible refine Kd.C_drewN ?_ _) | (with_reducible refine Kd.C_drew ?_))); (case side6 => exact HC1_10.out); rintro e w24 ⟨rfl, hb⟩; have n0_ := Aside0.mk (blk_below (g := gb317) (o := .cells #[.int .u64 a0_0, .int .u64 a0_1, .int .u64 a0_2, .string a0_3, .string a0_4, .int .i64 a0_5, .int .i64 a0_6, .int .i64 a0_7, .slice A0_8 l0_8.length c0_8, .slice A0_9 l0_9.length c0_9, .slice A0_10 l0_10.length c0_10] 34 (0, 0)) q13y1 hb); have n1_ := Aside0.mk (blk_below (g := gb318) (o := .cells #[.int .u64 a1_0, .int .u64 a1_1, .int .u64 a1_2, .string a1_3, .string a1_4, .int .i64 a1_5, .int .i64 a1_6, .int .i64 a1_7, .slice A1_8 l1_8.length c1_8, .slice A1_9 l1_9.length c1_9, .slice A1_10 l1_10.length c1_10] 34 (0, 0)) q13y3 hb); have n2_ := Aside0.mk (below_step q13y0 hb); clear BK317; clear BK318; clear HB; have BK317 := n0_; have BK318 := n1_; have HB := n2_; clear n0_ n1_ n2_; (try clear hb); (try clear hb2); (try clear hk); (try clear hi)))
  go_meet
  case rel => exact ⟨_, (!t323), q13y11, H', ⟨by first | omega | exact Nat.le_refl _⟩, ⟨by (with_reducible repeat (first | refine blk_drewN ?_ _ | refine blk_drew ?_ | refine blk_alloc ?_ _)); exact BK317.out⟩, ⟨by (with_reducible repeat (first | refine blk_drewN ?_ _ | refine blk_drew ?_ | refine blk_alloc ?_ _)); exact BK318.out⟩, ⟨by repeat (first | (with_reducible first | exact HB.out | apply below_alloc | apply pw_below_drewN | apply below_drew1 | refine below_set ?_ GE317.out | refine below_set ?_ GE318.out) | exact HB.out)⟩⟩
 case rest =>
  clear HC5
  try clear c1
  try clear c2
  try clear p2
  try clear c3
  try clear c4
  try clear c7
  try clear c10
  try clear c12
  try clear c14
  try clear c16
  try clear c25
  try clear c32
  try clear c37
  try clear hcz17_0 hcz17_1 hcz17_10 hcz17_2 hcz17_3 hcz17_4 hcz17_5 hcz17_6 hcz17_7 hcz17_8 hcz17_9
  try clear hcz19_0 hcz19_1 hcz19_10 hcz19_2 hcz19_3 hcz19_4 hcz19_5 hcz19_6 hcz19_7 hcz19_8 hcz19_9
  try clear hcz21_0 hcz21_1 hcz21_10 hcz21_2 hcz21_3 hcz21_4 hcz21_5 hcz21_6 hcz21_7 hcz21_8 hcz21_9
  try clear hcz23_0 hcz23_1 hcz23_10 hcz23_2 hcz23_3 hcz23_4 hcz23_5 hcz23_6 hcz23_7 hcz23_8 hcz23_9
  try clear hcz26_0 hcz26_1 hcz26_10 hcz26_2 hcz26_3 hcz26_4 hcz26_5 hcz26_6 hcz26_7 hcz26_8 hcz26_9
  try clear hcz28_0 hcz28_1 hcz28_10 hcz28_2 hcz28_3 hcz28_4 hcz28_5 hcz28_6 hcz28_7 hcz28_8 hcz28_9
  try clear hcz30_0 hcz30_1 hcz30_10 hcz30_2 hcz30_3 hcz30_4 hcz30_5 hcz30_6 hcz30_7 hcz30_8 hcz30_9
  try clear hcz33_0 hcz33_1 hcz33_10 hcz33_2 hcz33_3 hcz33_4 hcz33_5 hcz33_6 hcz33_7 hcz33_8 hcz33_9
  try clear hcz35_0 hcz35_1 hcz35_10 hcz35_2 hcz35_3 hcz35_4 hcz35_5 hcz35_6 hcz35_7 hcz35_8 hcz35_9
  try clear hcz38_0 hcz38_1 hcz38_10 hcz38_2 hcz38_3 hcz38_4 hcz38_5 hcz38_6 hcz38_7 hcz38_8 hcz38_9
  try clear hfz17_0 hfz17_1 hfz17_10 hfz17_2 hfz17_3 hfz17_4 hfz17_5 hfz17_6 hfz17_7 hfz17_8 hfz17_9
  try clear hfz19_0 hfz19_1 hfz19_10 hfz19_2 hfz19_3 hfz19_4 hfz19_5 hfz19_6 hfz19_7 hfz19_8 hfz19_9
  try clear hfz21_0 hfz21_1 hfz21_10 hfz21_2 hfz21_3 hfz21_4 hfz21_5 hfz21_6 hfz21_7 hfz21_8 hfz21_9
  try clear hfz23_0 hfz23_1 hfz23_10 hfz23_2 hfz23_3 hfz23_4 hfz23_5 hfz23_6 hfz23_7 hfz23_8 hfz23_9
  try clear hfz26_0 hfz26_1 hfz26_10 hfz26_2 hfz26_3 hfz26_4 hfz26_5 hfz26_6 hfz26_7 hfz26_8 hfz26_9
  try clear hfz28_0 hfz28_1 hfz28_10 hfz28_2 hfz28_3 hfz28_4 hfz28_5 hfz28_6 hfz28_7 hfz28_8 hfz28_9
  try clear hfz30_0 hfz30_1 hfz30_10 hfz30_2 hfz30_3 hfz30_4 hfz30_5 hfz30_6 hfz30_7 hfz30_8 hfz30_9
  try clear hfz33_0 hfz33_1 hfz33_10 hfz33_2 hfz33_3 hfz33_4 hfz33_5 hfz33_6 hfz33_7 hfz33_8 hfz33_9
  try clear hfz35_0 hfz35_1 hfz35_10 hfz35_2 hfz35_3 hfz35_4 hfz35_5 hfz35_6 hfz35_7 hfz35_8 hfz35_9
  try clear hfz38_0 hfz38_1 hfz38_10 hfz38_2 hfz38_3 hfz38_4 hfz38_5 hfz38_6 hfz38_7 hfz38_8 hfz38_9
  obtain ⟨kq, x27_4, rfl, HA, HJ4, BK317, BK318, HB⟩ := hcut
  cases kq with
  | zero => exact absurd HA.out (by simp [cambiumlaw18_KeyOrder.j0])
  | succ kj4 =>
   have H := HA.out
   clear HA
   simp only [cambiumlaw18_KeyOrder.j0] at H
   by_cases c40 : x27_4 = true
   ·subst c40
    have H1 : (some true) = some r := by rw [if_pos rfl] at H; exact H
    clear H
    have H := H1
    clear H1
    obtain rfl := Option.some.inj H
    go_wp2
    go_ret
    exact ⟨by first | rfl | (simp [errW_none, errW_some] <;> rfl) | (simp [*, errW_none, errW_some] <;> rfl), by repeat (first | (with_reducible first | exact HB.out | apply below_alloc | apply pw_below_drewN | apply below_drew1 | refine below_set ?_ GE317.out | refine below_set ?_ GE318.out) | exact HB.out)⟩
   replace c40 := Bool.eq_false_iff.mpr c40
   subst c40
   have H1 : (cambiumlaw18_KeyOrder.l0 kj4 1 a0_0 a0_1 a0_2 a0_3 a0_4 a0_5 a0_6 a0_7 l0_8 l0_9 l0_10 a1_0 a1_1 a1_2 a1_3 a1_4 a1_5 a1_6 a1_7 l1_8 l1_9 l1_10) = some r := by rw [if_neg (show ¬ (false = true) by decide)] at H; exact H
   clear H
   have H := H1
   clear H1
   have H' := Aside0.mk H
   clear H
   go_wp2
   go_loopg [5] kj4 (fun kq v5 w' => ∃ (x5_2 : Int), v5 = .int .i64 x5_2 ∧ Aside0 (cambiumlaw18_KeyOrder.l0 kq x5_2 a0_0 a0_1 a0_2 a0_3 a0_4 a0_5 a0_6 a0_7 l0_8 l0_9 l0_10 a1_0 a1_1 a1_2 a1_3 a1_4 a1_5 a1_6 a1_7 l1_8 l1_9 l1_10 = some r) ∧ Aside0 (kq ≤ kj4) ∧ Aside0 (w'.heap[gb317]? = some (.cells #[.int .u64 a0_0, .int .u64 a0_1, .int .u64 a0_2, .string a0_3, .string a0_4, .int .i64 a0_5, .int .i64 a0_6, .int .i64 a0_7, (.slice A0_8 l0_8.length c0_8), (.slice A0_9 l0_9.length c0_9), (.slice A0_10 l0_10.length c0_10)] 34 (0, 0))) ∧ Aside0 (w'.heap[gb318]? = some (.cells #[.int .u64 a1_0, .int .u64 a1_1, .int .u64 a1_2, .string a1_3, .string a1_4, .int .i64 a1_5, .int .i64 a1_6, .int .i64 a1_7, (.slice A1_8 l1_8.length c1_8), (.slice A1_9 l1_9.length c1_9), (.slice A1_10 l1_10.length c1_10)] 34 (0, 0))) ∧ Aside0 (Below w.heap.size w w'))
   case atStart => exact ⟨(1), q13y11, H', ⟨Nat.le_refl _⟩, ⟨by (with_reducible repeat (first | refine blk_drewN ?_ _ | refine blk_drew ?_ | refine blk_alloc ?_ _)); exact BK317.out⟩, ⟨by (with_reducible repeat (first | refine blk_drewN ?_ _ | refine blk_drew ?_ | refine blk_alloc ?_ _)); exact BK318.out⟩, ⟨by repeat (first | (with_reducible first | exact HB.out | apply below_alloc | apply pw_below_drewN | apply below_drew1 | refine below_set ?_ GE317.out | refine below_set ?_ GE318.out) | exact HB.out)⟩⟩
   case round =>
    clear H'
    try clear c1
    try clear c2
    try clear p2
    try clear c3
    try clear c4
    try clear c7
    try clear c10
    try clear c12
    try clear c14
    try clear c16
    try clear c25
    try clear c32
    try clear c37
    try clear c40
    try clear hcz17_0 hcz17_1 hcz17_10 hcz17_2 hcz17_3 hcz17_4 hcz17_5 hcz17_6 hcz17_7 hcz17_8 hcz17_9
    try clear hcz19_0 hcz19_1 hcz19_10 hcz19_2 hcz19_3 hcz19_4 hcz19_5 hcz19_6 hcz19_7 hcz19_8 hcz19_9
    try clear hcz21_0 hcz21_1 hcz21_10 hcz21_2 hcz21_3 hcz21_4 hcz21_5 hcz21_6 hcz21_7 hcz21_8 hcz21_9
    try clear hcz23_0 hcz23_1 hcz23_10 hcz23_2 hcz23_3 hcz23_4 hcz23_5 hcz23_6 hcz23_7 hcz23_8 hcz23_9
    try clear hcz26_0 hcz26_1 hcz26_10 hcz26_2 hcz26_3 hcz26_4 hcz26_5 hcz26_6 hcz26_7 hcz26_8 hcz26_9
    try clear hcz28_0 hcz28_1 hcz28_10 hcz28_2 hcz28_3 hcz28_4 hcz28_5 hcz28_6 hcz28_7 hcz28_8 hcz28_9
    try clear hcz30_0 hcz30_1 hcz30_10 hcz30_2 hcz30_3 hcz30_4 hcz30_5 hcz30_6 hcz30_7 hcz30_8 hcz30_9
    try clear hcz33_0 hcz33_1 hcz33_10 hcz33_2 hcz33_3 hcz33_4 hcz33_5 hcz33_6 hcz33_7 hcz33_8 hcz33_9
    try clear hcz35_0 hcz35_1 hcz35_10 hcz35_2 hcz35_3 hcz35_4 hcz35_5 hcz35_6 hcz35_7 hcz35_8 hcz35_9
    try clear hcz38_0 hcz38_1 hcz38_10 hcz38_2 hcz38_3 hcz38_4 hcz38_5 hcz38_6 hcz38_7 hcz38_8 hcz38_9
    try clear hfz17_0 hfz17_1 hfz17_10 hfz17_2 hfz17_3 hfz17_4 hfz17_5 hfz17_6 hfz17_7 hfz17_8 hfz17_9
    try clear hfz19_0 hfz19_1 hfz19_10 hfz19_2 hfz19_3 hfz19_4 hfz19_5 hfz19_6 hfz19_7 hfz19_8 hfz19_9
    try clear hfz21_0 hfz21_1 hfz21_10 hfz21_2 hfz21_3 hfz21_4 hfz21_5 hfz21_6 hfz21_7 hfz21_8 hfz21_9
    try clear hfz23_0 hfz23_1 hfz23_10 hfz23_2 hfz23_3 hfz23_4 hfz23_5 hfz23_6 hfz23_7 hfz23_8 hfz23_9
    try clear hfz26_0 hfz26_1 hfz26_10 hfz26_2 hfz26_3 hfz26_4 hfz26_5 hfz26_6 hfz26_7 hfz26_8 hfz26_9
    try clear hfz28_0 hfz28_1 hfz28_10 hfz28_2 hfz28_3 hfz28_4 hfz28_5 hfz28_6 hfz28_7 hfz28_8 hfz28_9
    try clear hfz30_0 hfz30_1 hfz30_10 hfz30_2 hfz30_3 hfz30_4 hfz30_5 hfz30_6 hfz30_7 hfz30_8 hfz30_9
    try clear hfz33_0 hfz33_1 hfz33_10 hfz33_2 hfz33_3 hfz33_4 hfz33_5 hfz33_6 hfz33_7 hfz33_8 hfz33_9
    try clear hfz35_0 hfz35_1 hfz35_10 hfz35_2 hfz35_3 hfz35_4 hfz35_5 hfz35_6 hfz35_7 hfz35_8 hfz35_9
    try clear hfz38_0 hfz38_1 hfz38_10 hfz38_2 hfz38_3 hfz38_4 hfz38_5 hfz38_6 hfz38_7 hfz38_8 hfz38_9
    try clear p2
    obtain ⟨x5_2, rfl, HA, HK2, BK317, BK318, HB⟩ := hrel
    cases gk with
    | zero => exact absurd HA.out (by simp [cambiumlaw18_KeyOrder.l0])
    | succ k2 =>
     have H := HA.out
     clear HA
     simp only [cambiumlaw18_KeyOrder.l0] at H
     by_cases c41 : x5_2 ≤ 4
     ·rw [if_pos c41] at H
      have c41b0 : decide (x5_2 ≤ 4) = true := decide_eq_true c41
      clear c41
      replace H := Option.bind_eq_some_iff.mp H
      obtain ⟨t324, A420, H⟩ := H
      replace H : ((key_Index.f k2 x5_2 a1_0 a1_1 a1_2 a1_3 a1_4 a1_5 a1_6 a1_7 l1_8 l1_9 l1_10).bind fun t327 => ((cambiumref01_Less.f k2 t324 t327).bind fun t330 => ((cambiumref18_Before.f k2 x5_2 a0_0 a0_1 a0_2 a0_3 a0_4 a0_5 a0_6 a0_7 l0_8 l0_9 l0_10 a1_0 a1_1 a1_2 a1_3 a1_4 a1_5 a1_6 a1_7 l1_8 l1_9 l1_10).bind fun t331 => (if (t330 != t331) = true then (some false) else ((cambiumref01_Less.f k2 t327 t324).bind fun t332 => ((cambiumref18_Before.f k2 x5_2 a1_0 a1_1 a1_2 a1_3 a1_4 a1_5 a1_6 a1_7 l1_8 l1_9 l1_10 a0_0 a0_1 a0_2 a0_3 a0_4 a0_5 a0_6 a0_7 l0_8 l0_9 l0_10).bind fun t333 => (if (t332 != t333) = true then (some false) else (cambiumlaw18_KeyOrder.l0 k2 (wrap64 (x5_2 + 1)) a0_0 a0_1 a0_2 a0_3 a0_4 a0_5 a0_6 a0_7 l0_8 l0_9 l0_10 a1_0 a1_1 a1_2 a1_3 a1_4 a1_5 a1_6 a1_7 l1_8 l1_9 l1_10)))))))) = some r := H
      have A42 := Aside0.mk A420
      clear A420
      replace H := Option.bind_eq_some_iff.mp H
      obtain ⟨t327, A430, H⟩ := H
      replace H : ((cambiumref01_Less.f k2 t324 t327).bind fun t330 => ((cambiumref18_Before.f k2 x5_2 a0_0 a0_1 a0_2 a0_3 a0_4 a0_5 a0_6 a0_7 l0_8 l0_9 l0_10 a1_0 a1_1 a1_2 a1_3 a1_4 a1_5 a1_6 a1_7 l1_8 l1_9 l1_10).bind fun t331 => (if (t330 != t331) = true then (some false) else ((cambiumref01_Less.f k2 t327 t324).bind fun t332 => ((cambiumref18_Before.f k2 x5_2 a1_0 a1_1 a1_2 a1_3 a1_4 a1_5 a1_6 a1_7 l1_8 l1_9 l1_10 a0_0 a0_1 a0_2 a0_3 a0_4 a0_5 a0_6 a0_7 l0_8 l0_9 l0_10).bind fun t333 => (if (t332 != t333) = true then (some false) else (cambiumlaw18_KeyOrder.l0 k2 (wrap64 (x5_2 + 1)) a0_0 a0_1 a0_2 a0_3 a0_4 a0_5 a0_6 a0_7 l0_8 l0_9 l0_10 a1_0 a1_1 a1_2 a1_3 a1_4 a1_5 a1_6 a1_7 l1_8 l1_9 l1_10))))))) = some r := H
      have A43 := Aside0.mk A430
      clear A430
      replace H := Option.bind_eq_some_iff.mp H
      obtain ⟨t330, A440, H⟩ := H
      replace H : ((cambiumref18_Before.f k2 x5_2 a0_0 a0_1 a0_2 a0_3 a0_4 a0_5 a0_6 a0_7 l0_8 l0_9 l0_10 a1_0 a1_1 a1_2 a1_3 a1_4 a1_5 a1_6 a1_7 l1_8 l1_9 l1_10).bind fun t331 => (if (t330 != t331) = true then (some false) else ((cambiumref01_Less.f k2 t327 t324).bind fun t332 => ((cambiumref18_Before.f k2 x5_2 a1_0 a1_1 a1_2 a1_3 a1_4 a1_5 a1_6 a1_7 l1_8 l1_9 l1_10 a0_0 a0_1 a0_2 a0_3 a0_4 a0_5 a0_6 a0_7 l0_8 l0_9 l0_10).bind fun t333 => (if (t332 != t333) = true then (some false) else (cambiumlaw18_KeyOrder.l0 k2 (wrap64 (x5_2 + 1)) a0_0 a0_1 a0_2 a0_3 a0_4 a0_5 a0_6 a0_7 l0_8 l0_9 l0_10 a1_0 a1_1 a1_2 a1_3 a1_4 a1_5 a1_6 a1_7 l1_8 l1_9 l1_10)))))) = some r := H
      have A44 := Aside0.mk A440
      clear A440
      replace H := Option.bind_eq_some_iff.mp H
      obtain ⟨t331, A450, H⟩ := H
      replace H : (if (t330 != t331) = true then (some false) else ((cambiumref01_Less.f k2 t327 t324).bind fun t332 => ((cambiumref18_Before.f k2 x5_2 a1_0 a1_1 a1_2 a1_3 a1_4 a1_5 a1_6 a1_7 l1_8 l1_9 l1_10 a0_0 a0_1 a0_2 a0_3 a0_4 a0_5 a0_6 a0_7 l0_8 l0_9 l0_10).bind fun t333 => (if (t332 != t333) = true then (some false) else (cambiumlaw18_KeyOrder.l0 k2 (wrap64 (x5_2 + 1)) a0_0 a0_1 a0_2 a0_3 a0_4 a0_5 a0_6 a0_7 l0_8 l0_9 l0_10 a1_0 a1_1 a1_2 a1_3 a1_4 a1_5 a1_6 a1_7 l1_8 l1_9 l1_10))))) = some r := H
      have A45 := Aside0.mk A450
      clear A450
      by_cases c46 : (t330 != t331) = true
      ·rw [if_pos c46] at H
       have c46b0 : (t330 != t331) = true := c46
       (try (have c46b1 : decide (t330 = t331) = false := by simpa using c46))
       (try (have c46b2 : (t330 == t331) = false := by simpa using c46))
       (try (have c46b3 : ¬ (t330 = t331) := by simpa using c46))
       clear c46
       obtain rfl := Option.some.inj H
       have hnb47 := NB317_318.out
       have hnc47 := NB318_317.out
       have hcz48_0 : wr.cell? ⟨gb317, 0, none⟩ = some (.int .u64 a0_0) := (blk_cell BK317.out 0).trans rfl
       have hcz48_1 : wr.cell? ⟨gb317, 1, none⟩ = some (.int .u64 a0_1) := (blk_cell BK317.out 1).trans rfl
       have hcz48_2 : wr.cell? ⟨gb317, 2, none⟩ = some (.int .u64 a0_2) := (blk_cell BK317.out 2).trans rfl
       have hcz48_3 : wr.cell? ⟨gb317, 3, none⟩ = some (.string a0_3) := (blk_cell BK317.out 3).trans rfl
       have hcz48_4 : wr.cell? ⟨gb317, 4, none⟩ = some (.string a0_4) := (blk_cell BK317.out 4).trans rfl
       have hcz48_5 : wr.cell? ⟨gb317, 5, none⟩ = some (.int .i64 a0_5) := (blk_cell BK317.out 5).trans rfl
       have hcz48_6 : wr.cell? ⟨gb317, 6, none⟩ = some (.int .i64 a0_6) := (blk_cell BK317.out 6).trans rfl
       have hcz48_7 : wr.cell? ⟨gb317, 7, none⟩ = some (.int .i64 a0_7) := (blk_cell BK317.out 7).trans rfl
       have hcz48_8 : wr.cell? ⟨gb317, 8, none⟩ = some (.slice A0_8 l0_8.length c0_8) := (blk_cell BK317.out 8).trans rfl
       have hcz48_9 : wr.cell? ⟨gb317, 9, none⟩ = some (.slice A0_9 l0_9.length c0_9) := (blk_cell BK317.out 9).trans rfl
       have hcz48_10 : wr.cell? ⟨gb317, 10, none⟩ = some (.slice A0_10 l0_10.length c0_10) := (blk_cell BK317.out 10).trans rfl
       have hfz48_0 := blk_frozen BK317.out 0
       have hfz48_1 := blk_frozen BK317.out 1
       have hfz48_2 := blk_frozen BK317.out 2
       have hfz48_3 := blk_frozen BK317.out 3
       have hfz48_4 := blk_frozen BK317.out 4
       have hfz48_5 := blk_frozen BK317.out 5
       have hfz48_6 := blk_frozen BK317.out 6
       have hfz48_7 := blk_frozen BK317.out 7
       have hfz48_8 := blk_frozen BK317.out 8
       have hfz48_9 := blk_frozen BK317.out 9
       have hfz48_10 := blk_frozen BK317.out 10
       try go_wp2_with (first | ((with_reducible refine gate_callee (f := 14) rfl ?_); refine goesL_ (some 34) rfl rfl Try.func14 (by kernel_rfl) rfl #[.int .i64 x5_2, .agg #[.int .u64 a0_0, .int .u64 a0_1, .int .u64 a0_2, .string a0_3, .string a0_4, .int .i64 a0_5, .int .i64 a0_6, .int .i64 a0_7, .slice A0_8 l0_8.length c0_8, .slice A0_9 l0_9.length c0_9, .slice A0_10 l0_10.length c0_10]] rfl q13y2 ?_; (with_reducible refine (key_Index.calls k2 x5_2 a0_0 a0_1 a0_2 a0_3 a0_4 a0_5 a0_6 a0_7 _ _ l0_8 _ _ l0_9 _ _ l0_10 t324 _ ?side1 ?side2 ?side3 ?side4 ?side5 ?side6 A42.out).mono ?_); (case side1 => repeat (first | exact (Kd.C_below HR0_8.out HB.out) | (with_reducible refine Kd.C_alloc ?_ _) | (with_reducible refine Kd.C_drewN ?_ _) | (with_reducible refine Kd.C_drew ?_))); (case side2 => exact HC0_8.out); (case side3 => repeat (first | exact (Kd.C_below HR0_9.out HB.out) | (with_reducible refine Kd.C_alloc ?_ _) | (with_reducible refine Kd.C_drewN ?_ _) | (with_reducible refine Kd.C_drew ?_))); (case side4 => exact HC0_9.out); (case side5 => repeat (first | exact (Kd.C_below HR0_10.out HB.out) | (with_reducible refine Kd.C_alloc ?_ _) | (with_reducible refine Kd.C_drewN ?_ _) | (with_reducible refine Kd.C_drew ?_))); (case side6 => exact HC0_10.out); rintro e w49 ⟨v325, rfl, ho0, hb⟩; refine ⟨_, rfl, ?_⟩; have n0_ := Aside0.mk (Kd.R_lower ho0 (below_size q13y0)); have n1_ := Aside0.mk (blk_below (g := gb317) (o := .cells #[.int .u64 a0_0, .int .u64 a0_1, .int .u64 a0_2, .string a0_3, .string a0_4, .int .i64 a0_5, .int .i64 a0_6, .int .i64 a0_7, .slice A0_8 l0_8.length c0_8, .slice A0_9 l0_9.length c0_9, .slice A0_10 l0_10.length c0_10] 34 (0, 0)) q13y1 hb); have n2_ := Aside0.mk (blk_below (g := gb318) (o := .cells #[.int .u64 a1_0, .int .u64 a1_1, .int .u64 a1_2, .string a1_3, .string a1_4, .int .i64 a1_5, .int .i64 a1_6, .int .i64 a1_7, .slice A1_8 l1_8.length c1_8, .slice A1_9 l1_9.length c1_9, .slice A1_10 l1_10.length c1_10] 34 (0, 0)) q13y3 hb); have n3_ := Aside0.mk (below_step q13y0 hb); clear BK317; clear BK318; clear HB; have HO326 := n0_; have BK317 := n1_; have BK318 := n2_; have HB := n3_; clear n0_ n1_ n2_ n3_; (try clear hb); (try clear hb2); (try clear hk); (try clear hi); (try clear ho0); have hcz50_0 : w49.cell? ⟨gb318, 0, none⟩ = some (.int .u64 a1_0) := (blk_cell BK318.out 0).trans rfl; have hcz50_1 : w49.cell? ⟨gb318, 1, none⟩ = some (.int .u64 a1_1) := (blk_cell BK318.out 1).trans rfl; have hcz50_2 : w49.cell? ⟨gb318, 2, none⟩ = some (.int .u64 a1_2) := (blk_cell BK318.out 2).trans rfl; have hcz50_3 : w49.cell? ⟨gb318, 3, none⟩ = some (.string a1_3) := (blk_cell BK318.out 3).trans rfl; have hcz50_4 : w49.cell? ⟨gb318, 4, none⟩ = some (.string a1_4) := (blk_cell BK318.out 4).trans rfl; have hcz50_5 : w49.cell? ⟨gb318, 5, none⟩ = some (.int .i64 a1_5) := (blk_cell BK318.out 5).trans rfl; have hcz50_6 : w49.cell? ⟨gb318, 6, none⟩ = some (.int .i64 a1_6) := (blk_cell BK318.out 6).trans rfl; have hcz50_7 : w49.cell? ⟨gb318, 7, none⟩ = some (.int .i64 a1_7) := (blk_cell BK318.out 7).trans rfl; have hcz50_8 : w49.cell? ⟨gb318, 8, none⟩ = some (.slice A1_8 l1_8.length c1_8) := (blk_cell BK318.out 8).trans rfl; have hcz50_9 : w49.cell? ⟨gb318, 9, none⟩ = some (.slice A1_9 l1_9.length c1_9) := (blk_cell BK318.out 9).trans rfl; have hcz50_10 : w49.cell? ⟨gb318, 10, none⟩ = some (.slice A1_10 l1_10.length c1_10) := (blk_cell BK318.out 10).trans rfl; have hfz50_0 := blk_frozen BK318.out 0; have hfz50_1 := blk_frozen BK318.out 1; have hfz50_2 := blk_frozen BK318.out 2; have hfz50_3 := blk_frozen BK318.out 3; have hfz50_4 := blk_frozen BK318.out 4; have hfz50_5 := blk_frozen BK318.out 5; have hfz50_6 := blk_frozen BK318.out 6; have hfz50_7 := blk_frozen BK318.out 7; have hfz50_8 := blk_frozen BK318.out 8; have hfz50_9 := blk_frozen BK318.out 9; have hfz50_10 := blk_frozen BK318.out 10) | ((with_reducible refine gate_callee (f := 14) rfl ?_); refine goesL_ (some 37) rfl rfl Try.func14 (by kernel_rfl) rfl #[.int .i64 x5_2, .agg #[.int .u64 a1_0, .int .u64 a1_1, .int .u64 a1_2, .string a1_3, .string a1_4, .int .i64 a1_5, .int .i64 a1_6, .int .i64 a1_7, .slice A1_8 l1_8.length c1_8, .slice A1_9 l1_9.length c1_9, .slice A1_10 l1_10.length c1_10]] rfl q13y2 ?_; (with_reducible refine (key_Index.calls k2 x5_2 a1_0 a1_1 a1_2 a1_3 a1_4 a1_5 a1_6 a1_7 _ _ l1_8 _ _ l1_9 _ _ l1_10 t327 _ ?side1 ?side2 ?side3 ?side4 ?side5 ?side6 A43.out).mono ?_); (case side1 => repeat (first | exact (Kd.C_below HR1_8.out HB.out) | (with_reducible refine Kd.C_alloc ?_ _) | (with_reducible refine Kd.C_drewN ?_ _) | (with_reducible refine Kd.C_drew ?_))); (case side2 => exact HC1_8.out); (case side3 => repeat (first | exact (Kd.C_below HR1_9.out HB.out) | (with_reducible refine Kd.C_alloc ?_ _) | (with_reducible refine Kd.C_drewN ?_ _) | (with_reducible refine Kd.C_drew ?_))); (case side4 => exact HC1_9.out); (case side5 => repeat (first | exact (Kd.C_below HR1_10.out HB.out) | (with_reducible refine Kd.C_alloc ?_ _) | (with_reducible refine Kd.C_drewN ?_ _) | (with_reducible refine Kd.C_drew ?_))); (case side6 => exact HC1_10.out); rintro e w51 ⟨v328, rfl, ho0, hb⟩; refine ⟨_, rfl, ?_⟩; have n0_ := Aside0.mk (Kd.R_elder' q13y5 (Kd.R_base ho0) hb); have n1_ := Aside0.mk (Kd.R_lower (Kd.R_new' ho0 (Kd.R_lt q13y5)) (below_size q13y0)); have n2_ := Aside0.mk (blk_below (g := gb317) (o := .cells #[.int .u64 a0_0, .int .u64 a0_1, .int .u64 a0_2, .string a0_3, .string a0_4, .int .i64 a0_5, .int .i64 a0_6, .int .i64 a0_7, .slice A0_8 l0_8.length c0_8, .slice A0_9 l0_9.length c0_9, .slice A0_10 l0_10.length c0_10] 34 (0, 0)) q13y1 hb); have n3_ := Aside0.mk (blk_below (g := gb318) (o := .cells #[.int .u64 a1_0, .int .u64 a1_1, .int .u64 a1_2, .string a1_3, .string a1_4, .int .i64 a1_5, .int .i64 a1_6, .int .i64 a1_7, .slice A1_8 l1_8.length c1_8, .slice A1_9 l1_9.length c1_9, .slice A1_10 l1_10.length c1_10] 34 (0, 0)) q13y3 hb); have n4_ := Aside0.mk (below_step q13y0 hb); clear HO326; clear BK317; clear BK318; clear HB; have HO326 := n0_; have HO329 := n1_; have BK317 := n2_; have BK318 := n3_; have HB := n4_; clear n0_ n1_ n2_ n3_ n4_; (try clear hb); (try clear hb2); (try clear hk); (try clear hi); (try clear ho0)))
       have n0_ := Aside0.mk (Kd.R_drew HO326.out)
       have n1_ := Aside0.mk (Kd.R_drew HO329.out)
       have n2_ := Aside0.mk (blk_drew BK317.out)
       have n3_ := Aside0.mk (blk_drew BK318.out)
       have n4_ := Aside0.mk (below_drew1 HB.out)
       clear HO326
       clear HO329
       clear BK317
       clear BK318
       clear HB
       have HO326 := n0_
       have HO329 := n1_
       have BK317 := n2_
       have BK318 := n3_
       have HB := n4_
       clear n0_ n1_ n2_ n3_ n4_
       obtain ⟨Ao53, co53, eo53⟩ := Kd.R_slice HO326.out
       (first | subst eo53 | (injection eo53 with f1_ f2_ f3_; have f4_ := f1_.symm; have f5_ := f3_.symm; clear f1_ f2_ f3_; subst f4_; subst f5_))
       obtain ⟨Ao54, co54, eo54⟩ := Kd.R_slice HO329.out
       (first | subst eo54 | (injection eo54 with f1_ f2_ f3_; have f4_ := f1_.symm; have f5_ := f3_.symm; clear f1_ f2_ f3_; subst f4_; subst f5_))
       as_aux_lemma =>
        refine start_ (n := 18) (S := fun w' => w'.cell? ⟨gb317, 0, none⟩ = some (.int .u64 a0_0) ∧ w'.cell? ⟨gb317, 1, none⟩ = some (.int .u64 a0_1) ∧ w'.cell? ⟨gb317, 2, none⟩ = some (.int .u64 a0_2) ∧ w'.cell? ⟨gb317, 3, none⟩ = some (.string a0_3) ∧ w'.cell? ⟨gb317, 4, none⟩ = some (.string a0_4) ∧ w'.cell? ⟨gb317, 5, none⟩ = some (.int .i64 a0_5) ∧ w'.cell? ⟨gb317, 6, none⟩ = some (.int .i64 a0_6) ∧ w'.cell? ⟨gb317, 7, none⟩ = some (.int .i64 a0_7) ∧ w'.cell? ⟨gb317, 8, none⟩ = some (.slice A0_8 l0_8.length c0_8) ∧ w'.cell? ⟨gb317, 9, none⟩ = some (.slice A0_9 l0_9.length c0_9) ∧ w'.cell? ⟨gb317, 10, none⟩ = some (.slice A0_10 l0_10.length c0_10) ∧ w'.cell? ⟨gb318, 0, none⟩ = some (.int .u64 a1_0) ∧ w'.cell? ⟨gb318, 1, none⟩ = some (.int .u64 a1_1) ∧ w'.cell? ⟨gb318, 2, none⟩ = some (.int .u64 a1_2) ∧ w'.cell? ⟨gb318, 3, none⟩ = some (.string a1_3) ∧ w'.cell? ⟨gb318, 4, none⟩ = some (.string a1_4) ∧ w'.cell? ⟨gb318, 5, none⟩ = some (.int .i64 a1_5) ∧ w'.cell? ⟨gb318, 6, none⟩ = some (.int .i64 a1_6) ∧ w'.cell? ⟨gb318, 7, none⟩ = some (.int .i64 a1_7) ∧ w'.cell? ⟨gb318, 8, none⟩ = some (.slice A1_8 l1_8.length c1_8) ∧ w'.cell? ⟨gb318, 9, none⟩ = some (.slice A1_9 l1_9.length c1_9) ∧ w'.cell? ⟨gb318, 10, none⟩ = some (.slice A1_10 l1_10.length c1_10)) (ds := []) #[false, false, false, false, false, false, false, false, false, false, false, false, false, false, false, false, false, false] (by kernel_rfl) rfl rfl ⟨q13k BK317.out 0, q13k BK317.out 1, q13k BK317.out 2, q13k BK317.out 3, q13k BK317.out 4, q13k BK317.out 5, q13k BK317.out 6, q13k BK317.out 7, q13k BK317.out 8, q13k BK317.out 9, q13k BK317.out 10, q13k BK318.out 0, q13k BK318.out 1, q13k BK318.out 2, q13k BK318.out 3, q13k BK318.out 4, q13k BK318.out 5, q13k BK318.out 6, q13k BK318.out 7, q13k BK318.out 8, q13k BK318.out 9, q13k BK318.out 10⟩ (fun hHeld => ?_); refine with_tabW cambiumlaw18_KeyOrder.tab10 cambiumlaw18_KeyOrder.bits10 (fun HT_ HW_ => ?_)
        generalize w51.drew = w52 at HO326 HO329 BK317 BK318 HB hHeld ⊢
        refine q13p (i := 0) (N := some 38) (q13m 18 1) HT_.out ?_
        refine q13p (i := 1) (N := some 39) (q13m 18 3) HT_.out ?_
        refine q13p (i := 3) (N := some 41) (q13m 18 11) HT_.out ?_
        refine take_ (i := 4) (N := some 42) (v := ?_) (a' := ?_) (q13m 18 27) rfl rfl (take_ofW HT_.out HW_.out (by kernel_rfl)) (fun _ _ _ h => h) (Or.inl ⟨by rfl, ?_⟩) hHeld ?_ ?_; rotate_left; (rintro w' ⟨s0, s1, s2, s3, s4, s5, s6, s7, s8, s9, s10, s11, s12, s13, s14, s15, s16, s17, s18, s19, s20, s21⟩; go_simp; with_reducible rfl); rotate_left; (simp only [Act.put, q13a, q13b, q13c, i64_w, i32_w]; rfl)
        refine take_ (i := 5) (N := some 43) (v := ?_) (a' := ?_) (q13m 18 59) rfl rfl (take_ofW HT_.out HW_.out (by kernel_rfl)) (fun _ _ _ h => h) (Or.inl ⟨by rfl, ?_⟩) hHeld ?_ ?_; rotate_left; (rintro w' ⟨s0, s1, s2, s3, s4, s5, s6, s7, s8, s9, s10, s11, s12, s13, s14, s15, s16, s17, s18, s19, s20, s21⟩; go_simp; with_reducible rfl); rotate_left; (simp only [Act.put, q13a, q13b, q13c, i64_w, i32_w]; rfl)
        refine one_ (i := 2) (N := some 40) (q13m 18 63) rfl rfl (one_of HT_.out (by kernel_rfl)) (by decide) (fun K hK => ?_)
        refine goes_ Try.func15 (by kernel_rfl) rfl #[.slice Ao53 t324.length co53, .slice Ao54 t327.length co54] (by rfl) rfl rfl q13y2 ?_
        with_reducible refine (cambiumref01_Less.calls k2 _ _ t324 _ _ t327 t330 _ ?side1 ?side2 ?side3 ?side4 A44.out).mono ?_
        (case side1 => repeat (first | exact (Kd.R_reads' HO326.out).2.2 | (with_reducible refine Kd.C_alloc ?_ _) | (with_reducible refine Kd.C_drewN ?_ _) | (with_reducible refine Kd.C_drew ?_)))
        (case side2 => exact (Kd.R_reads' HO326.out).2.1)
        (case side3 => repeat (first | exact (Kd.R_reads' HO329.out).2.2 | (with_reducible refine Kd.C_alloc ?_ _) | (with_reducible refine Kd.C_drewN ?_ _) | (with_reducible refine Kd.C_drew ?_)))
        (case side4 => exact (Kd.R_reads' HO329.out).2.1)
        rintro e w' ⟨rfl, ⟨nd, rfl⟩⟩
        refine ⟨_, rfl, ?_⟩
        refine hK.out _ _ ⟨q13k BK317.out 0, q13k BK317.out 1, q13k BK317.out 2, q13k BK317.out 3, q13k BK317.out 4, q13k BK317.out 5, q13k BK317.out 6, q13k BK317.out 7, q13k BK317.out 8, q13k BK317.out 9, q13k BK317.out 10, q13k BK318.out 0, q13k BK318.out 1, q13k BK318.out 2, q13k BK318.out 3, q13k BK318.out 4, q13k BK318.out 5, q13k BK318.out 6, q13k BK318.out 7, q13k BK318.out 8, q13k BK318.out 9, q13k BK318.out 10⟩ (fun hHeld => ?_)
        clear hK K
        refine norm_ (a' := ?_) ?_ ?_
        rotate_left
        ·show Act.put _ (some 40) _ = _
         simp only [Act.put, q13a, q13b, q13c, i64_w, i32_w]
         rfl
        refine one_ (i := 6) (N := some 44) (q13m 18 127) rfl rfl (one_of HT_.out (by kernel_rfl)) (by decide) (fun K hK => ?_)
        refine goes_ Try.func16 (by kernel_rfl) rfl #[.int .i64 x5_2, .agg #[.int .u64 a0_0, .int .u64 a0_1, .int .u64 a0_2, .string a0_3, .string a0_4, .int .i64 a0_5, .int .i64 a0_6, .int .i64 a0_7, .slice A0_8 l0_8.length c0_8, .slice A0_9 l0_9.length c0_9, .slice A0_10 l0_10.length c0_10], .agg #[.int .u64 a1_0, .int .u64 a1_1, .int .u64 a1_2, .string a1_3, .string a1_4, .int .i64 a1_5, .int .i64 a1_6, .int .i64 a1_7, .slice A1_8 l1_8.length c1_8, .slice A1_9 l1_9.length c1_9, .slice A1_10 l1_10.length c1_10]] (by rfl) rfl rfl q13y2 ?_
        with_reducible refine (cambiumref18_Before.calls k2 x5_2 a0_0 a0_1 a0_2 a0_3 a0_4 a0_5 a0_6 a0_7 _ _ l0_8 _ _ l0_9 _ _ l0_10 a1_0 a1_1 a1_2 a1_3 a1_4 a1_5 a1_6 a1_7 _ _ l1_8 _ _ l1_9 _ _ l1_10 t331 _ ?side1 ?side2 ?side3 ?side4 ?side5 ?side6 ?side7 ?side8 ?side9 ?side10 ?side11 ?side12 A45.out).mono ?_
        (case side1 => repeat (first | exact (Kd.C_below HR0_8.out q13y0) | (with_reducible refine Kd.C_alloc ?_ _) | (with_reducible refine Kd.C_drewN ?_ _) | (with_reducible refine Kd.C_drew ?_)))
        (case side2 => exact HC0_8.out)
        (case side3 => repeat (first | exact (Kd.C_below HR0_9.out q13y0) | (with_reducible refine Kd.C_alloc ?_ _) | (with_reducible refine Kd.C_drewN ?_ _) | (with_reducible refine Kd.C_drew ?_)))
        (case side4 => exact HC0_9.out)
        (case side5 => repeat (first | exact (Kd.C_below HR0_10.out q13y0) | (with_reducible refine Kd.C_alloc ?_ _) | (with_reducible refine Kd.C_drewN ?_ _) | (with_reducible refine Kd.C_drew ?_)))
        (case side6 => exact HC0_10.out)
        (case side7 => repeat (first | exact (Kd.C_below HR1_8.out q13y0) | (with_reducible refine Kd.C_alloc ?_ _) | (with_reducible refine Kd.C_drewN ?_ _) | (with_reducible refine Kd.C_drew ?_)))
        (case side8 => exact HC1_8.out)
        (case side9 => repeat (first | exact (Kd.C_below HR1_9.out q13y0) | (with_reducible refine Kd.C_alloc ?_ _) | (with_reducible refine Kd.C_drewN ?_ _) | (with_reducible refine Kd.C_drew ?_)))
        (case side10 => exact HC1_9.out)
        (case side11 => repeat (first | exact (Kd.C_below HR1_10.out q13y0) | (with_reducible refine Kd.C_alloc ?_ _) | (with_reducible refine Kd.C_drewN ?_ _) | (with_reducible refine Kd.C_drew ?_)))
        (case side12 => exact HC1_10.out)
        rintro e w55 ⟨rfl, hb⟩
        refine ⟨_, rfl, ?_⟩
        have n0_ := Aside0.mk (Kd.R_below q13y5 hb)
        have n1_ := Aside0.mk (Kd.R_below q13y8 hb)
        have n2_ := Aside0.mk (blk_below (g := gb317) (o := .cells #[.int .u64 a0_0, .int .u64 a0_1, .int .u64 a0_2, .string a0_3, .string a0_4, .int .i64 a0_5, .int .i64 a0_6, .int .i64 a0_7, .slice A0_8 l0_8.length c0_8, .slice A0_9 l0_9.length c0_9, .slice A0_10 l0_10.length c0_10] 34 (0, 0)) q13y1 hb)
        have n3_ := Aside0.mk (blk_below (g := gb318) (o := .cells #[.int .u64 a1_0, .int .u64 a1_1, .int .u64 a1_2, .string a1_3, .string a1_4, .int .i64 a1_5, .int .i64 a1_6, .int .i64 a1_7, .slice A1_8 l1_8.length c1_8, .slice A1_9 l1_9.length c1_9, .slice A1_10 l1_10.length c1_10] 34 (0, 0)) q13y3 hb)
        have n4_ := Aside0.mk (below_step q13y0 hb)
        clear HO326
        clear HO329
        clear BK317
        clear BK318
        clear HB
        have HO326 := n0_
        have HO329 := n1_
        have BK317 := n2_
        have BK318 := n3_
        have HB := n4_
        clear n0_ n1_ n2_ n3_ n4_
        (try clear hb)
        (try clear hb2)
        (try clear hk)
        (try clear hi)
        refine hK.out _ _ ⟨q13k BK317.out 0, q13k BK317.out 1, q13k BK317.out 2, q13k BK317.out 3, q13k BK317.out 4, q13k BK317.out 5, q13k BK317.out 6, q13k BK317.out 7, q13k BK317.out 8, q13k BK317.out 9, q13k BK317.out 10, q13k BK318.out 0, q13k BK318.out 1, q13k BK318.out 2, q13k BK318.out 3, q13k BK318.out 4, q13k BK318.out 5, q13k BK318.out 6, q13k BK318.out 7, q13k BK318.out 8, q13k BK318.out 9, q13k BK318.out 10⟩ (fun hHeld => ?_)
        clear hK K
        refine norm_ (a' := ?_) ?_ ?_
        rotate_left
        ·show Act.put _ (some 44) _ = _
         simp only [Act.put, q13a, q13b, q13c, i64_w, i32_w]
         rfl
        refine q13p (i := 7) (N := some 45) (q13m 18 255) HT_.out ?_
        refine q13p (i := 8) (N := some 46) (q13m 18 511) HT_.out ?_
        refine q13u (i := 9) (N := some 47) (q13m 18 1023) HT_.out ?_
        refine q13u (i := 10) (N := some 48) (q13m 18 2047) HT_.out ?_
        refine q13u (i := 11) (N := some 49) (q13m 18 4095) HT_.out ?_
        refine q13u (i := 12) (N := some 50) (q13m 18 8191) HT_.out ?_
        refine q13u (i := 13) (N := some 51) (q13m 18 16383) HT_.out ?_
        refine q13u (i := 14) (N := some 52) (q13m 18 32767) HT_.out ?_
        refine q13u (i := 15) (N := some 53) (q13m 18 65535) HT_.out ?_
        refine q13u (i := 16) (N := some 54) (q13m 18 131071) HT_.out ?_
        refine q13p (i := 17) (N := some 55) (q13m 18 262143) HT_.out ?_
        refine done_ (done_of HT_.out (by kernel_rfl)) ?_
        try go_wp2
        go_ret
        exact ⟨by first | rfl | (simp [errW_none, errW_some] <;> rfl) | (simp [*, errW_none, errW_some] <;> rfl), by repeat (first | (with_reducible first | exact HB.out | apply below_alloc | apply pw_below_drewN | apply below_drew1 | refine below_set ?_ GE317.out | refine below_set ?_ GE318.out) | exact HB.out)⟩
      rw [if_neg c46] at H
      have c46b0 : (t330 != t331) = false := by simpa using c46
      (try (have c46b1 : decide (t330 = t331) = true := by simpa using c46))
      (try (have c46b2 : (t330 == t331) = true := by simpa using c46))
      clear c46
      replace H := Option.bind_eq_some_iff.mp H
      obtain ⟨t332, A560, H⟩ := H
      replace H : ((cambiumref18_Before.f k2 x5_2 a1_0 a1_1 a1_2 a1_3 a1_4 a1_5 a1_6 a1_7 l1_8 l1_9 l1_10 a0_0 a0_1 a0_2 a0_3 a0_4 a0_5 a0_6 a0_7 l0_8 l0_9 l0_10).bind fun t333 => (if (t332 != t333) = true then (some false) else (cambiumlaw18_KeyOrder.l0 k2 (wrap64 (x5_2 + 1)) a0_0 a0_1 a0_2 a0_3 a0_4 a0_5 a0_6 a0_7 l0_8 l0_9 l0_10 a1_0 a1_1 a1_2 a1_3 a1_4 a1_5 a1_6 a1_7 l1_8 l1_9 l1_10))) = some r := H
      have A56 := Aside0.mk A560
      clear A560
      replace H := Option.bind_eq_some_iff.mp H
      obtain ⟨t333, A570, H⟩ := H
      replace H : (if (t332 != t333) = true then (some false) else (cambiumlaw18_KeyOrder.l0 k2 (wrap64 (x5_2 + 1)) a0_0 a0_1 a0_2 a0_3 a0_4 a0_5 a0_6 a0_7 l0_8 l0_9 l0_10 a1_0 a1_1 a1_2 a1_3 a1_4 a1_5 a1_6 a1_7 l1_8 l1_9 l1_10)) = some r := H
      have A57 := Aside0.mk A570
      clear A570
      by_cases c58 : (t332 != t333) = true
      ·rw [if_pos c58] at H
       have c58b0 : (t332 != t333) = true := c58
       (try (have c58b1 : decide (t332 = t333) = false := by simpa using c58))
       (try (have c58b2 : (t332 == t333) = false := by simpa using c58))
       (try (have c58b3 : ¬ (t332 = t333) := by simpa using c58))
       clear c58
       obtain rfl := Option.some.inj H
       have hnb59 := NB317_318.out
       have hnc59 := NB318_317.out
       have hcz60_0 : wr.cell? ⟨gb317, 0, none⟩ = some (.int .u64 a0_0) := (blk_cell BK317.out 0).trans rfl
       have hcz60_1 : wr.cell? ⟨gb317, 1, none⟩ = some (.int .u64 a0_1) := (blk_cell BK317.out 1).trans rfl
       have hcz60_2 : wr.cell? ⟨gb317, 2, none⟩ = some (.int .u64 a0_2) := (blk_cell BK317.out 2).trans rfl
       have hcz60_3 : wr.cell? ⟨gb317, 3, none⟩ = some (.string a0_3) := (blk_cell BK317.out 3).trans rfl
       have hcz60_4 : wr.cell? ⟨gb317, 4, none⟩ = some (.string a0_4) := (blk_cell BK317.out 4).trans rfl
       have hcz60_5 : wr.cell? ⟨gb317, 5, none⟩ = some (.int .i64 a0_5) := (blk_cell BK317.out 5).trans rfl
       have hcz60_6 : wr.cell? ⟨gb317, 6, none⟩ = some (.int .i64 a0_6) := (blk_cell BK317.out 6).trans rfl
       have hcz60_7 : wr.cell? ⟨gb317, 7, none⟩ = some (.int .i64 a0_7) := (blk_cell BK317.out 7).trans rfl
       have hcz60_8 : wr.cell? ⟨gb317, 8, none⟩ = some (.slice A0_8 l0_8.length c0_8) := (blk_cell BK317.out 8).trans rfl
       have hcz60_9 : wr.cell? ⟨gb317, 9, none⟩ = some (.slice A0_9 l0_9.length c0_9) := (blk_cell BK317.out 9).trans rfl
       have hcz60_10 : wr.cell? ⟨gb317, 10, none⟩ = some (.slice A0_10 l0_10.length c0_10) := (blk_cell BK317.out 10).trans rfl
       have hfz60_0 := blk_frozen BK317.out 0
       have hfz60_1 := blk_frozen BK317.out 1
       have hfz60_2 := blk_frozen BK317.out 2
       have hfz60_3 := blk_frozen BK317.out 3
       have hfz60_4 := blk_frozen BK317.out 4
       have hfz60_5 := blk_frozen BK317.out 5
       have hfz60_6 := blk_frozen BK317.out 6
       have hfz60_7 := blk_frozen BK317.out 7
       have hfz60_8 := blk_frozen BK317.out 8
       have hfz60_9 := blk_frozen BK317.out 9
       have hfz60_10 := blk_frozen BK317.out 10
       try go_wp2_with (first | ((with_reducible refine gate_callee (f := 14) rfl ?_); refine goesL_ (some 34) rfl rfl Try.func14 (by kernel_rfl) rfl #[.int .i64 x5_2, .agg #[.int .u64 a0_0, .int .u64 a0_1, .int .u64 a0_2, .string a0_3, .string a0_4, .int .i64 a0_5, .int .i64 a0_6, .int .i64 a0_7, .slice A0_8 l0_8.length c0_8, .slice A0_9 l0_9.length c0_9, .slice A0_10 l0_10.length c0_10]] rfl q13y2 ?_; (with_reducible refine (key_Index.calls k2 x5_2 a0_0 a0_1 a0_2 a0_3 a0_4 a0_5 a0_6 a0_7 _ _ l0_8 _ _ l0_9 _ _ l0_10 t324 _ ?side1 ?side2 ?side3 ?side4 ?side5 ?side6 A42.out).mono ?_); (case side1 => repeat (first | exact (Kd.C_below HR0_8.out HB.out) | (with_reducible refine Kd.C_alloc ?_ _) | (with_reducible refine Kd.C_drewN ?_ _) | (with_reducible refine Kd.C_drew ?_))); (case side2 => exact HC0_8.out); (case side3 => repeat (first | exact (Kd.C_below HR0_9.out HB.out) | (with_reducible refine Kd.C_alloc ?_ _) | (with_reducible refine Kd.C_drewN ?_ _) | (with_reducible refine Kd.C_drew ?_))); (case side4 => exact HC0_9.out); (case side5 => repeat (first | exact (Kd.C_below HR0_10.out HB.out) | (with_reducible refine Kd.C_alloc ?_ _) | (with_reducible refine Kd.C_drewN ?_ _) | (with_reducible refine Kd.C_drew ?_))); (case side6 => exact HC0_10.out); rintro e w61 ⟨v325, rfl, ho0, hb⟩; refine ⟨_, rfl, ?_⟩; have n0_ := Aside0.mk (Kd.R_lower ho0 (below_size q13y0)); have n1_ := Aside0.mk (blk_below (g := gb317) (o := .cells #[.int .u64 a0_0, .int .u64 a0_1, .int .u64 a0_2, .string a0_3, .string a0_4, .int .i64 a0_5, .int .i64 a0_6, .int .i64 a0_7, .slice A0_8 l0_8.length c0_8, .slice A0_9 l0_9.length c0_9, .slice A0_10 l0_10.length c0_10] 34 (0, 0)) q13y1 hb); have n2_ := Aside0.mk (blk_below (g := gb318) (o := .cells #[.int .u64 a1_0, .int .u64 a1_1, .int .u64 a1_2, .string a1_3, .string a1_4, .int .i64 a1_5, .int .i64 a1_6, .int .i64 a1_7, .slice A1_8 l1_8.length c1_8, .slice A1_9 l1_9.length c1_9, .slice A1_10 l1_10.length c1_10] 34 (0, 0)) q13y3 hb); have n3_ := Aside0.mk (below_step q13y0 hb); clear BK317; clear BK318; clear HB; have HO326 := n0_; have BK317 := n1_; have BK318 := n2_; have HB := n3_; clear n0_ n1_ n2_ n3_; (try clear hb); (try clear hb2); (try clear hk); (try clear hi); (try clear ho0); have hcz62_0 : w61.cell? ⟨gb318, 0, none⟩ = some (.int .u64 a1_0) := (blk_cell BK318.out 0).trans rfl; have hcz62_1 : w61.cell? ⟨gb318, 1, none⟩ = some (.int .u64 a1_1) := (blk_cell BK318.out 1).trans rfl; have hcz62_2 : w61.cell? ⟨gb318, 2, none⟩ = some (.int .u64 a1_2) := (blk_cell BK318.out 2).trans rfl; have hcz62_3 : w61.cell? ⟨gb318, 3, none⟩ = some (.string a1_3) := (blk_cell BK318.out 3).trans rfl; have hcz62_4 : w61.cell? ⟨gb318, 4, none⟩ = some (.string a1_4) := (blk_cell BK318.out 4).trans rfl; have hcz62_5 : w61.cell? ⟨gb318, 5, none⟩ = some (.int .i64 a1_5) := (blk_cell BK318.out 5).trans rfl; have hcz62_6 : w61.cell? ⟨gb318, 6, none⟩ = some (.int .i64 a1_6) := (blk_cell BK318.out 6).trans rfl; have hcz62_7 : w61.cell? ⟨gb318, 7, none⟩ = some (.int .i64 a1_7) := (blk_cell BK318.out 7).trans rfl; have hcz62_8 : w61.cell? ⟨gb318, 8, none⟩ = some (.slice A1_8 l1_8.length c1_8) := (blk_cell BK318.out 8).trans rfl; have hcz62_9 : w61.cell? ⟨gb318, 9, none⟩ = some (.slice A1_9 l1_9.length c1_9) := (blk_cell BK318.out 9).trans rfl; have hcz62_10 : w61.cell? ⟨gb318, 10, none⟩ = some (.slice A1_10 l1_10.length c1_10) := (blk_cell BK318.out 10).trans rfl; have hfz62_0 := blk_frozen BK318.out 0; have hfz62_1 := blk_frozen BK318.out 1; have hfz62_2 := blk_frozen BK318.out 2; have hfz62_3 := blk_frozen BK318.out 3; have hfz62_4 := blk_frozen BK318.out 4; have hfz62_5 := blk_frozen BK318.out 5; have hfz62_6 := blk_frozen BK318.out 6; have hfz62_7 := blk_frozen BK318.out 7; have hfz62_8 := blk_frozen BK318.out 8; have hfz62_9 := blk_frozen BK318.out 9; have hfz62_10 := blk_frozen BK318.out 10) | ((with_reducible refine gate_callee (f := 14) rfl ?_); refine goesL_ (some 37) rfl rfl Try.func14 (by kernel_rfl) rfl #[.int .i64 x5_2, .agg #[.int .u64 a1_0, .int .u64 a1_1, .int .u64 a1_2, .string a1_3, .string a1_4, .int .i64 a1_5, .int .i64 a1_6, .int .i64 a1_7, .slice A1_8 l1_8.length c1_8, .slice A1_9 l1_9.length c1_9, .slice A1_10 l1_10.length c1_10]] rfl q13y2 ?_; (with_reducible refine (key_Index.calls k2 x5_2 a1_0 a1_1 a1_2 a1_3 a1_4 a1_5 a1_6 a1_7 _ _ l1_8 _ _ l1_9 _ _ l1_10 t327 _ ?side1 ?side2 ?side3 ?side4 ?side5 ?side6 A43.out).mono ?_); (case side1 => repeat (first | exact (Kd.C_below HR1_8.out HB.out) | (with_reducible refine Kd.C_alloc ?_ _) | (with_reducible refine Kd.C_drewN ?_ _) | (with_reducible refine Kd.C_drew ?_))); (case side2 => exact HC1_8.out); (case side3 => repeat (first | exact (Kd.C_below HR1_9.out HB.out) | (with_reducible refine Kd.C_alloc ?_ _) | (with_reducible refine Kd.C_drewN ?_ _) | (with_reducible refine Kd.C_drew ?_))); (case side4 => exact HC1_9.out); (case side5 => repeat (first | exact (Kd.C_below HR1_10.out HB.out) | (with_reducible refine Kd.C_alloc ?_ _) | (with_reducible refine Kd.C_drewN ?_ _) | (with_reducible refine Kd.C_drew ?_))); (case side6 => exact HC1_10.out); rintro e w63 ⟨v328, rfl, ho0, hb⟩; refine ⟨_, rfl, ?_⟩; have n0_ := Aside0.mk (Kd.R_elder' q13y5 (Kd.R_base ho0) hb); have n1_ := Aside0.mk (Kd.R_lower (Kd.R_new' ho0 (Kd.R_lt q13y5)) (below_size q13y0)); have n2_ := Aside0.mk (blk_below (g := gb317) (o := .cells #[.int .u64 a0_0, .int .u64 a0_1, .int .u64 a0_2, .string a0_3, .string a0_4, .int .i64 a0_5, .int .i64 a0_6, .int .i64 a0_7, .slice A0_8 l0_8.length c0_8, .slice A0_9 l0_9.length c0_9, .slice A0_10 l0_10.length c0_10] 34 (0, 0)) q13y1 hb); have n3_ := Aside0.mk (blk_below (g := gb318) (o := .cells #[.int .u64 a1_0, .int .u64 a1_1, .int .u64 a1_2, .string a1_3, .string a1_4, .int .i64 a1_5, .int .i64 a1_6, .int .i64 a1_7, .slice A1_8 l1_8.length c1_8, .slice A1_9 l1_9.length c1_9, .slice A1_10 l1_10.length c1_10] 34 (0, 0)) q13y3 hb); have n4_ := Aside0.mk (below_step q13y0 hb); clear HO326; clear BK317; clear BK318; clear HB; have HO326 := n0_; have HO329 := n1_; have BK317 := n2_; have BK318 := n3_; have HB := n4_; clear n0_ n1_ n2_ n3_ n4_; (try clear hb); (try clear hb2); (try clear hk); (try clear hi); (try clear ho0)))
       have n0_ := Aside0.mk (Kd.R_drew HO326.out)
       have n1_ := Aside0.mk (Kd.R_drew HO329.out)
       have n2_ := Aside0.mk (blk_drew BK317.out)
       have n3_ := Aside0.mk (blk_drew BK318.out)
       have n4_ := Aside0.mk (below_drew1 HB.out)
       clear HO326
       clear HO329
       clear BK317
       clear BK318
       clear HB
       have HO326 := n0_
       have HO329 := n1_
       have BK317 := n2_
       have BK318 := n3_
       have HB := n4_
       clear n0_ n1_ n2_ n3_ n4_
       obtain ⟨Ao65, co65, eo65⟩ := Kd.R_slice HO326.out
       (first | subst eo65 | (injection eo65 with f1_ f2_ f3_; have f4_ := f1_.symm; have f5_ := f3_.symm; clear f1_ f2_ f3_; subst f4_; subst f5_))
       obtain ⟨Ao66, co66, eo66⟩ := Kd.R_slice HO329.out
       (first | subst eo66 | (injection eo66 with f1_ f2_ f3_; have f4_ := f1_.symm; have f5_ := f3_.symm; clear f1_ f2_ f3_; subst f4_; subst f5_))
       as_aux_lemma =>
        refine start_ (n := 18) (S := fun w' => w'.cell? ⟨gb317, 0, none⟩ = some (.int .u64 a0_0) ∧ w'.cell? ⟨gb317, 1, none⟩ = some (.int .u64 a0_1) ∧ w'.cell? ⟨gb317, 2, none⟩ = some (.int .u64 a0_2) ∧ w'.cell? ⟨gb317, 3, none⟩ = some (.string a0_3) ∧ w'.cell? ⟨gb317, 4, none⟩ = some (.string a0_4) ∧ w'.cell? ⟨gb317, 5, none⟩ = some (.int .i64 a0_5) ∧ w'.cell? ⟨gb317, 6, none⟩ = some (.int .i64 a0_6) ∧ w'.cell? ⟨gb317, 7, none⟩ = some (.int .i64 a0_7) ∧ w'.cell? ⟨gb317, 8, none⟩ = some (.slice A0_8 l0_8.length c0_8) ∧ w'.cell? ⟨gb317, 9, none⟩ = some (.slice A0_9 l0_9.length c0_9) ∧ w'.cell? ⟨gb317, 10, none⟩ = some (.slice A0_10 l0_10.length c0_10) ∧ w'.cell? ⟨gb318, 0, none⟩ = some (.int .u64 a1_0) ∧ w'.cell? ⟨gb318, 1, none⟩ = some (.int .u64 a1_1) ∧ w'.cell? ⟨gb318, 2, none⟩ = some (.int .u64 a1_2) ∧ w'.cell? ⟨gb318, 3, none⟩ = some (.string a1_3) ∧ w'.cell? ⟨gb318, 4, none⟩ = some (.string a1_4) ∧ w'.cell? ⟨gb318, 5, none⟩ = some (.int .i64 a1_5) ∧ w'.cell? ⟨gb318, 6, none⟩ = some (.int .i64 a1_6) ∧ w'.cell? ⟨gb318, 7, none⟩ = some (.int .i64 a1_7) ∧ w'.cell? ⟨gb318, 8, none⟩ = some (.slice A1_8 l1_8.length c1_8) ∧ w'.cell? ⟨gb318, 9, none⟩ = some (.slice A1_9 l1_9.length c1_9) ∧ w'.cell? ⟨gb318, 10, none⟩ = some (.slice A1_10 l1_10.length c1_10)) (ds := []) #[false, false, false, false, false, false, false, false, false, false, false, false, false, false, false, false, false, false] (by kernel_rfl) rfl rfl ⟨q13k BK317.out 0, q13k BK317.out 1, q13k BK317.out 2, q13k BK317.out 3, q13k BK317.out 4, q13k BK317.out 5, q13k BK317.out 6, q13k BK317.out 7, q13k BK317.out 8, q13k BK317.out 9, q13k BK317.out 10, q13k BK318.out 0, q13k BK318.out 1, q13k BK318.out 2, q13k BK318.out 3, q13k BK318.out 4, q13k BK318.out 5, q13k BK318.out 6, q13k BK318.out 7, q13k BK318.out 8, q13k BK318.out 9, q13k BK318.out 10⟩ (fun hHeld => ?_); refine with_tabW cambiumlaw18_KeyOrder.tab10 cambiumlaw18_KeyOrder.bits10 (fun HT_ HW_ => ?_)
        generalize w63.drew = w64 at HO326 HO329 BK317 BK318 HB hHeld ⊢
        refine q13p (i := 0) (N := some 38) (q13m 18 1) HT_.out ?_
        refine q13p (i := 1) (N := some 39) (q13m 18 3) HT_.out ?_
        refine q13p (i := 3) (N := some 41) (q13m 18 11) HT_.out ?_
        refine take_ (i := 4) (N := some 42) (v := ?_) (a' := ?_) (q13m 18 27) rfl rfl (take_ofW HT_.out HW_.out (by kernel_rfl)) (fun _ _ _ h => h) (Or.inl ⟨by rfl, ?_⟩) hHeld ?_ ?_; rotate_left; (rintro w' ⟨s0, s1, s2, s3, s4, s5, s6, s7, s8, s9, s10, s11, s12, s13, s14, s15, s16, s17, s18, s19, s20, s21⟩; go_simp; with_reducible rfl); rotate_left; (simp only [Act.put, q13a, q13b, q13c, i64_w, i32_w]; rfl)
        refine take_ (i := 5) (N := some 43) (v := ?_) (a' := ?_) (q13m 18 59) rfl rfl (take_ofW HT_.out HW_.out (by kernel_rfl)) (fun _ _ _ h => h) (Or.inl ⟨by rfl, ?_⟩) hHeld ?_ ?_; rotate_left; (rintro w' ⟨s0, s1, s2, s3, s4, s5, s6, s7, s8, s9, s10, s11, s12, s13, s14, s15, s16, s17, s18, s19, s20, s21⟩; go_simp; with_reducible rfl); rotate_left; (simp only [Act.put, q13a, q13b, q13c, i64_w, i32_w]; rfl)
        refine one_ (i := 2) (N := some 40) (q13m 18 63) rfl rfl (one_of HT_.out (by kernel_rfl)) (by decide) (fun K hK => ?_)
        refine goes_ Try.func15 (by kernel_rfl) rfl #[.slice Ao65 t324.length co65, .slice Ao66 t327.length co66] (by rfl) rfl rfl q13y2 ?_
        with_reducible refine (cambiumref01_Less.calls k2 _ _ t324 _ _ t327 t330 _ ?side1 ?side2 ?side3 ?side4 A44.out).mono ?_
        (case side1 => repeat (first | exact (Kd.R_reads' HO326.out).2.2 | (with_reducible refine Kd.C_alloc ?_ _) | (with_reducible refine Kd.C_drewN ?_ _) | (with_reducible refine Kd.C_drew ?_)))
        (case side2 => exact (Kd.R_reads' HO326.out).2.1)
        (case side3 => repeat (first | exact (Kd.R_reads' HO329.out).2.2 | (with_reducible refine Kd.C_alloc ?_ _) | (with_reducible refine Kd.C_drewN ?_ _) | (with_reducible refine Kd.C_drew ?_)))
        (case side4 => exact (Kd.R_reads' HO329.out).2.1)
        rintro e w' ⟨rfl, ⟨nd, rfl⟩⟩
        refine ⟨_, rfl, ?_⟩
        refine hK.out _ _ ⟨q13k BK317.out 0, q13k BK317.out 1, q13k BK317.out 2, q13k BK317.out 3, q13k BK317.out 4, q13k BK317.out 5, q13k BK317.out 6, q13k BK317.out 7, q13k BK317.out 8, q13k BK317.out 9, q13k BK317.out 10, q13k BK318.out 0, q13k BK318.out 1, q13k BK318.out 2, q13k BK318.out 3, q13k BK318.out 4, q13k BK318.out 5, q13k BK318.out 6, q13k BK318.out 7, q13k BK318.out 8, q13k BK318.out 9, q13k BK318.out 10⟩ (fun hHeld => ?_)
        clear hK K
        refine norm_ (a' := ?_) ?_ ?_
        rotate_left
        ·show Act.put _ (some 40) _ = _
         simp only [Act.put, q13a, q13b, q13c, i64_w, i32_w]
         rfl
        refine one_ (i := 6) (N := some 44) (q13m 18 127) rfl rfl (one_of HT_.out (by kernel_rfl)) (by decide) (fun K hK => ?_)
        refine goes_ Try.func16 (by kernel_rfl) rfl #[.int .i64 x5_2, .agg #[.int .u64 a0_0, .int .u64 a0_1, .int .u64 a0_2, .string a0_3, .string a0_4, .int .i64 a0_5, .int .i64 a0_6, .int .i64 a0_7, .slice A0_8 l0_8.length c0_8, .slice A0_9 l0_9.length c0_9, .slice A0_10 l0_10.length c0_10], .agg #[.int .u64 a1_0, .int .u64 a1_1, .int .u64 a1_2, .string a1_3, .string a1_4, .int .i64 a1_5, .int .i64 a1_6, .int .i64 a1_7, .slice A1_8 l1_8.length c1_8, .slice A1_9 l1_9.length c1_9, .slice A1_10 l1_10.length c1_10]] (by rfl) rfl rfl q13y2 ?_
        with_reducible refine (cambiumref18_Before.calls k2 x5_2 a0_0 a0_1 a0_2 a0_3 a0_4 a0_5 a0_6 a0_7 _ _ l0_8 _ _ l0_9 _ _ l0_10 a1_0 a1_1 a1_2 a1_3 a1_4 a1_5 a1_6 a1_7 _ _ l1_8 _ _ l1_9 _ _ l1_10 t331 _ ?side1 ?side2 ?side3 ?side4 ?side5 ?side6 ?side7 ?side8 ?side9 ?side10 ?side11 ?side12 A45.out).mono ?_
        (case side1 => repeat (first | exact (Kd.C_below HR0_8.out q13y0) | (with_reducible refine Kd.C_alloc ?_ _) | (with_reducible refine Kd.C_drewN ?_ _) | (with_reducible refine Kd.C_drew ?_)))
        (case side2 => exact HC0_8.out)
        (case side3 => repeat (first | exact (Kd.C_below HR0_9.out q13y0) | (with_reducible refine Kd.C_alloc ?_ _) | (with_reducible refine Kd.C_drewN ?_ _) | (with_reducible refine Kd.C_drew ?_)))
        (case side4 => exact HC0_9.out)
        (case side5 => repeat (first | exact (Kd.C_below HR0_10.out q13y0) | (with_reducible refine Kd.C_alloc ?_ _) | (with_reducible refine Kd.C_drewN ?_ _) | (with_reducible refine Kd.C_drew ?_)))
        (case side6 => exact HC0_10.out)
        (case side7 => repeat (first | exact (Kd.C_below HR1_8.out q13y0) | (with_reducible refine Kd.C_alloc ?_ _) | (with_reducible refine Kd.C_drewN ?_ _) | (with_reducible refine Kd.C_drew ?_)))
        (case side8 => exact HC1_8.out)
        (case side9 => repeat (first | exact (Kd.C_below HR1_9.out q13y0) | (with_reducible refine Kd.C_alloc ?_ _) | (with_reducible refine Kd.C_drewN ?_ _) | (with_reducible refine Kd.C_drew ?_)))
        (case side10 => exact HC1_9.out)
        (case side11 => repeat (first | exact (Kd.C_below HR1_10.out q13y0) | (with_reducible refine Kd.C_alloc ?_ _) | (with_reducible refine Kd.C_drewN ?_ _) | (with_reducible refine Kd.C_drew ?_)))
        (case side12 => exact HC1_10.out)
        rintro e w67 ⟨rfl, hb⟩
        refine ⟨_, rfl, ?_⟩
        have n0_ := Aside0.mk (Kd.R_below q13y5 hb)
        have n1_ := Aside0.mk (Kd.R_below q13y8 hb)
        have n2_ := Aside0.mk (blk_below (g := gb317) (o := .cells #[.int .u64 a0_0, .int .u64 a0_1, .int .u64 a0_2, .string a0_3, .string a0_4, .int .i64 a0_5, .int .i64 a0_6, .int .i64 a0_7, .slice A0_8 l0_8.length c0_8, .slice A0_9 l0_9.length c0_9, .slice A0_10 l0_10.length c0_10] 34 (0, 0)) q13y1 hb)
        have n3_ := Aside0.mk (blk_below (g := gb318) (o := .cells #[.int .u64 a1_0, .int .u64 a1_1, .int .u64 a1_2, .string a1_3, .string a1_4, .int .i64 a1_5, .int .i64 a1_6, .int .i64 a1_7, .slice A1_8 l1_8.length c1_8, .slice A1_9 l1_9.length c1_9, .slice A1_10 l1_10.length c1_10] 34 (0, 0)) q13y3 hb)
        have n4_ := Aside0.mk (below_step q13y0 hb)
        clear HO326
        clear HO329
        clear BK317
        clear BK318
        clear HB
        have HO326 := n0_
        have HO329 := n1_
        have BK317 := n2_
        have BK318 := n3_
        have HB := n4_
        clear n0_ n1_ n2_ n3_ n4_
        (try clear hb)
        (try clear hb2)
        (try clear hk)
        (try clear hi)
        refine hK.out _ _ ⟨q13k BK317.out 0, q13k BK317.out 1, q13k BK317.out 2, q13k BK317.out 3, q13k BK317.out 4, q13k BK317.out 5, q13k BK317.out 6, q13k BK317.out 7, q13k BK317.out 8, q13k BK317.out 9, q13k BK317.out 10, q13k BK318.out 0, q13k BK318.out 1, q13k BK318.out 2, q13k BK318.out 3, q13k BK318.out 4, q13k BK318.out 5, q13k BK318.out 6, q13k BK318.out 7, q13k BK318.out 8, q13k BK318.out 9, q13k BK318.out 10⟩ (fun hHeld => ?_)
        clear hK K
        refine norm_ (a' := ?_) ?_ ?_
        rotate_left
        ·show Act.put _ (some 44) _ = _
         simp only [Act.put, q13a, q13b, q13c, i64_w, i32_w]
         rfl
        refine q13p (i := 7) (N := some 45) (q13m 18 255) HT_.out ?_
        refine q13p (i := 8) (N := some 46) (q13m 18 511) HT_.out ?_
        refine q13p (i := 9) (N := some 47) (q13m 18 1023) HT_.out ?_
        refine q13p (i := 10) (N := some 48) (q13m 18 2047) HT_.out ?_
        refine q13p (i := 12) (N := some 50) (q13m 18 6143) HT_.out ?_
        refine take_ (i := 13) (N := some 51) (v := ?_) (a' := ?_) (q13m 18 14335) rfl rfl (take_ofW HT_.out HW_.out (by kernel_rfl)) (fun _ _ _ h => h) (Or.inl ⟨by rfl, ?_⟩) hHeld ?_ ?_; rotate_left; (rintro w' ⟨s0, s1, s2, s3, s4, s5, s6, s7, s8, s9, s10, s11, s12, s13, s14, s15, s16, s17, s18, s19, s20, s21⟩; go_simp; with_reducible rfl); rotate_left; (simp only [Act.put, q13a, q13b, q13c, i64_w, i32_w]; rfl)
        refine take_ (i := 14) (N := some 52) (v := ?_) (a' := ?_) (q13m 18 30719) rfl rfl (take_ofW HT_.out HW_.out (by kernel_rfl)) (fun _ _ _ h => h) (Or.inl ⟨by rfl, ?_⟩) hHeld ?_ ?_; rotate_left; (rintro w' ⟨s0, s1, s2, s3, s4, s5, s6, s7, s8, s9, s10, s11, s12, s13, s14, s15, s16, s17, s18, s19, s20, s21⟩; go_simp; with_reducible rfl); rotate_left; (simp only [Act.put, q13a, q13b, q13c, i64_w, i32_w]; rfl)
        refine one_ (i := 11) (N := some 49) (q13m 18 32767) rfl rfl (one_of HT_.out (by kernel_rfl)) (by decide) (fun K hK => ?_)
        refine goes_ Try.func15 (by kernel_rfl) rfl #[.slice Ao66 t327.length co66, .slice Ao65 t324.length co65] (by rfl) rfl rfl q13y2 ?_
        with_reducible refine (cambiumref01_Less.calls k2 _ _ t327 _ _ t324 t332 _ ?side1 ?side2 ?side3 ?side4 A56.out).mono ?_
        (case side1 => repeat (first | exact (Kd.R_reads' HO329.out).2.2 | (with_reducible refine Kd.C_alloc ?_ _) | (with_reducible refine Kd.C_drewN ?_ _) | (with_reducible refine Kd.C_drew ?_)))
        (case side2 => exact (Kd.R_reads' HO329.out).2.1)
        (case side3 => repeat (first | exact (Kd.R_reads' HO326.out).2.2 | (with_reducible refine Kd.C_alloc ?_ _) | (with_reducible refine Kd.C_drewN ?_ _) | (with_reducible refine Kd.C_drew ?_)))
        (case side4 => exact (Kd.R_reads' HO326.out).2.1)
        rintro e w' ⟨rfl, ⟨nd, rfl⟩⟩
        refine ⟨_, rfl, ?_⟩
        refine hK.out _ _ ⟨q13k BK317.out 0, q13k BK317.out 1, q13k BK317.out 2, q13k BK317.out 3, q13k BK317.out 4, q13k BK317.out 5, q13k BK317.out 6, q13k BK317.out 7, q13k BK317.out 8, q13k BK317.out 9, q13k BK317.out 10, q13k BK318.out 0, q13k BK318.out 1, q13k BK318.out 2, q13k BK318.out 3, q13k BK318.out 4, q13k BK318.out 5, q13k BK318.out 6, q13k BK318.out 7, q13k BK318.out 8, q13k BK318.out 9, q13k BK318.out 10⟩ (fun hHeld => ?_)
        clear hK K
        refine norm_ (a' := ?_) ?_ ?_
        rotate_left
        ·show Act.put _ (some 49) _ = _
         simp only [Act.put, q13a, q13b, q13c, i64_w, i32_w]
         rfl
        refine one_ (i := 15) (N := some 53) (q13m 18 65535) rfl rfl (one_of HT_.out (by kernel_rfl)) (by decide) (fun K hK => ?_)
        refine goes_ Try.func16 (by kernel_rfl) rfl #[.int .i64 x5_2, .agg #[.int .u64 a1_0, .int .u64 a1_1, .int .u64 a1_2, .string a1_3, .string a1_4, .int .i64 a1_5, .int .i64 a1_6, .int .i64 a1_7, .slice A1_8 l1_8.length c1_8, .slice A1_9 l1_9.length c1_9, .slice A1_10 l1_10.length c1_10], .agg #[.int .u64 a0_0, .int .u64 a0_1, .int .u64 a0_2, .string a0_3, .string a0_4, .int .i64 a0_5, .int .i64 a0_6, .int .i64 a0_7, .slice A0_8 l0_8.length c0_8, .slice A0_9 l0_9.length c0_9, .slice A0_10 l0_10.length c0_10]] (by rfl) rfl rfl q13y2 ?_
        with_reducible refine (cambiumref18_Before.calls k2 x5_2 a1_0 a1_1 a1_2 a1_3 a1_4 a1_5 a1_6 a1_7 _ _ l1_8 _ _ l1_9 _ _ l1_10 a0_0 a0_1 a0_2 a0_3 a0_4 a0_5 a0_6 a0_7 _ _ l0_8 _ _ l0_9 _ _ l0_10 t333 _ ?side1 ?side2 ?side3 ?side4 ?side5 ?side6 ?side7 ?side8 ?side9 ?side10 ?side11 ?side12 A57.out).mono ?_
        (case side1 => repeat (first | exact (Kd.C_below HR1_8.out q13y0) | (with_reducible refine Kd.C_alloc ?_ _) | (with_reducible refine Kd.C_drewN ?_ _) | (with_reducible refine Kd.C_drew ?_)))
        (case side2 => exact HC1_8.out)
        (case side3 => repeat (first | exact (Kd.C_below HR1_9.out q13y0) | (with_reducible refine Kd.C_alloc ?_ _) | (with_reducible refine Kd.C_drewN ?_ _) | (with_reducible refine Kd.C_drew ?_)))
        (case side4 => exact HC1_9.out)
        (case side5 => repeat (first | exact (Kd.C_below HR1_10.out q13y0) | (with_reducible refine Kd.C_alloc ?_ _) | (with_reducible refine Kd.C_drewN ?_ _) | (with_reducible refine Kd.C_drew ?_)))
        (case side6 => exact HC1_10.out)
        (case side7 => repeat (first | exact (Kd.C_below HR0_8.out q13y0) | (with_reducible refine Kd.C_alloc ?_ _) | (with_reducible refine Kd.C_drewN ?_ _) | (with_reducible refine Kd.C_drew ?_)))
        (case side8 => exact HC0_8.out)
        (case side9 => repeat (first | exact (Kd.C_below HR0_9.out q13y0) | (with_reducible refine Kd.C_alloc ?_ _) | (with_reducible refine Kd.C_drewN ?_ _) | (with_reducible refine Kd.C_drew ?_)))
        (case side10 => exact HC0_9.out)
        (case side11 => repeat (first | exact (Kd.C_below HR0_10.out q13y0) | (with_reducible refine Kd.C_alloc ?_ _) | (with_reducible refine Kd.C_drewN ?_ _) | (with_reducible refine Kd.C_drew ?_)))
        (case side12 => exact HC0_10.out)
        rintro e w68 ⟨rfl, hb⟩
        refine ⟨_, rfl, ?_⟩
        have n0_ := Aside0.mk (Kd.R_below q13y5 hb)
        have n1_ := Aside0.mk (Kd.R_below q13y8 hb)
        have n2_ := Aside0.mk (blk_below (g := gb317) (o := .cells #[.int .u64 a0_0, .int .u64 a0_1, .int .u64 a0_2, .string a0_3, .string a0_4, .int .i64 a0_5, .int .i64 a0_6, .int .i64 a0_7, .slice A0_8 l0_8.length c0_8, .slice A0_9 l0_9.length c0_9, .slice A0_10 l0_10.length c0_10] 34 (0, 0)) q13y1 hb)
        have n3_ := Aside0.mk (blk_below (g := gb318) (o := .cells #[.int .u64 a1_0, .int .u64 a1_1, .int .u64 a1_2, .string a1_3, .string a1_4, .int .i64 a1_5, .int .i64 a1_6, .int .i64 a1_7, .slice A1_8 l1_8.length c1_8, .slice A1_9 l1_9.length c1_9, .slice A1_10 l1_10.length c1_10] 34 (0, 0)) q13y3 hb)
        have n4_ := Aside0.mk (below_step q13y0 hb)
        clear HO326
        clear HO329
        clear BK317
        clear BK318
        clear HB
        have HO326 := n0_
        have HO329 := n1_
        have BK317 := n2_
        have BK318 := n3_
        have HB := n4_
        clear n0_ n1_ n2_ n3_ n4_
        (try clear hb)
        (try clear hb2)
        (try clear hk)
        (try clear hi)
        refine hK.out _ _ ⟨q13k BK317.out 0, q13k BK317.out 1, q13k BK317.out 2, q13k BK317.out 3, q13k BK317.out 4, q13k BK317.out 5, q13k BK317.out 6, q13k BK317.out 7, q13k BK317.out 8, q13k BK317.out 9, q13k BK317.out 10, q13k BK318.out 0, q13k BK318.out 1, q13k BK318.out 2, q13k BK318.out 3, q13k BK318.out 4, q13k BK318.out 5, q13k BK318.out 6, q13k BK318.out 7, q13k BK318.out 8, q13k BK318.out 9, q13k BK318.out 10⟩ (fun hHeld => ?_)
        clear hK K
        refine norm_ (a' := ?_) ?_ ?_
        rotate_left
        ·show Act.put _ (some 53) _ = _
         simp only [Act.put, q13a, q13b, q13c, i64_w, i32_w]
         rfl
        refine q13p (i := 16) (N := some 54) (q13m 18 131071) HT_.out ?_
        refine q13p (i := 17) (N := some 55) (q13m 18 262143) HT_.out ?_
        refine done_ (done_of HT_.out (by kernel_rfl)) ?_
        try go_wp2
        go_ret
        exact ⟨by first | rfl | (simp [errW_none, errW_some] <;> rfl) | (simp [*, errW_none, errW_some] <;> rfl), by repeat (first | (with_reducible first | exact HB.out | apply below_alloc | apply pw_below_drewN | apply below_drew1 | refine below_set ?_ GE317.out | refine below_set ?_ GE318.out) | exact HB.out)⟩
      rw [if_neg c58] at H
      have c58b0 : (t332 != t333) = false := by simpa using c58
      (try (have c58b1 : decide (t332 = t333) = true := by simpa using c58))
      (try (have c58b2 : (t332 == t333) = true := by simpa using c58))
      clear c58
      have H' := Aside0.mk H
      clear H
      have hnb69 := NB317_318.out
      have hnc69 := NB318_317.out
      have hcz70_0 : wr.cell? ⟨gb317, 0, none⟩ = some (.int .u64 a0_0) := (blk_cell BK317.out 0).trans rfl
      have hcz70_1 : wr.cell? ⟨gb317, 1, none⟩ = some (.int .u64 a0_1) := (blk_cell BK317.out 1).trans rfl
      have hcz70_2 : wr.cell? ⟨gb317, 2, none⟩ = some (.int .u64 a0_2) := (blk_cell BK317.out 2).trans rfl
      have hcz70_3 : wr.cell? ⟨gb317, 3, none⟩ = some (.string a0_3) := (blk_cell BK317.out 3).trans rfl
      have hcz70_4 : wr.cell? ⟨gb317, 4, none⟩ = some (.string a0_4) := (blk_cell BK317.out 4).trans rfl
      have hcz70_5 : wr.cell? ⟨gb317, 5, none⟩ = some (.int .i64 a0_5) := (blk_cell BK317.out 5).trans rfl
      have hcz70_6 : wr.cell? ⟨gb317, 6, none⟩ = some (.int .i64 a0_6) := (blk_cell BK317.out 6).trans rfl
      have hcz70_7 : wr.cell? ⟨gb317, 7, none⟩ = some (.int .i64 a0_7) := (blk_cell BK317.out 7).trans rfl
      have hcz70_8 : wr.cell? ⟨gb317, 8, none⟩ = some (.slice A0_8 l0_8.length c0_8) := (blk_cell BK317.out 8).trans rfl
      have hcz70_9 : wr.cell? ⟨gb317, 9, none⟩ = some (.slice A0_9 l0_9.length c0_9) := (blk_cell BK317.out 9).trans rfl
      have hcz70_10 : wr.cell? ⟨gb317, 10, none⟩ = some (.slice A0_10 l0_10.length c0_10) := (blk_cell BK317.out 10).trans rfl
      have hfz70_0 := blk_frozen BK317.out 0
      have hfz70_1 := blk_frozen BK317.out 1
      have hfz70_2 := blk_frozen BK317.out 2
      have hfz70_3 := blk_frozen BK317.out 3
      have hfz70_4 := blk_frozen BK317.out 4
      have hfz70_5 := blk_frozen BK317.out 5
      have hfz70_6 := blk_frozen BK317.out 6
      have hfz70_7 := blk_frozen BK317.out 7
      have hfz70_8 := blk_frozen BK317.out 8
      have hfz70_9 := blk_frozen BK317.out 9
      have hfz70_10 := blk_frozen BK317.out 10
      try go_wp2_with (first | ((with_reducible refine gate_callee (f := 14) rfl ?_); refine goesL_ (some 34) rfl rfl Try.func14 (by kernel_rfl) rfl #[.int .i64 x5_2, .agg #[.int .u64 a0_0, .int .u64 a0_1, .int .u64 a0_2, .string a0_3, .string a0_4, .int .i64 a0_5, .int .i64 a0_6, .int .i64 a0_7, .slice A0_8 l0_8.length c0_8, .slice A0_9 l0_9.length c0_9, .slice A0_10 l0_10.length c0_10]] rfl q13y2 ?_; (with_reducible refine (key_Index.calls k2 x5_2 a0_0 a0_1 a0_2 a0_3 a0_4 a0_5 a0_6 a0_7 _ _ l0_8 _ _ l0_9 _ _ l0_10 t324 _ ?side1 ?side2 ?side3 ?side4 ?side5 ?side6 A42.out).mono ?_); (case side1 => repeat (first | exact (Kd.C_below HR0_8.out HB.out) | (with_reducible refine Kd.C_alloc ?_ _) | (with_reducible refine Kd.C_drewN ?_ _) | (with_reducible refine Kd.C_drew ?_))); (case side2 => exact HC0_8.out); (case side3 => repeat (first | exact (Kd.C_below HR0_9.out HB.out) | (with_reducible refine Kd.C_alloc ?_ _) | (with_reducible refine Kd.C_drewN ?_ _) | (with_reducible refine Kd.C_drew ?_))); (case side4 => exact HC0_9.out); (case side5 => repeat (first | exact (Kd.C_below HR0_10.out HB.out) | (with_reducible refine Kd.C_alloc ?_ _) | (with_reducible refine Kd.C_drewN ?_ _) | (with_reducible refine Kd.C_drew ?_))); (case side6 => exact HC0_10.out); rintro e w71 ⟨v325, rfl, ho0, hb⟩; refine ⟨_, rfl, ?_⟩; have n0_ := Aside0.mk (Kd.R_lower ho0 (below_size q13y0)); have n1_ := Aside0.mk (blk_below (g := gb317) (o := .cells #[.int .u64 a0_0, .int .u64 a0_1, .int .u64 a0_2, .string a0_3, .string a0_4, .int .i64 a0_5, .int .i64 a0_6, .int .i64 a0_7, .slice A0_8 l0_8.length c0_8, .slice A0_9 l0_9.length c0_9, .slice A0_10 l0_10.length c0_10] 34 (0, 0)) q13y1 hb); have n2_ := Aside0.mk (blk_below (g := gb318) (o := .cells #[.int .u64 a1_0, .int .u64 a1_1, .int .u64 a1_2, .string a1_3, .string a1_4, .int .i64 a1_5, .int .i64 a1_6, .int .i64 a1_7, .slice A1_8 l1_8.length c1_8, .slice A1_9 l1_9.length c1_9, .slice A1_10 l1_10.length c1_10] 34 (0, 0)) q13y3 hb); have n3_ := Aside0.mk (below_step q13y0 hb); clear BK317; clear BK318; clear HB; have HO326 := n0_; have BK317 := n1_; have BK318 := n2_; have HB := n3_; clear n0_ n1_ n2_ n3_; (try clear hb); (try clear hb2); (try clear hk); (try clear hi); (try clear ho0); have hcz72_0 : w71.cell? ⟨gb318, 0, none⟩ = some (.int .u64 a1_0) := (blk_cell BK318.out 0).trans rfl; have hcz72_1 : w71.cell? ⟨gb318, 1, none⟩ = some (.int .u64 a1_1) := (blk_cell BK318.out 1).trans rfl; have hcz72_2 : w71.cell? ⟨gb318, 2, none⟩ = some (.int .u64 a1_2) := (blk_cell BK318.out 2).trans rfl; have hcz72_3 : w71.cell? ⟨gb318, 3, none⟩ = some (.string a1_3) := (blk_cell BK318.out 3).trans rfl; have hcz72_4 : w71.cell? ⟨gb318, 4, none⟩ = some (.string a1_4) := (blk_cell BK318.out 4).trans rfl; have hcz72_5 : w71.cell? ⟨gb318, 5, none⟩ = some (.int .i64 a1_5) := (blk_cell BK318.out 5).trans rfl; have hcz72_6 : w71.cell? ⟨gb318, 6, none⟩ = some (.int .i64 a1_6) := (blk_cell BK318.out 6).trans rfl; have hcz72_7 : w71.cell? ⟨gb318, 7, none⟩ = some (.int .i64 a1_7) := (blk_cell BK318.out 7).trans rfl; have hcz72_8 : w71.cell? ⟨gb318, 8, none⟩ = some (.slice A1_8 l1_8.length c1_8) := (blk_cell BK318.out 8).trans rfl; have hcz72_9 : w71.cell? ⟨gb318, 9, none⟩ = some (.slice A1_9 l1_9.length c1_9) := (blk_cell BK318.out 9).trans rfl; have hcz72_10 : w71.cell? ⟨gb318, 10, none⟩ = some (.slice A1_10 l1_10.length c1_10) := (blk_cell BK318.out 10).trans rfl; have hfz72_0 := blk_frozen BK318.out 0; have hfz72_1 := blk_frozen BK318.out 1; have hfz72_2 := blk_frozen BK318.out 2; have hfz72_3 := blk_frozen BK318.out 3; have hfz72_4 := blk_frozen BK318.out 4; have hfz72_5 := blk_frozen BK318.out 5; have hfz72_6 := blk_frozen BK318.out 6; have hfz72_7 := blk_frozen BK318.out 7; have hfz72_8 := blk_frozen BK318.out 8; have hfz72_9 := blk_frozen BK318.out 9; have hfz72_10 := blk_frozen BK318.out 10) | ((with_reducible refine gate_callee (f := 14) rfl ?_); refine goesL_ (some 37) rfl rfl Try.func14 (by kernel_rfl) rfl #[.int .i64 x5_2, .agg #[.int .u64 a1_0, .int .u64 a1_1, .int .u64 a1_2, .string a1_3, .string a1_4, .int .i64 a1_5, .int .i64 a1_6, .int .i64 a1_7, .slice A1_8 l1_8.length c1_8, .slice A1_9 l1_9.length c1_9, .slice A1_10 l1_10.length c1_10]] rfl q13y2 ?_; (with_reducible refine (key_Index.calls k2 x5_2 a1_0 a1_1 a1_2 a1_3 a1_4 a1_5 a1_6 a1_7 _ _ l1_8 _ _ l1_9 _ _ l1_10 t327 _ ?side1 ?side2 ?side3 ?side4 ?side5 ?side6 A43.out).mono ?_); (case side1 => repeat (first | exact (Kd.C_below HR1_8.out HB.out) | (with_reducible refine Kd.C_alloc ?_ _) | (with_reducible refine Kd.C_drewN ?_ _) | (with_reducible refine Kd.C_drew ?_))); (case side2 => exact HC1_8.out); (case side3 => repeat (first | exact (Kd.C_below HR1_9.out HB.out) | (with_reducible refine Kd.C_alloc ?_ _) | (with_reducible refine Kd.C_drewN ?_ _) | (with_reducible refine Kd.C_drew ?_))); (case side4 => exact HC1_9.out); (case side5 => repeat (first | exact (Kd.C_below HR1_10.out HB.out) | (with_reducible refine Kd.C_alloc ?_ _) | (with_reducible refine Kd.C_drewN ?_ _) | (with_reducible refine Kd.C_drew ?_))); (case side6 => exact HC1_10.out); rintro e w73 ⟨v328, rfl, ho0, hb⟩; refine ⟨_, rfl, ?_⟩; have n0_ := Aside0.mk (Kd.R_elder' q13y5 (Kd.R_base ho0) hb); have n1_ := Aside0.mk (Kd.R_lower (Kd.R_new' ho0 (Kd.R_lt q13y5)) (below_size q13y0)); have n2_ := Aside0.mk (blk_below (g := gb317) (o := .cells #[.int .u64 a0_0, .int .u64 a0_1, .int .u64 a0_2, .string a0_3, .string a0_4, .int .i64 a0_5, .int .i64 a0_6, .int .i64 a0_7, .slice A0_8 l0_8.length c0_8, .slice A0_9 l0_9.length c0_9, .slice A0_10 l0_10.length c0_10] 34 (0, 0)) q13y1 hb); have n3_ := Aside0.mk (blk_below (g := gb318) (o := .cells #[.int .u64 a1_0, .int .u64 a1_1, .int .u64 a1_2, .string a1_3, .string a1_4, .int .i64 a1_5, .int .i64 a1_6, .int .i64 a1_7, .slice A1_8 l1_8.length c1_8, .slice A1_9 l1_9.length c1_9, .slice A1_10 l1_10.length c1_10] 34 (0, 0)) q13y3 hb); have n4_ := Aside0.mk (below_step q13y0 hb); clear HO326; clear BK317; clear BK318; clear HB; have HO326 := n0_; have HO329 := n1_; have BK317 := n2_; have BK318 := n3_; have HB := n4_; clear n0_ n1_ n2_ n3_ n4_; (try clear hb); (try clear hb2); (try clear hk); (try clear hi); (try clear ho0)))
      have n0_ := Aside0.mk (Kd.R_drew HO326.out)
      have n1_ := Aside0.mk (Kd.R_drew HO329.out)
      have n2_ := Aside0.mk (blk_drew BK317.out)
      have n3_ := Aside0.mk (blk_drew BK318.out)
      have n4_ := Aside0.mk (below_drew1 HB.out)
      clear HO326
      clear HO329
      clear BK317
      clear BK318
      clear HB
      have HO326 := n0_
      have HO329 := n1_
      have BK317 := n2_
      have BK318 := n3_
      have HB := n4_
      clear n0_ n1_ n2_ n3_ n4_
      obtain ⟨Ao75, co75, eo75⟩ := Kd.R_slice HO326.out
      (first | subst eo75 | (injection eo75 with f1_ f2_ f3_; have f4_ := f1_.symm; have f5_ := f3_.symm; clear f1_ f2_ f3_; subst f4_; subst f5_))
      obtain ⟨Ao76, co76, eo76⟩ := Kd.R_slice HO329.out
      (first | subst eo76 | (injection eo76 with f1_ f2_ f3_; have f4_ := f1_.symm; have f5_ := f3_.symm; clear f1_ f2_ f3_; subst f4_; subst f5_))
      as_aux_lemma =>
       refine start_ (n := 18) (S := fun w' => w'.cell? ⟨gb317, 0, none⟩ = some (.int .u64 a0_0) ∧ w'.cell? ⟨gb317, 1, none⟩ = some (.int .u64 a0_1) ∧ w'.cell? ⟨gb317, 2, none⟩ = some (.int .u64 a0_2) ∧ w'.cell? ⟨gb317, 3, none⟩ = some (.string a0_3) ∧ w'.cell? ⟨gb317, 4, none⟩ = some (.string a0_4) ∧ w'.cell? ⟨gb317, 5, none⟩ = some (.int .i64 a0_5) ∧ w'.cell? ⟨gb317, 6, none⟩ = some (.int .i64 a0_6) ∧ w'.cell? ⟨gb317, 7, none⟩ = some (.int .i64 a0_7) ∧ w'.cell? ⟨gb317, 8, none⟩ = some (.slice A0_8 l0_8.length c0_8) ∧ w'.cell? ⟨gb317, 9, none⟩ = some (.slice A0_9 l0_9.length c0_9) ∧ w'.cell? ⟨gb317, 10, none⟩ = some (.slice A0_10 l0_10.length c0_10) ∧ w'.cell? ⟨gb318, 0, none⟩ = some (.int .u64 a1_0) ∧ w'.cell? ⟨gb318, 1, none⟩ = some (.int .u64 a1_1) ∧ w'.cell? ⟨gb318, 2, none⟩ = some (.int .u64 a1_2) ∧ w'.cell? ⟨gb318, 3, none⟩ = some (.string a1_3) ∧ w'.cell? ⟨gb318, 4, none⟩ = some (.string a1_4) ∧ w'.cell? ⟨gb318, 5, none⟩ = some (.int .i64 a1_5) ∧ w'.cell? ⟨gb318, 6, none⟩ = some (.int .i64 a1_6) ∧ w'.cell? ⟨gb318, 7, none⟩ = some (.int .i64 a1_7) ∧ w'.cell? ⟨gb318, 8, none⟩ = some (.slice A1_8 l1_8.length c1_8) ∧ w'.cell? ⟨gb318, 9, none⟩ = some (.slice A1_9 l1_9.length c1_9) ∧ w'.cell? ⟨gb318, 10, none⟩ = some (.slice A1_10 l1_10.length c1_10)) (ds := []) #[false, false, false, false, false, false, false, false, false, false, false, false, false, false, false, false, false, false] (by kernel_rfl) rfl rfl ⟨q13k BK317.out 0, q13k BK317.out 1, q13k BK317.out 2, q13k BK317.out 3, q13k BK317.out 4, q13k BK317.out 5, q13k BK317.out 6, q13k BK317.out 7, q13k BK317.out 8, q13k BK317.out 9, q13k BK317.out 10, q13k BK318.out 0, q13k BK318.out 1, q13k BK318.out 2, q13k BK318.out 3, q13k BK318.out 4, q13k BK318.out 5, q13k BK318.out 6, q13k BK318.out 7, q13k BK318.out 8, q13k BK318.out 9, q13k BK318.out 10⟩ (fun hHeld => ?_); refine with_tabW cambiumlaw18_KeyOrder.tab10 cambiumlaw18_KeyOrder.bits10 (fun HT_ HW_ => ?_)
       generalize w73.drew = w74 at HO326 HO329 BK317 BK318 HB hHeld ⊢
       refine q13p (i := 0) (N := some 38) (q13m 18 1) HT_.out ?_
       refine q13p (i := 1) (N := some 39) (q13m 18 3) HT_.out ?_
       refine q13p (i := 3) (N := some 41) (q13m 18 11) HT_.out ?_
       refine take_ (i := 4) (N := some 42) (v := ?_) (a' := ?_) (q13m 18 27) rfl rfl (take_ofW HT_.out HW_.out (by kernel_rfl)) (fun _ _ _ h => h) (Or.inl ⟨by rfl, ?_⟩) hHeld ?_ ?_; rotate_left; (rintro w' ⟨s0, s1, s2, s3, s4, s5, s6, s7, s8, s9, s10, s11, s12, s13, s14, s15, s16, s17, s18, s19, s20, s21⟩; go_simp; with_reducible rfl); rotate_left; (simp only [Act.put, q13a, q13b, q13c, i64_w, i32_w]; rfl)
       refine take_ (i := 5) (N := some 43) (v := ?_) (a' := ?_) (q13m 18 59) rfl rfl (take_ofW HT_.out HW_.out (by kernel_rfl)) (fun _ _ _ h => h) (Or.inl ⟨by rfl, ?_⟩) hHeld ?_ ?_; rotate_left; (rintro w' ⟨s0, s1, s2, s3, s4, s5, s6, s7, s8, s9, s10, s11, s12, s13, s14, s15, s16, s17, s18, s19, s20, s21⟩; go_simp; with_reducible rfl); rotate_left; (simp only [Act.put, q13a, q13b, q13c, i64_w, i32_w]; rfl)
       refine one_ (i := 2) (N := some 40) (q13m 18 63) rfl rfl (one_of HT_.out (by kernel_rfl)) (by decide) (fun K hK => ?_)
       refine goes_ Try.func15 (by kernel_rfl) rfl #[.slice Ao75 t324.length co75, .slice Ao76 t327.length co76] (by rfl) rfl rfl q13y2 ?_
       with_reducible refine (cambiumref01_Less.calls k2 _ _ t324 _ _ t327 t330 _ ?side1 ?side2 ?side3 ?side4 A44.out).mono ?_
       (case side1 => repeat (first | exact (Kd.R_reads' HO326.out).2.2 | (with_reducible refine Kd.C_alloc ?_ _) | (with_reducible refine Kd.C_drewN ?_ _) | (with_reducible refine Kd.C_drew ?_)))
       (case side2 => exact (Kd.R_reads' HO326.out).2.1)
       (case side3 => repeat (first | exact (Kd.R_reads' HO329.out).2.2 | (with_reducible refine Kd.C_alloc ?_ _) | (with_reducible refine Kd.C_drewN ?_ _) | (with_reducible refine Kd.C_drew ?_)))
       (case side4 => exact (Kd.R_reads' HO329.out).2.1)
       rintro e w' ⟨rfl, ⟨nd, rfl⟩⟩
       refine ⟨_, rfl, ?_⟩
       refine hK.out _ _ ⟨q13k BK317.out 0, q13k BK317.out 1, q13k BK317.out 2, q13k BK317.out 3, q13k BK317.out 4, q13k BK317.out 5, q13k BK317.out 6, q13k BK317.out 7, q13k BK317.out 8, q13k BK317.out 9, q13k BK317.out 10, q13k BK318.out 0, q13k BK318.out 1, q13k BK318.out 2, q13k BK318.out 3, q13k BK318.out 4, q13k BK318.out 5, q13k BK318.out 6, q13k BK318.out 7, q13k BK318.out 8, q13k BK318.out 9, q13k BK318.out 10⟩ (fun hHeld => ?_)
       clear hK K
       refine norm_ (a' := ?_) ?_ ?_
       rotate_left
       ·show Act.put _ (some 40) _ = _
        simp only [Act.put, q13a, q13b, q13c, i64_w, i32_w]
        rfl
       refine one_ (i := 6) (N := some 44) (q13m 18 127) rfl rfl (one_of HT_.out (by kernel_rfl)) (by decide) (fun K hK => ?_)
       refine goes_ Try.func16 (by kernel_rfl) rfl #[.int .i64 x5_2, .agg #[.int .u64 a0_0, .int .u64 a0_1, .int .u64 a0_2, .string a0_3, .string a0_4, .int .i64 a0_5, .int .i64 a0_6, .int .i64 a0_7, .slice A0_8 l0_8.length c0_8, .slice A0_9 l0_9.length c0_9, .slice A0_10 l0_10.length c0_10], .agg #[.int .u64 a1_0, .int .u64 a1_1, .int .u64 a1_2, .string a1_3, .string a1_4, .int .i64 a1_5, .int .i64 a1_6, .int .i64 a1_7, .slice A1_8 l1_8.length c1_8, .slice A1_9 l1_9.length c1_9, .slice A1_10 l1_10.length c1_10]] (by rfl) rfl rfl q13y2 ?_
       with_reducible refine (cambiumref18_Before.calls k2 x5_2 a0_0 a0_1 a0_2 a0_3 a0_4 a0_5 a0_6 a0_7 _ _ l0_8 _ _ l0_9 _ _ l0_10 a1_0 a1_1 a1_2 a1_3 a1_4 a1_5 a1_6 a1_7 _ _ l1_8 _ _ l1_9 _ _ l1_10 t331 _ ?side1 ?side2 ?side3 ?side4 ?side5 ?side6 ?side7 ?side8 ?side9 ?side10 ?side11 ?side12 A45.out).mono ?_
       (case side1 => repeat (first | exact (Kd.C_below HR0_8.out q13y0) | (with_reducible refine Kd.C_alloc ?_ _) | (with_reducible refine Kd.C_drewN ?_ _) | (with_reducible refine Kd.C_drew ?_)))
       (case side2 => exact HC0_8.out)
       (case side3 => repeat (first | exact (Kd.C_below HR0_9.out q13y0) | (with_reducible refine Kd.C_alloc ?_ _) | (with_reducible refine Kd.C_drewN ?_ _) | (with_reducible refine Kd.C_drew ?_)))
       (case side4 => exact HC0_9.out)
       (case side5 => repeat (first | exact (Kd.C_below HR0_10.out q13y0) | (with_reducible refine Kd.C_alloc ?_ _) | (with_reducible refine Kd.C_drewN ?_ _) | (with_reducible refine Kd.C_drew ?_)))
       (case side6 => exact HC0_10.out)
       (case side7 => repeat (first | exact (Kd.C_below HR1_8.out q13y0) | (with_reducible refine Kd.C_alloc ?_ _) | (with_reducible refine Kd.C_drewN ?_ _) | (with_reducible refine Kd.C_drew ?_)))
       (case side8 => exact HC1_8.out)
       (case side9 => repeat (first | exact (Kd.C_below HR1_9.out q13y0) | (with_reducible refine Kd.C_alloc ?_ _) | (with_reducible refine Kd.C_drewN ?_ _) | (with_reducible refine Kd.C_drew ?_)))
       (case side10 => exact HC1_9.out)
       (case side11 => repeat (first | exact (Kd.C_below HR1_10.out q13y0) | (with_reducible refine Kd.C_alloc ?_ _) | (with_reducible refine Kd.C_drewN ?_ _) | (with_reducible refine Kd.C_drew ?_)))
       (case side12 => exact HC1_10.out)
       rintro e w77 ⟨rfl, hb⟩
       refine ⟨_, rfl, ?_⟩
       have n0_ := Aside0.mk (Kd.R_below q13y5 hb)
       have n1_ := Aside0.mk (Kd.R_below q13y8 hb)
       have n2_ := Aside0.mk (blk_below (g := gb317) (o := .cells #[.int .u64 a0_0, .int .u64 a0_1, .int .u64 a0_2, .string a0_3, .string a0_4, .int .i64 a0_5, .int .i64 a0_6, .int .i64 a0_7, .slice A0_8 l0_8.length c0_8, .slice A0_9 l0_9.length c0_9, .slice A0_10 l0_10.length c0_10] 34 (0, 0)) q13y1 hb)
       have n3_ := Aside0.mk (blk_below (g := gb318) (o := .cells #[.int .u64 a1_0, .int .u64 a1_1, .int .u64 a1_2, .string a1_3, .string a1_4, .int .i64 a1_5, .int .i64 a1_6, .int .i64 a1_7, .slice A1_8 l1_8.length c1_8, .slice A1_9 l1_9.length c1_9, .slice A1_10 l1_10.length c1_10] 34 (0, 0)) q13y3 hb)
       have n4_ := Aside0.mk (below_step q13y0 hb)
       clear HO326
       clear HO329
       clear BK317
       clear BK318
       clear HB
       have HO326 := n0_
       have HO329 := n1_
       have BK317 := n2_
       have BK318 := n3_
       have HB := n4_
       clear n0_ n1_ n2_ n3_ n4_
       (try clear hb)
       (try clear hb2)
       (try clear hk)
       (try clear hi)
       refine hK.out _ _ ⟨q13k BK317.out 0, q13k BK317.out 1, q13k BK317.out 2, q13k BK317.out 3, q13k BK317.out 4, q13k BK317.out 5, q13k BK317.out 6, q13k BK317.out 7, q13k BK317.out 8, q13k BK317.out 9, q13k BK317.out 10, q13k BK318.out 0, q13k BK318.out 1, q13k BK318.out 2, q13k BK318.out 3, q13k BK318.out 4, q13k BK318.out 5, q13k BK318.out 6, q13k BK318.out 7, q13k BK318.out 8, q13k BK318.out 9, q13k BK318.out 10⟩ (fun hHeld => ?_)
       clear hK K
       refine norm_ (a' := ?_) ?_ ?_
       rotate_left
       ·show Act.put _ (some 44) _ = _
        simp only [Act.put, q13a, q13b, q13c, i64_w, i32_w]
        rfl
       refine q13p (i := 7) (N := some 45) (q13m 18 255) HT_.out ?_
       refine q13p (i := 8) (N := some 46) (q13m 18 511) HT_.out ?_
       refine q13p (i := 9) (N := some 47) (q13m 18 1023) HT_.out ?_
       refine q13p (i := 10) (N := some 48) (q13m 18 2047) HT_.out ?_
       refine q13p (i := 12) (N := some 50) (q13m 18 6143) HT_.out ?_
       refine take_ (i := 13) (N := some 51) (v := ?_) (a' := ?_) (q13m 18 14335) rfl rfl (take_ofW HT_.out HW_.out (by kernel_rfl)) (fun _ _ _ h => h) (Or.inl ⟨by rfl, ?_⟩) hHeld ?_ ?_; rotate_left; (rintro w' ⟨s0, s1, s2, s3, s4, s5, s6, s7, s8, s9, s10, s11, s12, s13, s14, s15, s16, s17, s18, s19, s20, s21⟩; go_simp; with_reducible rfl); rotate_left; (simp only [Act.put, q13a, q13b, q13c, i64_w, i32_w]; rfl)
       refine take_ (i := 14) (N := some 52) (v := ?_) (a' := ?_) (q13m 18 30719) rfl rfl (take_ofW HT_.out HW_.out (by kernel_rfl)) (fun _ _ _ h => h) (Or.inl ⟨by rfl, ?_⟩) hHeld ?_ ?_; rotate_left; (rintro w' ⟨s0, s1, s2, s3, s4, s5, s6, s7, s8, s9, s10, s11, s12, s13, s14, s15, s16, s17, s18, s19, s20, s21⟩; go_simp; with_reducible rfl); rotate_left; (simp only [Act.put, q13a, q13b, q13c, i64_w, i32_w]; rfl)
       refine one_ (i := 11) (N := some 49) (q13m 18 32767) rfl rfl (one_of HT_.out (by kernel_rfl)) (by decide) (fun K hK => ?_)
       refine goes_ Try.func15 (by kernel_rfl) rfl #[.slice Ao76 t327.length co76, .slice Ao75 t324.length co75] (by rfl) rfl rfl q13y2 ?_
       with_reducible refine (cambiumref01_Less.calls k2 _ _ t327 _ _ t324 t332 _ ?side1 ?side2 ?side3 ?side4 A56.out).mono ?_
       (case side1 => repeat (first | exact (Kd.R_reads' HO329.out).2.2 | (with_reducible refine Kd.C_alloc ?_ _) | (with_reducible refine Kd.C_drewN ?_ _) | (with_reducible refine Kd.C_drew ?_)))
       (case side2 => exact (Kd.R_reads' HO329.out).2.1)
       (case side3 => repeat (first | exact (Kd.R_reads' HO326.out).2.2 | (with_reducible refine Kd.C_alloc ?_ _) | (with_reducible refine Kd.C_drewN ?_ _) | (with_reducible refine Kd.C_drew ?_)))
       (case side4 => exact (Kd.R_reads' HO326.out).2.1)
       rintro e w' ⟨rfl, ⟨nd, rfl⟩⟩
       refine ⟨_, rfl, ?_⟩
       refine hK.out _ _ ⟨q13k BK317.out 0, q13k BK317.out 1, q13k BK317.out 2, q13k BK317.out 3, q13k BK317.out 4, q13k BK317.out 5, q13k BK317.out 6, q13k BK317.out 7, q13k BK317.out 8, q13k BK317.out 9, q13k BK317.out 10, q13k BK318.out 0, q13k BK318.out 1, q13k BK318.out 2, q13k BK318.out 3, q13k BK318.out 4, q13k BK318.out 5, q13k BK318.out 6, q13k BK318.out 7, q13k BK318.out 8, q13k BK318.out 9, q13k BK318.out 10⟩ (fun hHeld => ?_)
       clear hK K
       refine norm_ (a' := ?_) ?_ ?_
       rotate_left
       ·show Act.put _ (some 49) _ = _
        simp only [Act.put, q13a, q13b, q13c, i64_w, i32_w]
        rfl
       refine one_ (i := 15) (N := some 53) (q13m 18 65535) rfl rfl (one_of HT_.out (by kernel_rfl)) (by decide) (fun K hK => ?_)
       refine goes_ Try.func16 (by kernel_rfl) rfl #[.int .i64 x5_2, .agg #[.int .u64 a1_0, .int .u64 a1_1, .int .u64 a1_2, .string a1_3, .string a1_4, .int .i64 a1_5, .int .i64 a1_6, .int .i64 a1_7, .slice A1_8 l1_8.length c1_8, .slice A1_9 l1_9.length c1_9, .slice A1_10 l1_10.length c1_10], .agg #[.int .u64 a0_0, .int .u64 a0_1, .int .u64 a0_2, .string a0_3, .string a0_4, .int .i64 a0_5, .int .i64 a0_6, .int .i64 a0_7, .slice A0_8 l0_8.length c0_8, .slice A0_9 l0_9.length c0_9, .slice A0_10 l0_10.length c0_10]] (by rfl) rfl rfl q13y2 ?_
       with_reducible refine (cambiumref18_Before.calls k2 x5_2 a1_0 a1_1 a1_2 a1_3 a1_4 a1_5 a1_6 a1_7 _ _ l1_8 _ _ l1_9 _ _ l1_10 a0_0 a0_1 a0_2 a0_3 a0_4 a0_5 a0_6 a0_7 _ _ l0_8 _ _ l0_9 _ _ l0_10 t333 _ ?side1 ?side2 ?side3 ?side4 ?side5 ?side6 ?side7 ?side8 ?side9 ?side10 ?side11 ?side12 A57.out).mono ?_
       (case side1 => repeat (first | exact (Kd.C_below HR1_8.out q13y0) | (with_reducible refine Kd.C_alloc ?_ _) | (with_reducible refine Kd.C_drewN ?_ _) | (with_reducible refine Kd.C_drew ?_)))
       (case side2 => exact HC1_8.out)
       (case side3 => repeat (first | exact (Kd.C_below HR1_9.out q13y0) | (with_reducible refine Kd.C_alloc ?_ _) | (with_reducible refine Kd.C_drewN ?_ _) | (with_reducible refine Kd.C_drew ?_)))
       (case side4 => exact HC1_9.out)
       (case side5 => repeat (first | exact (Kd.C_below HR1_10.out q13y0) | (with_reducible refine Kd.C_alloc ?_ _) | (with_reducible refine Kd.C_drewN ?_ _) | (with_reducible refine Kd.C_drew ?_)))
       (case side6 => exact HC1_10.out)
       (case side7 => repeat (first | exact (Kd.C_below HR0_8.out q13y0) | (with_reducible refine Kd.C_alloc ?_ _) | (with_reducible refine Kd.C_drewN ?_ _) | (with_reducible refine Kd.C_drew ?_)))
       (case side8 => exact HC0_8.out)
       (case side9 => repeat (first | exact (Kd.C_below HR0_9.out q13y0) | (with_reducible refine Kd.C_alloc ?_ _) | (with_reducible refine Kd.C_drewN ?_ _) | (with_reducible refine Kd.C_drew ?_)))
       (case side10 => exact HC0_9.out)
       (case side11 => repeat (first | exact (Kd.C_below HR0_10.out q13y0) | (with_reducible refine Kd.C_alloc ?_ _) | (with_reducible refine Kd.C_drewN ?_ _) | (with_reducible refine Kd.C_drew ?_)))
       (case side12 => exact HC0_10.out)
       rintro e w78 ⟨rfl, hb⟩
       refine ⟨_, rfl, ?_⟩
       have n0_ := Aside0.mk (Kd.R_below q13y5 hb)
       have n1_ := Aside0.mk (Kd.R_below q13y8 hb)
       have n2_ := Aside0.mk (blk_below (g := gb317) (o := .cells #[.int .u64 a0_0, .int .u64 a0_1, .int .u64 a0_2, .string a0_3, .string a0_4, .int .i64 a0_5, .int .i64 a0_6, .int .i64 a0_7, .slice A0_8 l0_8.length c0_8, .slice A0_9 l0_9.length c0_9, .slice A0_10 l0_10.length c0_10] 34 (0, 0)) q13y1 hb)
       have n3_ := Aside0.mk (blk_below (g := gb318) (o := .cells #[.int .u64 a1_0, .int .u64 a1_1, .int .u64 a1_2, .string a1_3, .string a1_4, .int .i64 a1_5, .int .i64 a1_6, .int .i64 a1_7, .slice A1_8 l1_8.length c1_8, .slice A1_9 l1_9.length c1_9, .slice A1_10 l1_10.length c1_10] 34 (0, 0)) q13y3 hb)
       have n4_ := Aside0.mk (below_step q13y0 hb)
       clear HO326
       clear HO329
       clear BK317
       clear BK318
       clear HB
       have HO326 := n0_
       have HO329 := n1_
       have BK317 := n2_
       have BK318 := n3_
       have HB := n4_
       clear n0_ n1_ n2_ n3_ n4_
       (try clear hb)
       (try clear hb2)
       (try clear hk)
       (try clear hi)
       refine hK.out _ _ ⟨q13k BK317.out 0, q13k BK317.out 1, q13k BK317.out 2, q13k BK317.out 3, q13k BK317.out 4, q13k BK317.out 5, q13k BK317.out 6, q13k BK317.out 7, q13k BK317.out 8, q13k BK317.out 9, q13k BK317.out 10, q13k BK318.out 0, q13k BK318.out 1, q13k BK318.out 2, q13k BK318.out 3, q13k BK318.out 4, q13k BK318.out 5, q13k BK318.out 6, q13k BK318.out 7, q13k BK318.out 8, q13k BK318.out 9, q13k BK318.out 10⟩ (fun hHeld => ?_)
       clear hK K
       refine norm_ (a' := ?_) ?_ ?_
       rotate_left
       ·show Act.put _ (some 53) _ = _
        simp only [Act.put, q13a, q13b, q13c, i64_w, i32_w]
        rfl
       refine q13p (i := 16) (N := some 54) (q13m 18 131071) HT_.out ?_
       refine q13p (i := 17) (N := some 55) (q13m 18 262143) HT_.out ?_
       refine done_ (done_of HT_.out (by kernel_rfl)) ?_
       try go_wp2
       go_roundg k2
       case measure => have := HJ4.out; have := HK2.out; omega
       case rel => exact ⟨(wrap64 (x5_2 + 1)), q13y11, H', ⟨by have := HJ4.out; have := HK2.out; omega⟩, ⟨by (with_reducible repeat (first | refine blk_drewN ?_ _ | refine blk_drew ?_ | refine blk_alloc ?_ _)); exact BK317.out⟩, ⟨by (with_reducible repeat (first | refine blk_drewN ?_ _ | refine blk_drew ?_ | refine blk_alloc ?_ _)); exact BK318.out⟩, ⟨by repeat (first | (with_reducible first | exact HB.out | apply below_alloc | apply pw_below_drewN | apply below_drew1 | refine below_set ?_ GE317.out | refine below_set ?_ GE318.out) | exact HB.out)⟩⟩
     rw [if_neg c41] at H
     have c41b0 : decide (x5_2 ≤ 4) = false := decide_eq_false c41
     clear c41
     replace H := Option.bind_eq_some_iff.mp H
     obtain ⟨t334, A790, H⟩ := H
     replace H : ((key_Service.f a1_3).bind fun t337 => ((cambiumref18_Begins.f k2 t334 t337).bind fun t340 => (if (t340 == (a0_3.toList == a1_3.toList)) = true then ((key_Index.f k2 2 a0_0 a0_1 a0_2 a0_3 a0_4 a0_5 a0_6 a0_7 l0_8 l0_9 l0_10).bind fun t341 => ((key_Operation.f a1_3 a1_4).bind fun t344 => ((cambiumref18_Begins.f k2 t341 t344).bind fun t347 => (if a0_3.toList = a1_3.toList then (some (t347 == (a0_4.toList == a1_4.toList))) else (some (t347 == false)))))) else (some false)))) = some r := H
     have A79 := Aside0.mk A790
     clear A790
     replace H := Option.bind_eq_some_iff.mp H
     obtain ⟨t337, A800, H⟩ := H
     replace H : ((cambiumref18_Begins.f k2 t334 t337).bind fun t340 => (if (t340 == (a0_3.toList == a1_3.toList)) = true then ((key_Index.f k2 2 a0_0 a0_1 a0_2 a0_3 a0_4 a0_5 a0_6 a0_7 l0_8 l0_9 l0_10).bind fun t341 => ((key_Operation.f a1_3 a1_4).bind fun t344 => ((cambiumref18_Begins.f k2 t341 t344).bind fun t347 => (if a0_3.toList = a1_3.toList then (some (t347 == (a0_4.toList == a1_4.toList))) else (some (t347 == false)))))) else (some false))) = some r := H
     have A80 := Aside0.mk A800
     clear A800
     replace H := Option.bind_eq_some_iff.mp H
     obtain ⟨t340, A810, H⟩ := H
     replace H : (if (t340 == (a0_3.toList == a1_3.toList)) = true then ((key_Index.f k2 2 a0_0 a0_1 a0_2 a0_3 a0_4 a0_5 a0_6 a0_7 l0_8 l0_9 l0_10).bind fun t341 => ((key_Operation.f a1_3 a1_4).bind fun t344 => ((cambiumref18_Begins.f k2 t341 t344).bind fun t347 => (if a0_3.toList = a1_3.toList then (some (t347 == (a0_4.toList == a1_4.toList))) else (some (t347 == false)))))) else (some false)) = some r := H
     have A81 := Aside0.mk A810
     clear A810
     by_cases c82 : (t340 == (a0_3.toList == a1_3.toList)) = true
     rotate_left
     ·rw [if_neg c82] at H
      have c82b0 : (t340 == (a0_3.toList == a1_3.toList)) = false := by simpa using c82
      (try (have c82b1 : decide (t340 = (a0_3.toList == a1_3.toList)) = false := by simpa using c82))
      (try (have c82b2 : (t340 == (a0_3.toList == a1_3.toList)) = false := by simpa using c82))
      (try (have c82b3 : ¬ (t340 = (a0_3.toList == a1_3.toList)) := by simpa using c82))
      clear c82
      obtain rfl := Option.some.inj H
      try go_wp2
      have n0_ := Aside0.mk (blk_drew BK317.out)
      have n1_ := Aside0.mk (blk_drew BK318.out)
      have n2_ := Aside0.mk (below_drew1 HB.out)
      clear BK317
      clear BK318
      clear HB
      have BK317 := n0_
      have BK318 := n1_
      have HB := n2_
      clear n0_ n1_ n2_
      as_aux_lemma =>
       refine start_ (n := 36) (S := fun w' => w'.cell? ⟨gb317, 0, none⟩ = some (.int .u64 a0_0) ∧ w'.cell? ⟨gb317, 1, none⟩ = some (.int .u64 a0_1) ∧ w'.cell? ⟨gb317, 2, none⟩ = some (.int .u64 a0_2) ∧ w'.cell? ⟨gb317, 3, none⟩ = some (.string a0_3) ∧ w'.cell? ⟨gb317, 4, none⟩ = some (.string a0_4) ∧ w'.cell? ⟨gb317, 5, none⟩ = some (.int .i64 a0_5) ∧ w'.cell? ⟨gb317, 6, none⟩ = some (.int .i64 a0_6) ∧ w'.cell? ⟨gb317, 7, none⟩ = some (.int .i64 a0_7) ∧ w'.cell? ⟨gb317, 8, none⟩ = some (.slice A0_8 l0_8.length c0_8) ∧ w'.cell? ⟨gb317, 9, none⟩ = some (.slice A0_9 l0_9.length c0_9) ∧ w'.cell? ⟨gb317, 10, none⟩ = some (.slice A0_10 l0_10.length c0_10) ∧ w'.cell? ⟨gb318, 0, none⟩ = some (.int .u64 a1_0) ∧ w'.cell? ⟨gb318, 1, none⟩ = some (.int .u64 a1_1) ∧ w'.cell? ⟨gb318, 2, none⟩ = some (.int .u64 a1_2) ∧ w'.cell? ⟨gb318, 3, none⟩ = some (.string a1_3) ∧ w'.cell? ⟨gb318, 4, none⟩ = some (.string a1_4) ∧ w'.cell? ⟨gb318, 5, none⟩ = some (.int .i64 a1_5) ∧ w'.cell? ⟨gb318, 6, none⟩ = some (.int .i64 a1_6) ∧ w'.cell? ⟨gb318, 7, none⟩ = some (.int .i64 a1_7) ∧ w'.cell? ⟨gb318, 8, none⟩ = some (.slice A1_8 l1_8.length c1_8) ∧ w'.cell? ⟨gb318, 9, none⟩ = some (.slice A1_9 l1_9.length c1_9) ∧ w'.cell? ⟨gb318, 10, none⟩ = some (.slice A1_10 l1_10.length c1_10)) (ds := []) #[false, false, false, false, false, false, false, false, false, false, false, false, false, false, false, false, false, false, false, false, false, false, false, false, false, false, false, false, false, false, false, false, false, false, false, false] (by kernel_rfl) rfl rfl ⟨q13k BK317.out 0, q13k BK317.out 1, q13k BK317.out 2, q13k BK317.out 3, q13k BK317.out 4, q13k BK317.out 5, q13k BK317.out 6, q13k BK317.out 7, q13k BK317.out 8, q13k BK317.out 9, q13k BK317.out 10, q13k BK318.out 0, q13k BK318.out 1, q13k BK318.out 2, q13k BK318.out 3, q13k BK318.out 4, q13k BK318.out 5, q13k BK318.out 6, q13k BK318.out 7, q13k BK318.out 8, q13k BK318.out 9, q13k BK318.out 10⟩ (fun hHeld => ?_); refine with_tabW cambiumlaw18_KeyOrder.tab12 cambiumlaw18_KeyOrder.bits12 (fun HT_ HW_ => ?_)
       generalize wr.drew = w105 at BK317 BK318 HB hHeld ⊢
       refine q13p (i := 2) (N := some 58) (q13m 36 4) HT_.out ?_
       refine q13p (i := 6) (N := some 62) (q13m 36 68) HT_.out ?_
       refine q13p (i := 8) (N := some 64) (q13m 36 324) HT_.out ?_
       refine take_ (i := 0) (N := some 56) (v := ?_) (a' := ?_) (q13m 36 325) rfl rfl (take_ofW HT_.out HW_.out (by kernel_rfl)) (fun _ _ _ h => h) (Or.inl ⟨by rfl, ?_⟩) hHeld ?_ ?_; rotate_left; (rintro w' ⟨s0, s1, s2, s3, s4, s5, s6, s7, s8, s9, s10, s11, s12, s13, s14, s15, s16, s17, s18, s19, s20, s21⟩; go_simp; with_reducible rfl); rotate_left; (simp only [Act.put, q13a, q13b, q13c, i64_w, i32_w]; rfl)
       refine take_ (i := 3) (N := some 59) (v := ?_) (a' := ?_) (q13m 36 333) rfl rfl (take_ofW HT_.out HW_.out (by kernel_rfl)) (fun _ _ _ h => h) (Or.inl ⟨by rfl, ?_⟩) hHeld ?_ ?_; rotate_left; (rintro w' ⟨s0, s1, s2, s3, s4, s5, s6, s7, s8, s9, s10, s11, s12, s13, s14, s15, s16, s17, s18, s19, s20, s21⟩; go_simp; with_reducible rfl); rotate_left; (simp only [Act.put, q13a, q13b, q13c, i64_w, i32_w]; rfl)
       refine take_ (i := 7) (N := some 63) (v := ?_) (a' := ?_) (q13m 36 461) rfl rfl (take_ofW HT_.out HW_.out (by kernel_rfl)) (fun _ _ _ h => h) (Or.inl ⟨by rfl, ?_⟩) hHeld ?_ ?_; rotate_left; (rintro w' ⟨s0, s1, s2, s3, s4, s5, s6, s7, s8, s9, s10, s11, s12, s13, s14, s15, s16, s17, s18, s19, s20, s21⟩; go_simp; with_reducible rfl); rotate_left; (simp only [Act.put, q13a, q13b, q13c, i64_w, i32_w]; rfl)
       refine take_ (i := 9) (N := some 65) (v := ?_) (a' := ?_) (q13m 36 973) rfl rfl (take_ofW HT_.out HW_.out (by kernel_rfl)) (fun _ _ _ h => h) (Or.inl ⟨by rfl, ?_⟩) hHeld ?_ ?_; rotate_left; (rintro w' ⟨s0, s1, s2, s3, s4, s5, s6, s7, s8, s9, s10, s11, s12, s13, s14, s15, s16, s17, s18, s19, s20, s21⟩; go_simp; with_reducible rfl); rotate_left; (simp only [Act.put, q13a, q13b, q13c, i64_w, i32_w]; rfl)
       refine q13p (i := 10) (N := some 66) (q13m 36 1997) HT_.out ?_
       refine one_ (i := 1) (N := some 57) (q13m 36 1999) rfl rfl (one_of HT_.out (by kernel_rfl)) (by decide) (fun K hK => ?_)
       refine goes_ Try.func14 (by kernel_rfl) rfl #[.int .i64 1, .agg #[.int .u64 a0_0, .int .u64 a0_1, .int .u64 a0_2, .string a0_3, .string a0_4, .int .i64 a0_5, .int .i64 a0_6, .int .i64 a0_7, .slice A0_8 l0_8.length c0_8, .slice A0_9 l0_9.length c0_9, .slice A0_10 l0_10.length c0_10]] (by rfl) rfl rfl q13y2 ?_
       with_reducible refine (key_Index.calls k2 1 a0_0 a0_1 a0_2 a0_3 a0_4 a0_5 a0_6 a0_7 _ _ l0_8 _ _ l0_9 _ _ l0_10 t334 _ ?side1 ?side2 ?side3 ?side4 ?side5 ?side6 A79.out).mono ?_
       (case side1 => repeat (first | exact (Kd.C_below HR0_8.out HB.out) | (with_reducible refine Kd.C_alloc ?_ _) | (with_reducible refine Kd.C_drewN ?_ _) | (with_reducible refine Kd.C_drew ?_)))
       (case side2 => exact HC0_8.out)
       (case side3 => repeat (first | exact (Kd.C_below HR0_9.out HB.out) | (with_reducible refine Kd.C_alloc ?_ _) | (with_reducible refine Kd.C_drewN ?_ _) | (with_reducible refine Kd.C_drew ?_)))
       (case side4 => exact HC0_9.out)
       (case side5 => repeat (first | exact (Kd.C_below HR0_10.out HB.out) | (with_reducible refine Kd.C_alloc ?_ _) | (with_reducible refine Kd.C_drewN ?_ _) | (with_reducible refine Kd.C_drew ?_)))
       (case side6 => exact HC0_10.out)
       rintro e w106 ⟨v335, rfl, ho0, hb⟩
       refine ⟨_, rfl, ?_⟩
       have n0_ := Aside0.mk (Kd.R_lower ho0 (below_size q13y0))
       have n1_ := Aside0.mk (blk_below (g := gb317) (o := .cells #[.int .u64 a0_0, .int .u64 a0_1, .int .u64 a0_2, .string a0_3, .string a0_4, .int .i64 a0_5, .int .i64 a0_6, .int .i64 a0_7, .slice A0_8 l0_8.length c0_8, .slice A0_9 l0_9.length c0_9, .slice A0_10 l0_10.length c0_10] 34 (0, 0)) q13y1 hb)
       have n2_ := Aside0.mk (blk_below (g := gb318) (o := .cells #[.int .u64 a1_0, .int .u64 a1_1, .int .u64 a1_2, .string a1_3, .string a1_4, .int .i64 a1_5, .int .i64 a1_6, .int .i64 a1_7, .slice A1_8 l1_8.length c1_8, .slice A1_9 l1_9.length c1_9, .slice A1_10 l1_10.length c1_10] 34 (0, 0)) q13y3 hb)
       have n3_ := Aside0.mk (below_step q13y0 hb)
       clear BK317
       clear BK318
       clear HB
       have HO336 := n0_
       have BK317 := n1_
       have BK318 := n2_
       have HB := n3_
       clear n0_ n1_ n2_ n3_
       (try clear hb)
       (try clear hb2)
       (try clear hk)
       (try clear hi)
       (try clear ho0)
       refine hK.out _ _ ⟨q13k BK317.out 0, q13k BK317.out 1, q13k BK317.out 2, q13k BK317.out 3, q13k BK317.out 4, q13k BK317.out 5, q13k BK317.out 6, q13k BK317.out 7, q13k BK317.out 8, q13k BK317.out 9, q13k BK317.out 10, q13k BK318.out 0, q13k BK318.out 1, q13k BK318.out 2, q13k BK318.out 3, q13k BK318.out 4, q13k BK318.out 5, q13k BK318.out 6, q13k BK318.out 7, q13k BK318.out 8, q13k BK318.out 9, q13k BK318.out 10⟩ (fun hHeld => ?_)
       clear hK K
       refine norm_ (a' := ?_) ?_ ?_
       rotate_left
       ·show Act.put _ (some 57) _ = _
        simp only [Act.put, q13a, q13b, q13c, i64_w, i32_w]
        rfl
       refine one_ (i := 4) (N := some 60) (q13m 36 2015) rfl rfl (one_of HT_.out (by kernel_rfl)) (by decide) (fun K hK => ?_)
       refine goes_ Try.func18 (by kernel_rfl) rfl #[.string a1_3] (by rfl) rfl rfl q13y2 ?_
       with_reducible refine (key_Service.calls a1_3 t337 _ A80.out).mono ?_
       rintro e w107 ⟨v338, rfl, ho0, hb⟩
       refine ⟨_, rfl, ?_⟩
       have n0_ := Aside0.mk (Kd.R_below q13y4 hb)
       have n1_ := Aside0.mk (Kd.V_lower (Kd.V_mono (ok' := fun k_ => some k_ ≠ (v335 : Value).ownBlock ∧ k_ ≠ gb317 ∧ k_ ≠ gb318) ho0 (fun k_ hk_ => ⟨(Kd.fresh' (Kd.R_lt q13y4) k_ hk_), (Kd.freshB (g := gb317) (o := .cells #[.int .u64 a0_0, .int .u64 a0_1, .int .u64 a0_2, .string a0_3, .string a0_4, .int .i64 a0_5, .int .i64 a0_6, .int .i64 a0_7, .slice A0_8 l0_8.length c0_8, .slice A0_9 l0_9.length c0_9, .slice A0_10 l0_10.length c0_10] 34 (0, 0)) q13y1 k_ hk_), (Kd.freshB (g := gb318) (o := .cells #[.int .u64 a1_0, .int .u64 a1_1, .int .u64 a1_2, .string a1_3, .string a1_4, .int .i64 a1_5, .int .i64 a1_6, .int .i64 a1_7, .slice A1_8 l1_8.length c1_8, .slice A1_9 l1_9.length c1_9, .slice A1_10 l1_10.length c1_10] 34 (0, 0)) q13y3 k_ hk_)⟩)) (below_size q13y0))
       have n2_ := Aside0.mk (blk_below (g := gb317) (o := .cells #[.int .u64 a0_0, .int .u64 a0_1, .int .u64 a0_2, .string a0_3, .string a0_4, .int .i64 a0_5, .int .i64 a0_6, .int .i64 a0_7, .slice A0_8 l0_8.length c0_8, .slice A0_9 l0_9.length c0_9, .slice A0_10 l0_10.length c0_10] 34 (0, 0)) q13y1 hb)
       have n3_ := Aside0.mk (blk_below (g := gb318) (o := .cells #[.int .u64 a1_0, .int .u64 a1_1, .int .u64 a1_2, .string a1_3, .string a1_4, .int .i64 a1_5, .int .i64 a1_6, .int .i64 a1_7, .slice A1_8 l1_8.length c1_8, .slice A1_9 l1_9.length c1_9, .slice A1_10 l1_10.length c1_10] 34 (0, 0)) q13y3 hb)
       have n4_ := Aside0.mk (below_step q13y0 hb)
       clear HO336
       clear BK317
       clear BK318
       clear HB
       have HO336 := n0_
       have HO339 := n1_
       have BK317 := n2_
       have BK318 := n3_
       have HB := n4_
       clear n0_ n1_ n2_ n3_ n4_
       (try clear hb)
       (try clear hb2)
       (try clear hk)
       (try clear hi)
       (try clear ho0)
       obtain ⟨Ao108, co108, eo108⟩ := Kd.R_slice HO336.out
       (first | subst eo108 | (injection eo108 with f1_ f2_ f3_; have f4_ := f1_.symm; have f5_ := f3_.symm; clear f1_ f2_ f3_; subst f4_; subst f5_))
       obtain ⟨Ao109, co109, eo109⟩ := Kd.V_slice HO339.out
       (first | subst eo109 | (injection eo109 with f1_ f2_ f3_; have f4_ := f1_.symm; have f5_ := f3_.symm; clear f1_ f2_ f3_; subst f4_; subst f5_))
       refine hK.out _ _ ⟨q13k BK317.out 0, q13k BK317.out 1, q13k BK317.out 2, q13k BK317.out 3, q13k BK317.out 4, q13k BK317.out 5, q13k BK317.out 6, q13k BK317.out 7, q13k BK317.out 8, q13k BK317.out 9, q13k BK317.out 10, q13k BK318.out 0, q13k BK318.out 1, q13k BK318.out 2, q13k BK318.out 3, q13k BK318.out 4, q13k BK318.out 5, q13k BK318.out 6, q13k BK318.out 7, q13k BK318.out 8, q13k BK318.out 9, q13k BK318.out 10⟩ (fun hHeld => ?_)
       clear hK K
       refine norm_ (a' := ?_) ?_ ?_
       rotate_left
       ·show Act.put _ (some 60) _ = _
        simp only [Act.put, q13a, q13b, q13c, i64_w, i32_w]
        rfl
       refine one_ (i := 5) (N := some 61) (q13m 36 2047) rfl rfl (one_of HT_.out (by kernel_rfl)) (by decide) (fun K hK => ?_)
       refine goes_ Try.func17 (by kernel_rfl) rfl #[.slice Ao108 t334.length co108, .slice Ao109 t337.length co109] (by rfl) rfl rfl q13y2 ?_
       with_reducible refine (cambiumref18_Begins.calls k2 _ _ t334 _ _ t337 t340 _ ?side1 ?side2 ?side3 ?side4 A81.out).mono ?_
       (case side1 => repeat (first | exact (Kd.R_reads' HO336.out).2.2 | (with_reducible refine Kd.C_alloc ?_ _) | (with_reducible refine Kd.C_drewN ?_ _) | (with_reducible refine Kd.C_drew ?_)))
       (case side2 => exact (Kd.R_reads' HO336.out).2.1)
       (case side3 => repeat (first | exact (Kd.V_reads' HO339.out).2.2 | (with_reducible refine Kd.C_alloc ?_ _) | (with_reducible refine Kd.C_drewN ?_ _) | (with_reducible refine Kd.C_drew ?_)))
       (case side4 => exact (Kd.V_reads' HO339.out).2.1)
       rintro e w' ⟨rfl, ⟨nd, rfl⟩⟩
       refine ⟨_, rfl, ?_⟩
       refine hK.out _ _ ⟨q13k BK317.out 0, q13k BK317.out 1, q13k BK317.out 2, q13k BK317.out 3, q13k BK317.out 4, q13k BK317.out 5, q13k BK317.out 6, q13k BK317.out 7, q13k BK317.out 8, q13k BK317.out 9, q13k BK317.out 10, q13k BK318.out 0, q13k BK318.out 1, q13k BK318.out 2, q13k BK318.out 3, q13k BK318.out 4, q13k BK318.out 5, q13k BK318.out 6, q13k BK318.out 7, q13k BK318.out 8, q13k BK318.out 9, q13k BK318.out 10⟩ (fun hHeld => ?_)
       clear hK K
       refine norm_ (a' := ?_) ?_ ?_
       rotate_left
       ·show Act.put _ (some 61) _ = _
        simp only [Act.put, q13a, q13b, q13c, i64_w, i32_w]
        rfl
       refine q13p (i := 11) (N := some 67) (q13m 36 4095) HT_.out ?_
       refine q13p (i := 12) (N := some 68) (q13m 36 8191) HT_.out ?_
       refine q13u (i := 13) (N := some 69) (q13m 36 16383) HT_.out ?_
       refine q13u (i := 14) (N := some 70) (q13m 36 32767) HT_.out ?_
       refine q13u (i := 15) (N := some 71) (q13m 36 65535) HT_.out ?_
       refine q13u (i := 16) (N := some 72) (q13m 36 131071) HT_.out ?_
       refine q13u (i := 17) (N := some 73) (q13m 36 262143) HT_.out ?_
       refine q13u (i := 18) (N := some 74) (q13m 36 524287) HT_.out ?_
       refine q13u (i := 19) (N := some 75) (q13m 36 1048575) HT_.out ?_
       refine q13u (i := 20) (N := some 76) (q13m 36 2097151) HT_.out ?_
       refine q13u (i := 21) (N := some 77) (q13m 36 4194303) HT_.out ?_
       refine q13u (i := 22) (N := some 78) (q13m 36 8388607) HT_.out ?_
       refine q13u (i := 23) (N := some 79) (q13m 36 16777215) HT_.out ?_
       refine q13u (i := 24) (N := some 80) (q13m 36 33554431) HT_.out ?_
       refine q13u (i := 25) (N := some 81) (q13m 36 67108863) HT_.out ?_
       refine q13u (i := 26) (N := some 82) (q13m 36 134217727) HT_.out ?_
       refine q13u (i := 27) (N := some 83) (q13m 36 268435455) HT_.out ?_
       refine q13u (i := 28) (N := some 84) (q13m 36 536870911) HT_.out ?_
       refine q13u (i := 29) (N := some 85) (q13m 36 1073741823) HT_.out ?_
       refine q13u (i := 30) (N := some 86) (q13m 36 2147483647) HT_.out ?_
       refine q13u (i := 31) (N := some 87) (q13m 36 4294967295) HT_.out ?_
       refine q13u (i := 32) (N := some 88) (q13m 36 8589934591) HT_.out ?_
       refine q13u (i := 33) (N := some 89) (q13m 36 17179869183) HT_.out ?_
       refine q13p (i := 34) (N := some 90) (q13m 36 34359738367) HT_.out ?_
       refine q13p (i := 35) (N := some 4) (q13m 36 68719476735) HT_.out ?_
       refine done_ (done_of HT_.out (by kernel_rfl)) ?_
       try go_wp2
       go_ret
       exact ⟨by first | rfl | (simp [errW_none, errW_some] <;> rfl) | (simp [*, errW_none, errW_some] <;> rfl), by repeat (first | (with_reducible first | exact HB.out | apply below_alloc | apply pw_below_drewN | apply below_drew1 | refine below_set ?_ GE317.out | refine below_set ?_ GE318.out) | exact HB.out)⟩
     rw [if_pos c82] at H
     have c82b0 : (t340 == (a0_3.toList == a1_3.toList)) = true := c82
     (try (have c82b1 : decide (t340 = (a0_3.toList == a1_3.toList)) = true := by simpa using c82))
     (try (have c82b2 : (t340 == (a0_3.toList == a1_3.toList)) = true := by simpa using c82))
     clear c82
     replace H := Option.bind_eq_some_iff.mp H
     obtain ⟨t341, A830, H⟩ := H
     replace H : ((key_Operation.f a1_3 a1_4).bind fun t344 => ((cambiumref18_Begins.f k2 t341 t344).bind fun t347 => (if a0_3.toList = a1_3.toList then (some (t347 == (a0_4.toList == a1_4.toList))) else (some (t347 == false))))) = some r := H
     have A83 := Aside0.mk A830
     clear A830
     replace H := Option.bind_eq_some_iff.mp H
     obtain ⟨t344, A840, H⟩ := H
     replace H : ((cambiumref18_Begins.f k2 t341 t344).bind fun t347 => (if a0_3.toList = a1_3.toList then (some (t347 == (a0_4.toList == a1_4.toList))) else (some (t347 == false)))) = some r := H
     have A84 := Aside0.mk A840
     clear A840
     replace H := Option.bind_eq_some_iff.mp H
     obtain ⟨t347, A850, H⟩ := H
     replace H : (if a0_3.toList = a1_3.toList then (some (t347 == (a0_4.toList == a1_4.toList))) else (some (t347 == false))) = some r := H
     have A85 := Aside0.mk A850
     clear A850
     by_cases c86 : a0_3.toList = a1_3.toList
     rotate_left
     ·rw [if_neg c86] at H
      have c86b0 : (a0_3.toList == a1_3.toList) = false := beq_eq_false_iff_ne.mpr c86
      have c86b1 : (a0_3.toList != a1_3.toList) = true := bne_iff_ne.mpr c86
      have tt_ : t340 = false := by simpa [c86b0] using c82b0
      obtain rfl := Option.some.inj H
      try go_wp2
      have n0_ := Aside0.mk (blk_drew BK317.out)
      have n1_ := Aside0.mk (blk_drew BK318.out)
      have n2_ := Aside0.mk (below_drew1 HB.out)
      clear BK317
      clear BK318
      clear HB
      have BK317 := n0_
      have BK318 := n1_
      have HB := n2_
      clear n0_ n1_ n2_
      as_aux_lemma =>
       refine start_ (n := 36) (S := fun w' => w'.cell? ⟨gb317, 0, none⟩ = some (.int .u64 a0_0) ∧ w'.cell? ⟨gb317, 1, none⟩ = some (.int .u64 a0_1) ∧ w'.cell? ⟨gb317, 2, none⟩ = some (.int .u64 a0_2) ∧ w'.cell? ⟨gb317, 3, none⟩ = some (.string a0_3) ∧ w'.cell? ⟨gb317, 4, none⟩ = some (.string a0_4) ∧ w'.cell? ⟨gb317, 5, none⟩ = some (.int .i64 a0_5) ∧ w'.cell? ⟨gb317, 6, none⟩ = some (.int .i64 a0_6) ∧ w'.cell? ⟨gb317, 7, none⟩ = some (.int .i64 a0_7) ∧ w'.cell? ⟨gb317, 8, none⟩ = some (.slice A0_8 l0_8.length c0_8) ∧ w'.cell? ⟨gb317, 9, none⟩ = some (.slice A0_9 l0_9.length c0_9) ∧ w'.cell? ⟨gb317, 10, none⟩ = some (.slice A0_10 l0_10.length c0_10) ∧ w'.cell? ⟨gb318, 0, none⟩ = some (.int .u64 a1_0) ∧ w'.cell? ⟨gb318, 1, none⟩ = some (.int .u64 a1_1) ∧ w'.cell? ⟨gb318, 2, none⟩ = some (.int .u64 a1_2) ∧ w'.cell? ⟨gb318, 3, none⟩ = some (.string a1_3) ∧ w'.cell? ⟨gb318, 4, none⟩ = some (.string a1_4) ∧ w'.cell? ⟨gb318, 5, none⟩ = some (.int .i64 a1_5) ∧ w'.cell? ⟨gb318, 6, none⟩ = some (.int .i64 a1_6) ∧ w'.cell? ⟨gb318, 7, none⟩ = some (.int .i64 a1_7) ∧ w'.cell? ⟨gb318, 8, none⟩ = some (.slice A1_8 l1_8.length c1_8) ∧ w'.cell? ⟨gb318, 9, none⟩ = some (.slice A1_9 l1_9.length c1_9) ∧ w'.cell? ⟨gb318, 10, none⟩ = some (.slice A1_10 l1_10.length c1_10)) (ds := []) #[false, false, false, false, false, false, false, false, false, false, false, false, false, false, false, false, false, false, false, false, false, false, false, false, false, false, false, false, false, false, false, false, false, false, false, false] (by kernel_rfl) rfl rfl ⟨q13k BK317.out 0, q13k BK317.out 1, q13k BK317.out 2, q13k BK317.out 3, q13k BK317.out 4, q13k BK317.out 5, q13k BK317.out 6, q13k BK317.out 7, q13k BK317.out 8, q13k BK317.out 9, q13k BK317.out 10, q13k BK318.out 0, q13k BK318.out 1, q13k BK318.out 2, q13k BK318.out 3, q13k BK318.out 4, q13k BK318.out 5, q13k BK318.out 6, q13k BK318.out 7, q13k BK318.out 8, q13k BK318.out 9, q13k BK318.out 10⟩ (fun hHeld => ?_); refine with_tabW cambiumlaw18_KeyOrder.tab12 cambiumlaw18_KeyOrder.bits12 (fun HT_ HW_ => ?_)
       generalize wr.drew = w96 at BK317 BK318 HB hHeld ⊢
       refine q13p (i := 2) (N := some 58) (q13m 36 4) HT_.out ?_
       refine q13p (i := 6) (N := some 62) (q13m 36 68) HT_.out ?_
       refine q13p (i := 8) (N := some 64) (q13m 36 324) HT_.out ?_
       refine take_ (i := 0) (N := some 56) (v := ?_) (a' := ?_) (q13m 36 325) rfl rfl (take_ofW HT_.out HW_.out (by kernel_rfl)) (fun _ _ _ h => h) (Or.inl ⟨by rfl, ?_⟩) hHeld ?_ ?_; rotate_left; (rintro w' ⟨s0, s1, s2, s3, s4, s5, s6, s7, s8, s9, s10, s11, s12, s13, s14, s15, s16, s17, s18, s19, s20, s21⟩; go_simp; with_reducible rfl); rotate_left; (simp only [Act.put, q13a, q13b, q13c, i64_w, i32_w]; rfl)
       refine take_ (i := 3) (N := some 59) (v := ?_) (a' := ?_) (q13m 36 333) rfl rfl (take_ofW HT_.out HW_.out (by kernel_rfl)) (fun _ _ _ h => h) (Or.inl ⟨by rfl, ?_⟩) hHeld ?_ ?_; rotate_left; (rintro w' ⟨s0, s1, s2, s3, s4, s5, s6, s7, s8, s9, s10, s11, s12, s13, s14, s15, s16, s17, s18, s19, s20, s21⟩; go_simp; with_reducible rfl); rotate_left; (simp only [Act.put, q13a, q13b, q13c, i64_w, i32_w]; rfl)
       refine take_ (i := 7) (N := some 63) (v := ?_) (a' := ?_) (q13m 36 461) rfl rfl (take_ofW HT_.out HW_.out (by kernel_rfl)) (fun _ _ _ h => h) (Or.inl ⟨by rfl, ?_⟩) hHeld ?_ ?_; rotate_left; (rintro w' ⟨s0, s1, s2, s3, s4, s5, s6, s7, s8, s9, s10, s11, s12, s13, s14, s15, s16, s17, s18, s19, s20, s21⟩; go_simp; with_reducible rfl); rotate_left; (simp only [Act.put, q13a, q13b, q13c, i64_w, i32_w]; rfl)
       refine take_ (i := 9) (N := some 65) (v := ?_) (a' := ?_) (q13m 36 973) rfl rfl (take_ofW HT_.out HW_.out (by kernel_rfl)) (fun _ _ _ h => h) (Or.inl ⟨by rfl, ?_⟩) hHeld ?_ ?_; rotate_left; (rintro w' ⟨s0, s1, s2, s3, s4, s5, s6, s7, s8, s9, s10, s11, s12, s13, s14, s15, s16, s17, s18, s19, s20, s21⟩; go_simp; with_reducible rfl); rotate_left; (simp only [Act.put, q13a, q13b, q13c, i64_w, i32_w]; rfl)
       refine q13p (i := 10) (N := some 66) (q13m 36 1997) HT_.out ?_
       refine one_ (i := 1) (N := some 57) (q13m 36 1999) rfl rfl (one_of HT_.out (by kernel_rfl)) (by decide) (fun K hK => ?_)
       refine goes_ Try.func14 (by kernel_rfl) rfl #[.int .i64 1, .agg #[.int .u64 a0_0, .int .u64 a0_1, .int .u64 a0_2, .string a0_3, .string a0_4, .int .i64 a0_5, .int .i64 a0_6, .int .i64 a0_7, .slice A0_8 l0_8.length c0_8, .slice A0_9 l0_9.length c0_9, .slice A0_10 l0_10.length c0_10]] (by rfl) rfl rfl q13y2 ?_
       with_reducible refine (key_Index.calls k2 1 a0_0 a0_1 a0_2 a0_3 a0_4 a0_5 a0_6 a0_7 _ _ l0_8 _ _ l0_9 _ _ l0_10 t334 _ ?side1 ?side2 ?side3 ?side4 ?side5 ?side6 A79.out).mono ?_
       (case side1 => repeat (first | exact (Kd.C_below HR0_8.out HB.out) | (with_reducible refine Kd.C_alloc ?_ _) | (with_reducible refine Kd.C_drewN ?_ _) | (with_reducible refine Kd.C_drew ?_)))
       (case side2 => exact HC0_8.out)
       (case side3 => repeat (first | exact (Kd.C_below HR0_9.out HB.out) | (with_reducible refine Kd.C_alloc ?_ _) | (with_reducible refine Kd.C_drewN ?_ _) | (with_reducible refine Kd.C_drew ?_)))
       (case side4 => exact HC0_9.out)
       (case side5 => repeat (first | exact (Kd.C_below HR0_10.out HB.out) | (with_reducible refine Kd.C_alloc ?_ _) | (with_reducible refine Kd.C_drewN ?_ _) | (with_reducible refine Kd.C_drew ?_)))
       (case side6 => exact HC0_10.out)
       rintro e w97 ⟨v335, rfl, ho0, hb⟩
       refine ⟨_, rfl, ?_⟩
       have n0_ := Aside0.mk (Kd.R_lower ho0 (below_size q13y0))
       have n1_ := Aside0.mk (blk_below (g := gb317) (o := .cells #[.int .u64 a0_0, .int .u64 a0_1, .int .u64 a0_2, .string a0_3, .string a0_4, .int .i64 a0_5, .int .i64 a0_6, .int .i64 a0_7, .slice A0_8 l0_8.length c0_8, .slice A0_9 l0_9.length c0_9, .slice A0_10 l0_10.length c0_10] 34 (0, 0)) q13y1 hb)
       have n2_ := Aside0.mk (blk_below (g := gb318) (o := .cells #[.int .u64 a1_0, .int .u64 a1_1, .int .u64 a1_2, .string a1_3, .string a1_4, .int .i64 a1_5, .int .i64 a1_6, .int .i64 a1_7, .slice A1_8 l1_8.length c1_8, .slice A1_9 l1_9.length c1_9, .slice A1_10 l1_10.length c1_10] 34 (0, 0)) q13y3 hb)
       have n3_ := Aside0.mk (below_step q13y0 hb)
       clear BK317
       clear BK318
       clear HB
       have HO336 := n0_
       have BK317 := n1_
       have BK318 := n2_
       have HB := n3_
       clear n0_ n1_ n2_ n3_
       (try clear hb)
       (try clear hb2)
       (try clear hk)
       (try clear hi)
       (try clear ho0)
       refine hK.out _ _ ⟨q13k BK317.out 0, q13k BK317.out 1, q13k BK317.out 2, q13k BK317.out 3, q13k BK317.out 4, q13k BK317.out 5, q13k BK317.out 6, q13k BK317.out 7, q13k BK317.out 8, q13k BK317.out 9, q13k BK317.out 10, q13k BK318.out 0, q13k BK318.out 1, q13k BK318.out 2, q13k BK318.out 3, q13k BK318.out 4, q13k BK318.out 5, q13k BK318.out 6, q13k BK318.out 7, q13k BK318.out 8, q13k BK318.out 9, q13k BK318.out 10⟩ (fun hHeld => ?_)
       clear hK K
       refine norm_ (a' := ?_) ?_ ?_
       rotate_left
       ·show Act.put _ (some 57) _ = _
        simp only [Act.put, q13a, q13b, q13c, i64_w, i32_w]
        rfl
       refine one_ (i := 4) (N := some 60) (q13m 36 2015) rfl rfl (one_of HT_.out (by kernel_rfl)) (by decide) (fun K hK => ?_)
       refine goes_ Try.func18 (by kernel_rfl) rfl #[.string a1_3] (by rfl) rfl rfl q13y2 ?_
       with_reducible refine (key_Service.calls a1_3 t337 _ A80.out).mono ?_
       rintro e w98 ⟨v338, rfl, ho0, hb⟩
       refine ⟨_, rfl, ?_⟩
       have n0_ := Aside0.mk (Kd.R_below q13y4 hb)
       have n1_ := Aside0.mk (Kd.V_lower (Kd.V_mono (ok' := fun k_ => some k_ ≠ (v335 : Value).ownBlock ∧ k_ ≠ gb317 ∧ k_ ≠ gb318) ho0 (fun k_ hk_ => ⟨(Kd.fresh' (Kd.R_lt q13y4) k_ hk_), (Kd.freshB (g := gb317) (o := .cells #[.int .u64 a0_0, .int .u64 a0_1, .int .u64 a0_2, .string a0_3, .string a0_4, .int .i64 a0_5, .int .i64 a0_6, .int .i64 a0_7, .slice A0_8 l0_8.length c0_8, .slice A0_9 l0_9.length c0_9, .slice A0_10 l0_10.length c0_10] 34 (0, 0)) q13y1 k_ hk_), (Kd.freshB (g := gb318) (o := .cells #[.int .u64 a1_0, .int .u64 a1_1, .int .u64 a1_2, .string a1_3, .string a1_4, .int .i64 a1_5, .int .i64 a1_6, .int .i64 a1_7, .slice A1_8 l1_8.length c1_8, .slice A1_9 l1_9.length c1_9, .slice A1_10 l1_10.length c1_10] 34 (0, 0)) q13y3 k_ hk_)⟩)) (below_size q13y0))
       have n2_ := Aside0.mk (blk_below (g := gb317) (o := .cells #[.int .u64 a0_0, .int .u64 a0_1, .int .u64 a0_2, .string a0_3, .string a0_4, .int .i64 a0_5, .int .i64 a0_6, .int .i64 a0_7, .slice A0_8 l0_8.length c0_8, .slice A0_9 l0_9.length c0_9, .slice A0_10 l0_10.length c0_10] 34 (0, 0)) q13y1 hb)
       have n3_ := Aside0.mk (blk_below (g := gb318) (o := .cells #[.int .u64 a1_0, .int .u64 a1_1, .int .u64 a1_2, .string a1_3, .string a1_4, .int .i64 a1_5, .int .i64 a1_6, .int .i64 a1_7, .slice A1_8 l1_8.length c1_8, .slice A1_9 l1_9.length c1_9, .slice A1_10 l1_10.length c1_10] 34 (0, 0)) q13y3 hb)
       have n4_ := Aside0.mk (below_step q13y0 hb)
       clear HO336
       clear BK317
       clear BK318
       clear HB
       have HO336 := n0_
       have HO339 := n1_
       have BK317 := n2_
       have BK318 := n3_
       have HB := n4_
       clear n0_ n1_ n2_ n3_ n4_
       (try clear hb)
       (try clear hb2)
       (try clear hk)
       (try clear hi)
       (try clear ho0)
       obtain ⟨Ao99, co99, eo99⟩ := Kd.R_slice HO336.out
       (first | subst eo99 | (injection eo99 with f1_ f2_ f3_; have f4_ := f1_.symm; have f5_ := f3_.symm; clear f1_ f2_ f3_; subst f4_; subst f5_))
       obtain ⟨Ao100, co100, eo100⟩ := Kd.V_slice HO339.out
       (first | subst eo100 | (injection eo100 with f1_ f2_ f3_; have f4_ := f1_.symm; have f5_ := f3_.symm; clear f1_ f2_ f3_; subst f4_; subst f5_))
       refine hK.out _ _ ⟨q13k BK317.out 0, q13k BK317.out 1, q13k BK317.out 2, q13k BK317.out 3, q13k BK317.out 4, q13k BK317.out 5, q13k BK317.out 6, q13k BK317.out 7, q13k BK317.out 8, q13k BK317.out 9, q13k BK317.out 10, q13k BK318.out 0, q13k BK318.out 1, q13k BK318.out 2, q13k BK318.out 3, q13k BK318.out 4, q13k BK318.out 5, q13k BK318.out 6, q13k BK318.out 7, q13k BK318.out 8, q13k BK318.out 9, q13k BK318.out 10⟩ (fun hHeld => ?_)
       clear hK K
       refine norm_ (a' := ?_) ?_ ?_
       rotate_left
       ·show Act.put _ (some 60) _ = _
        simp only [Act.put, q13a, q13b, q13c, i64_w, i32_w]
        rfl
       refine one_ (i := 5) (N := some 61) (q13m 36 2047) rfl rfl (one_of HT_.out (by kernel_rfl)) (by decide) (fun K hK => ?_)
       refine goes_ Try.func17 (by kernel_rfl) rfl #[.slice Ao99 t334.length co99, .slice Ao100 t337.length co100] (by rfl) rfl rfl q13y2 ?_
       with_reducible refine (cambiumref18_Begins.calls k2 _ _ t334 _ _ t337 t340 _ ?side1 ?side2 ?side3 ?side4 A81.out).mono ?_
       (case side1 => repeat (first | exact (Kd.R_reads' HO336.out).2.2 | (with_reducible refine Kd.C_alloc ?_ _) | (with_reducible refine Kd.C_drewN ?_ _) | (with_reducible refine Kd.C_drew ?_)))
       (case side2 => exact (Kd.R_reads' HO336.out).2.1)
       (case side3 => repeat (first | exact (Kd.V_reads' HO339.out).2.2 | (with_reducible refine Kd.C_alloc ?_ _) | (with_reducible refine Kd.C_drewN ?_ _) | (with_reducible refine Kd.C_drew ?_)))
       (case side4 => exact (Kd.V_reads' HO339.out).2.1)
       rintro e w' ⟨rfl, ⟨nd, rfl⟩⟩
       refine ⟨_, rfl, ?_⟩
       refine hK.out _ _ ⟨q13k BK317.out 0, q13k BK317.out 1, q13k BK317.out 2, q13k BK317.out 3, q13k BK317.out 4, q13k BK317.out 5, q13k BK317.out 6, q13k BK317.out 7, q13k BK317.out 8, q13k BK317.out 9, q13k BK317.out 10, q13k BK318.out 0, q13k BK318.out 1, q13k BK318.out 2, q13k BK318.out 3, q13k BK318.out 4, q13k BK318.out 5, q13k BK318.out 6, q13k BK318.out 7, q13k BK318.out 8, q13k BK318.out 9, q13k BK318.out 10⟩ (fun hHeld => ?_)
       clear hK K
       refine norm_ (a' := ?_) ?_ ?_
       rotate_left
       ·show Act.put _ (some 61) _ = _
        simp only [Act.put, q13a, q13b, q13c, i64_w, i32_w]
        rfl
       refine q13p (i := 11) (N := some 67) (q13m 36 4095) HT_.out ?_
       refine q13p (i := 12) (N := some 68) (q13m 36 8191) HT_.out ?_
       refine q13p (i := 15) (N := some 71) (q13m 36 40959) HT_.out ?_
       refine q13p (i := 17) (N := some 73) (q13m 36 172031) HT_.out ?_
       refine q13p (i := 21) (N := some 77) (q13m 36 2269183) HT_.out ?_
       refine q13p (i := 23) (N := some 79) (q13m 36 10657791) HT_.out ?_
       refine take_ (i := 13) (N := some 69) (v := ?_) (a' := ?_) (q13m 36 10665983) rfl rfl (take_ofW HT_.out HW_.out (by kernel_rfl)) (fun _ _ _ h => h) (Or.inl ⟨by rfl, ?_⟩) hHeld ?_ ?_; rotate_left; (rintro w' ⟨s0, s1, s2, s3, s4, s5, s6, s7, s8, s9, s10, s11, s12, s13, s14, s15, s16, s17, s18, s19, s20, s21⟩; go_simp; with_reducible rfl); rotate_left; (simp only [Act.put, q13a, q13b, q13c, i64_w, i32_w]; rfl)
       refine take_ (i := 16) (N := some 72) (v := ?_) (a' := ?_) (q13m 36 10731519) rfl rfl (take_ofW HT_.out HW_.out (by kernel_rfl)) (fun _ _ _ h => h) (Or.inl ⟨by rfl, ?_⟩) hHeld ?_ ?_; rotate_left; (rintro w' ⟨s0, s1, s2, s3, s4, s5, s6, s7, s8, s9, s10, s11, s12, s13, s14, s15, s16, s17, s18, s19, s20, s21⟩; go_simp; with_reducible rfl); rotate_left; (simp only [Act.put, q13a, q13b, q13c, i64_w, i32_w]; rfl)
       refine take_ (i := 18) (N := some 74) (v := ?_) (a' := ?_) (q13m 36 10993663) rfl rfl (take_ofW HT_.out HW_.out (by kernel_rfl)) (fun _ _ _ h => h) (Or.inl ⟨by rfl, ?_⟩) hHeld ?_ ?_; rotate_left; (rintro w' ⟨s0, s1, s2, s3, s4, s5, s6, s7, s8, s9, s10, s11, s12, s13, s14, s15, s16, s17, s18, s19, s20, s21⟩; go_simp; with_reducible rfl); rotate_left; (simp only [Act.put, q13a, q13b, q13c, i64_w, i32_w]; rfl)
       refine take_ (i := 22) (N := some 78) (v := ?_) (a' := ?_) (q13m 36 15187967) rfl rfl (take_ofW HT_.out HW_.out (by kernel_rfl)) (fun _ _ _ h => h) (Or.inl ⟨by rfl, ?_⟩) hHeld ?_ ?_; rotate_left; (rintro w' ⟨s0, s1, s2, s3, s4, s5, s6, s7, s8, s9, s10, s11, s12, s13, s14, s15, s16, s17, s18, s19, s20, s21⟩; go_simp; with_reducible rfl); rotate_left; (simp only [Act.put, q13a, q13b, q13c, i64_w, i32_w]; rfl)
       refine take_ (i := 24) (N := some 80) (v := ?_) (a' := ?_) (q13m 36 31965183) rfl rfl (take_ofW HT_.out HW_.out (by kernel_rfl)) (fun _ _ _ h => h) (Or.inl ⟨by rfl, ?_⟩) hHeld ?_ ?_; rotate_left; (rintro w' ⟨s0, s1, s2, s3, s4, s5, s6, s7, s8, s9, s10, s11, s12, s13, s14, s15, s16, s17, s18, s19, s20, s21⟩; go_simp; with_reducible rfl); rotate_left; (simp only [Act.put, q13a, q13b, q13c, i64_w, i32_w]; rfl)
       refine q13p (i := 25) (N := some 81) (q13m 36 65519615) HT_.out ?_
       refine one_ (i := 14) (N := some 70) (q13m 36 65535999) rfl rfl (one_of HT_.out (by kernel_rfl)) (by decide) (fun K hK => ?_)
       refine goes_ Try.func14 (by kernel_rfl) rfl #[.int .i64 2, .agg #[.int .u64 a0_0, .int .u64 a0_1, .int .u64 a0_2, .string a0_3, .string a0_4, .int .i64 a0_5, .int .i64 a0_6, .int .i64 a0_7, .slice A0_8 l0_8.length c0_8, .slice A0_9 l0_9.length c0_9, .slice A0_10 l0_10.length c0_10]] (by rfl) rfl rfl q13y2 ?_
       with_reducible refine (key_Index.calls k2 2 a0_0 a0_1 a0_2 a0_3 a0_4 a0_5 a0_6 a0_7 _ _ l0_8 _ _ l0_9 _ _ l0_10 t341 _ ?side1 ?side2 ?side3 ?side4 ?side5 ?side6 A83.out).mono ?_
       (case side1 => repeat (first | exact (Kd.C_below HR0_8.out q13y0) | (with_reducible refine Kd.C_alloc ?_ _) | (with_reducible refine Kd.C_drewN ?_ _) | (with_reducible refine Kd.C_drew ?_)))
       (case side2 => exact HC0_8.out)
       (case side3 => repeat (first | exact (Kd.C_below HR0_9.out q13y0) | (with_reducible refine Kd.C_alloc ?_ _) | (with_reducible refine Kd.C_drewN ?_ _) | (with_reducible refine Kd.C_drew ?_)))
       (case side4 => exact HC0_9.out)
       (case side5 => repeat (first | exact (Kd.C_below HR0_10.out q13y0) | (with_reducible refine Kd.C_alloc ?_ _) | (with_reducible refine Kd.C_drewN ?_ _) | (with_reducible refine Kd.C_drew ?_)))
       (case side6 => exact HC0_10.out)
       rintro e w101 ⟨v342, rfl, ho0, hb⟩
       refine ⟨_, rfl, ?_⟩
       have n0_ := Aside0.mk (Kd.R_elder' q13y4 (Kd.R_base ho0) hb)
       have n1_ := Aside0.mk (Kd.V_elder' q13y9 (Kd.R_base ho0) hb)
       have n2_ := Aside0.mk (Kd.R_lower (Kd.R_new' ho0 (Kd.R_lt q13y4)) (below_size q13y0))
       have n3_ := Aside0.mk (blk_below (g := gb317) (o := .cells #[.int .u64 a0_0, .int .u64 a0_1, .int .u64 a0_2, .string a0_3, .string a0_4, .int .i64 a0_5, .int .i64 a0_6, .int .i64 a0_7, .slice A0_8 l0_8.length c0_8, .slice A0_9 l0_9.length c0_9, .slice A0_10 l0_10.length c0_10] 34 (0, 0)) q13y1 hb)
       have n4_ := Aside0.mk (blk_below (g := gb318) (o := .cells #[.int .u64 a1_0, .int .u64 a1_1, .int .u64 a1_2, .string a1_3, .string a1_4, .int .i64 a1_5, .int .i64 a1_6, .int .i64 a1_7, .slice A1_8 l1_8.length c1_8, .slice A1_9 l1_9.length c1_9, .slice A1_10 l1_10.length c1_10] 34 (0, 0)) q13y3 hb)
       have n5_ := Aside0.mk (below_step q13y0 hb)
       clear HO336
       clear HO339
       clear BK317
       clear BK318
       clear HB
       have HO336 := n0_
       have HO339 := n1_
       have HO343 := n2_
       have BK317 := n3_
       have BK318 := n4_
       have HB := n5_
       clear n0_ n1_ n2_ n3_ n4_ n5_
       (try clear hb)
       (try clear hb2)
       (try clear hk)
       (try clear hi)
       (try clear ho0)
       refine hK.out _ _ ⟨q13k BK317.out 0, q13k BK317.out 1, q13k BK317.out 2, q13k BK317.out 3, q13k BK317.out 4, q13k BK317.out 5, q13k BK317.out 6, q13k BK317.out 7, q13k BK317.out 8, q13k BK317.out 9, q13k BK317.out 10, q13k BK318.out 0, q13k BK318.out 1, q13k BK318.out 2, q13k BK318.out 3, q13k BK318.out 4, q13k BK318.out 5, q13k BK318.out 6, q13k BK318.out 7, q13k BK318.out 8, q13k BK318.out 9, q13k BK318.out 10⟩ (fun hHeld => ?_)
       clear hK K
       refine norm_ (a' := ?_) ?_ ?_
       rotate_left
       ·show Act.put _ (some 70) _ = _
        simp only [Act.put, q13a, q13b, q13c, i64_w, i32_w]
        rfl
       refine one_ (i := 19) (N := some 75) (q13m 36 66060287) rfl rfl (one_of HT_.out (by kernel_rfl)) (by decide) (fun K hK => ?_)
       refine goes_ Try.func19 (by kernel_rfl) rfl #[.string a1_3, .string a1_4] (by rfl) rfl rfl q13y2 ?_
       with_reducible refine (key_Operation.calls a1_3 a1_4 t344 _ A84.out).mono ?_
       rintro e w102 ⟨v345, rfl, ho0, hb⟩
       refine ⟨_, rfl, ?_⟩
       have n0_ := Aside0.mk (Kd.R_below q13y4 hb)
       have n1_ := Aside0.mk (Kd.V_below q13y9 hb)
       have n2_ := Aside0.mk (Kd.R_below q13y10 hb)
       have n3_ := Aside0.mk (Kd.V_lower (Kd.V_mono (ok' := fun k_ => some k_ ≠ (.slice Ao99 t334.length co99 : Value).ownBlock ∧ some k_ ≠ (v342 : Value).ownBlock ∧ k_ ≠ gb317 ∧ k_ ≠ gb318) ho0 (fun k_ hk_ => ⟨(Kd.fresh' (Kd.R_lt q13y4) k_ hk_), (Kd.fresh' (Kd.R_lt q13y10) k_ hk_), (Kd.freshB (g := gb317) (o := .cells #[.int .u64 a0_0, .int .u64 a0_1, .int .u64 a0_2, .string a0_3, .string a0_4, .int .i64 a0_5, .int .i64 a0_6, .int .i64 a0_7, .slice A0_8 l0_8.length c0_8, .slice A0_9 l0_9.length c0_9, .slice A0_10 l0_10.length c0_10] 34 (0, 0)) q13y1 k_ hk_), (Kd.freshB (g := gb318) (o := .cells #[.int .u64 a1_0, .int .u64 a1_1, .int .u64 a1_2, .string a1_3, .string a1_4, .int .i64 a1_5, .int .i64 a1_6, .int .i64 a1_7, .slice A1_8 l1_8.length c1_8, .slice A1_9 l1_9.length c1_9, .slice A1_10 l1_10.length c1_10] 34 (0, 0)) q13y3 k_ hk_)⟩)) (below_size q13y0))
       have n4_ := Aside0.mk (blk_below (g := gb317) (o := .cells #[.int .u64 a0_0, .int .u64 a0_1, .int .u64 a0_2, .string a0_3, .string a0_4, .int .i64 a0_5, .int .i64 a0_6, .int .i64 a0_7, .slice A0_8 l0_8.length c0_8, .slice A0_9 l0_9.length c0_9, .slice A0_10 l0_10.length c0_10] 34 (0, 0)) q13y1 hb)
       have n5_ := Aside0.mk (blk_below (g := gb318) (o := .cells #[.int .u64 a1_0, .int .u64 a1_1, .int .u64 a1_2, .string a1_3, .string a1_4, .int .i64 a1_5, .int .i64 a1_6, .int .i64 a1_7, .slice A1_8 l1_8.length c1_8, .slice A1_9 l1_9.length c1_9, .slice A1_10 l1_10.length c1_10] 34 (0, 0)) q13y3 hb)
       have n6_ := Aside0.mk (below_step q13y0 hb)
       clear HO336
       clear HO339
       clear HO343
       clear BK317
       clear BK318
       clear HB
       have HO336 := n0_
       have HO339 := n1_
       have HO343 := n2_
       have HO346 := n3_
       have BK317 := n4_
       have BK318 := n5_
       have HB := n6_
       clear n0_ n1_ n2_ n3_ n4_ n5_ n6_
       (try clear hb)
       (try clear hb2)
       (try clear hk)
       (try clear hi)
       (try clear ho0)
       obtain ⟨Ao103, co103, eo103⟩ := Kd.R_slice HO343.out
       (first | subst eo103 | (injection eo103 with f1_ f2_ f3_; have f4_ := f1_.symm; have f5_ := f3_.symm; clear f1_ f2_ f3_; subst f4_; subst f5_))
       obtain ⟨Ao104, co104, eo104⟩ := Kd.V_slice HO346.out
       (first | subst eo104 | (injection eo104 with f1_ f2_ f3_; have f4_ := f1_.symm; have f5_ := f3_.symm; clear f1_ f2_ f3_; subst f4_; subst f5_))
       refine hK.out _ _ ⟨q13k BK317.out 0, q13k BK317.out 1, q13k BK317.out 2, q13k BK317.out 3, q13k BK317.out 4, q13k BK317.out 5, q13k BK317.out 6, q13k BK317.out 7, q13k BK317.out 8, q13k BK317.out 9, q13k BK317.out 10, q13k BK318.out 0, q13k BK318.out 1, q13k BK318.out 2, q13k BK318.out 3, q13k BK318.out 4, q13k BK318.out 5, q13k BK318.out 6, q13k BK318.out 7, q13k BK318.out 8, q13k BK318.out 9, q13k BK318.out 10⟩ (fun hHeld => ?_)
       clear hK K
       refine norm_ (a' := ?_) ?_ ?_
       rotate_left
       ·show Act.put _ (some 75) _ = _
        simp only [Act.put, q13a, q13b, q13c, i64_w, i32_w]
        rfl
       refine one_ (i := 20) (N := some 76) (q13m 36 67108863) rfl rfl (one_of HT_.out (by kernel_rfl)) (by decide) (fun K hK => ?_)
       refine goes_ Try.func17 (by kernel_rfl) rfl #[.slice Ao103 t341.length co103, .slice Ao104 t344.length co104] (by rfl) rfl rfl q13y2 ?_
       with_reducible refine (cambiumref18_Begins.calls k2 _ _ t341 _ _ t344 t347 _ ?side1 ?side2 ?side3 ?side4 A85.out).mono ?_
       (case side1 => repeat (first | exact (Kd.R_reads' HO343.out).2.2 | (with_reducible refine Kd.C_alloc ?_ _) | (with_reducible refine Kd.C_drewN ?_ _) | (with_reducible refine Kd.C_drew ?_)))
       (case side2 => exact (Kd.R_reads' HO343.out).2.1)
       (case side3 => repeat (first | exact (Kd.V_reads' HO346.out).2.2 | (with_reducible refine Kd.C_alloc ?_ _) | (with_reducible refine Kd.C_drewN ?_ _) | (with_reducible refine Kd.C_drew ?_)))
       (case side4 => exact (Kd.V_reads' HO346.out).2.1)
       rintro e w' ⟨rfl, ⟨nd, rfl⟩⟩
       refine ⟨_, rfl, ?_⟩
       refine hK.out _ _ ⟨q13k BK317.out 0, q13k BK317.out 1, q13k BK317.out 2, q13k BK317.out 3, q13k BK317.out 4, q13k BK317.out 5, q13k BK317.out 6, q13k BK317.out 7, q13k BK317.out 8, q13k BK317.out 9, q13k BK317.out 10, q13k BK318.out 0, q13k BK318.out 1, q13k BK318.out 2, q13k BK318.out 3, q13k BK318.out 4, q13k BK318.out 5, q13k BK318.out 6, q13k BK318.out 7, q13k BK318.out 8, q13k BK318.out 9, q13k BK318.out 10⟩ (fun hHeld => ?_)
       clear hK K
       refine norm_ (a' := ?_) ?_ ?_
       rotate_left
       ·show Act.put _ (some 76) _ = _
        simp only [Act.put, q13a, q13b, q13c, i64_w, i32_w]
        rfl
       refine q13p (i := 26) (N := some 82) (q13m 36 134217727) HT_.out ?_
       refine q13u (i := 27) (N := some 83) (q13m 36 268435455) HT_.out ?_
       refine q13u (i := 28) (N := some 84) (q13m 36 536870911) HT_.out ?_
       refine q13u (i := 29) (N := some 85) (q13m 36 1073741823) HT_.out ?_
       refine q13u (i := 30) (N := some 86) (q13m 36 2147483647) HT_.out ?_
       refine q13u (i := 31) (N := some 87) (q13m 36 4294967295) HT_.out ?_
       refine q13p (i := 32) (N := some 88) (q13m 36 8589934591) HT_.out ?_
       refine q13p (i := 33) (N := some 89) (q13m 36 17179869183) HT_.out ?_
       refine q13p (i := 34) (N := some 90) (q13m 36 34359738367) HT_.out ?_
       refine q13p (i := 35) (N := some 4) (q13m 36 68719476735) HT_.out ?_
       refine done_ (done_of HT_.out (by kernel_rfl)) ?_
       try go_wp2
       go_ret
       exact ⟨by first | rfl | (simp [errW_none, errW_some] <;> rfl) | (simp [*, errW_none, errW_some] <;> rfl), by repeat (first | (with_reducible first | exact HB.out | apply below_alloc | apply pw_below_drewN | apply below_drew1 | refine below_set ?_ GE317.out | refine below_set ?_ GE318.out) | exact HB.out)⟩
     rw [if_pos c86] at H
     have c86b0 : (a0_3.toList == a1_3.toList) = true := beq_iff_eq.mpr c86
     have c86b1 : (a0_3.toList != a1_3.toList) = false := bne_eq_false_iff_eq.mpr c86
     have tt_ : t340 = true := by simpa [c86b0] using c82b0
     clear c86
     obtain rfl := Option.some.inj H
     try go_wp2
     have n0_ := Aside0.mk (blk_drew BK317.out)
     have n1_ := Aside0.mk (blk_drew BK318.out)
     have n2_ := Aside0.mk (below_drew1 HB.out)
     clear BK317
     clear BK318
     clear HB
     have BK317 := n0_
     have BK318 := n1_
     have HB := n2_
     clear n0_ n1_ n2_
     as_aux_lemma =>
      refine start_ (n := 36) (S := fun w' => w'.cell? ⟨gb317, 0, none⟩ = some (.int .u64 a0_0) ∧ w'.cell? ⟨gb317, 1, none⟩ = some (.int .u64 a0_1) ∧ w'.cell? ⟨gb317, 2, none⟩ = some (.int .u64 a0_2) ∧ w'.cell? ⟨gb317, 3, none⟩ = some (.string a0_3) ∧ w'.cell? ⟨gb317, 4, none⟩ = some (.string a0_4) ∧ w'.cell? ⟨gb317, 5, none⟩ = some (.int .i64 a0_5) ∧ w'.cell? ⟨gb317, 6, none⟩ = some (.int .i64 a0_6) ∧ w'.cell? ⟨gb317, 7, none⟩ = some (.int .i64 a0_7) ∧ w'.cell? ⟨gb317, 8, none⟩ = some (.slice A0_8 l0_8.length c0_8) ∧ w'.cell? ⟨gb317, 9, none⟩ = some (.slice A0_9 l0_9.length c0_9) ∧ w'.cell? ⟨gb317, 10, none⟩ = some (.slice A0_10 l0_10.length c0_10) ∧ w'.cell? ⟨gb318, 0, none⟩ = some (.int .u64 a1_0) ∧ w'.cell? ⟨gb318, 1, none⟩ = some (.int .u64 a1_1) ∧ w'.cell? ⟨gb318, 2, none⟩ = some (.int .u64 a1_2) ∧ w'.cell? ⟨gb318, 3, none⟩ = some (.string a1_3) ∧ w'.cell? ⟨gb318, 4, none⟩ = some (.string a1_4) ∧ w'.cell? ⟨gb318, 5, none⟩ = some (.int .i64 a1_5) ∧ w'.cell? ⟨gb318, 6, none⟩ = some (.int .i64 a1_6) ∧ w'.cell? ⟨gb318, 7, none⟩ = some (.int .i64 a1_7) ∧ w'.cell? ⟨gb318, 8, none⟩ = some (.slice A1_8 l1_8.length c1_8) ∧ w'.cell? ⟨gb318, 9, none⟩ = some (.slice A1_9 l1_9.length c1_9) ∧ w'.cell? ⟨gb318, 10, none⟩ = some (.slice A1_10 l1_10.length c1_10)) (ds := []) #[false, false, false, false, false, false, false, false, false, false, false, false, false, false, false, false, false, false, false, false, false, false, false, false, false, false, false, false, false, false, false, false, false, false, false, false] (by kernel_rfl) rfl rfl ⟨q13k BK317.out 0, q13k BK317.out 1, q13k BK317.out 2, q13k BK317.out 3, q13k BK317.out 4, q13k BK317.out 5, q13k BK317.out 6, q13k BK317.out 7, q13k BK317.out 8, q13k BK317.out 9, q13k BK317.out 10, q13k BK318.out 0, q13k BK318.out 1, q13k BK318.out 2, q13k BK318.out 3, q13k BK318.out 4, q13k BK318.out 5, q13k BK318.out 6, q13k BK318.out 7, q13k BK318.out 8, q13k BK318.out 9, q13k BK318.out 10⟩ (fun hHeld => ?_); refine with_tabW cambiumlaw18_KeyOrder.tab12 cambiumlaw18_KeyOrder.bits12 (fun HT_ HW_ => ?_)
      generalize wr.drew = w87 at BK317 BK318 HB hHeld ⊢
      refine q13p (i := 2) (N := some 58) (q13m 36 4) HT_.out ?_
      refine q13p (i := 6) (N := some 62) (q13m 36 68) HT_.out ?_
      refine q13p (i := 8) (N := some 64) (q13m 36 324) HT_.out ?_
      refine take_ (i := 0) (N := some 56) (v := ?_) (a' := ?_) (q13m 36 325) rfl rfl (take_ofW HT_.out HW_.out (by kernel_rfl)) (fun _ _ _ h => h) (Or.inl ⟨by rfl, ?_⟩) hHeld ?_ ?_; rotate_left; (rintro w' ⟨s0, s1, s2, s3, s4, s5, s6, s7, s8, s9, s10, s11, s12, s13, s14, s15, s16, s17, s18, s19, s20, s21⟩; go_simp; with_reducible rfl); rotate_left; (simp only [Act.put, q13a, q13b, q13c, i64_w, i32_w]; rfl)
      refine take_ (i := 3) (N := some 59) (v := ?_) (a' := ?_) (q13m 36 333) rfl rfl (take_ofW HT_.out HW_.out (by kernel_rfl)) (fun _ _ _ h => h) (Or.inl ⟨by rfl, ?_⟩) hHeld ?_ ?_; rotate_left; (rintro w' ⟨s0, s1, s2, s3, s4, s5, s6, s7, s8, s9, s10, s11, s12, s13, s14, s15, s16, s17, s18, s19, s20, s21⟩; go_simp; with_reducible rfl); rotate_left; (simp only [Act.put, q13a, q13b, q13c, i64_w, i32_w]; rfl)
      refine take_ (i := 7) (N := some 63) (v := ?_) (a' := ?_) (q13m 36 461) rfl rfl (take_ofW HT_.out HW_.out (by kernel_rfl)) (fun _ _ _ h => h) (Or.inl ⟨by rfl, ?_⟩) hHeld ?_ ?_; rotate_left; (rintro w' ⟨s0, s1, s2, s3, s4, s5, s6, s7, s8, s9, s10, s11, s12, s13, s14, s15, s16, s17, s18, s19, s20, s21⟩; go_simp; with_reducible rfl); rotate_left; (simp only [Act.put, q13a, q13b, q13c, i64_w, i32_w]; rfl)
      refine take_ (i := 9) (N := some 65) (v := ?_) (a' := ?_) (q13m 36 973) rfl rfl (take_ofW HT_.out HW_.out (by kernel_rfl)) (fun _ _ _ h => h) (Or.inl ⟨by rfl, ?_⟩) hHeld ?_ ?_; rotate_left; (rintro w' ⟨s0, s1, s2, s3, s4, s5, s6, s7, s8, s9, s10, s11, s12, s13, s14, s15, s16, s17, s18, s19, s20, s21⟩; go_simp; with_reducible rfl); rotate_left; (simp only [Act.put, q13a, q13b, q13c, i64_w, i32_w]; rfl)
      refine q13p (i := 10) (N := some 66) (q13m 36 1997) HT_.out ?_
      refine one_ (i := 1) (N := some 57) (q13m 36 1999) rfl rfl (one_of HT_.out (by kernel_rfl)) (by decide) (fun K hK => ?_)
      refine goes_ Try.func14 (by kernel_rfl) rfl #[.int .i64 1, .agg #[.int .u64 a0_0, .int .u64 a0_1, .int .u64 a0_2, .string a0_3, .string a0_4, .int .i64 a0_5, .int .i64 a0_6, .int .i64 a0_7, .slice A0_8 l0_8.length c0_8, .slice A0_9 l0_9.length c0_9, .slice A0_10 l0_10.length c0_10]] (by rfl) rfl rfl q13y2 ?_
      with_reducible refine (key_Index.calls k2 1 a0_0 a0_1 a0_2 a0_3 a0_4 a0_5 a0_6 a0_7 _ _ l0_8 _ _ l0_9 _ _ l0_10 t334 _ ?side1 ?side2 ?side3 ?side4 ?side5 ?side6 A79.out).mono ?_
      (case side1 => repeat (first | exact (Kd.C_below HR0_8.out HB.out) | (with_reducible refine Kd.C_alloc ?_ _) | (with_reducible refine Kd.C_drewN ?_ _) | (with_reducible refine Kd.C_drew ?_)))
      (case side2 => exact HC0_8.out)
      (case side3 => repeat (first | exact (Kd.C_below HR0_9.out HB.out) | (with_reducible refine Kd.C_alloc ?_ _) | (with_reducible refine Kd.C_drewN ?_ _) | (with_reducible refine Kd.C_drew ?_)))
      (case side4 => exact HC0_9.out)
      (case side5 => repeat (first | exact (Kd.C_below HR0_10.out HB.out) | (with_reducible refine Kd.C_alloc ?_ _) | (with_reducible refine Kd.C_drewN ?_ _) | (with_reducible refine Kd.C_drew ?_)))
      (case side6 => exact HC0_10.out)
      rintro e w88 ⟨v335, rfl, ho0, hb⟩
      refine ⟨_, rfl, ?_⟩
      have n0_ := Aside0.mk (Kd.R_lower ho0 (below_size q13y0))
      have n1_ := Aside0.mk (blk_below (g := gb317) (o := .cells #[.int .u64 a0_0, .int .u64 a0_1, .int .u64 a0_2, .string a0_3, .string a0_4, .int .i64 a0_5, .int .i64 a0_6, .int .i64 a0_7, .slice A0_8 l0_8.length c0_8, .slice A0_9 l0_9.length c0_9, .slice A0_10 l0_10.length c0_10] 34 (0, 0)) q13y1 hb)
      have n2_ := Aside0.mk (blk_below (g := gb318) (o := .cells #[.int .u64 a1_0, .int .u64 a1_1, .int .u64 a1_2, .string a1_3, .string a1_4, .int .i64 a1_5, .int .i64 a1_6, .int .i64 a1_7, .slice A1_8 l1_8.length c1_8, .slice A1_9 l1_9.length c1_9, .slice A1_10 l1_10.length c1_10] 34 (0, 0)) q13y3 hb)
      have n3_ := Aside0.mk (below_step q13y0 hb)
      clear BK317
      clear BK318
      clear HB
      have HO336 := n0_
      have BK317 := n1_
      have BK318 := n2_
      have HB := n3_
      clear n0_ n1_ n2_ n3_
      (try clear hb)
      (try clear hb2)
      (try clear hk)
      (try clear hi)
      (try clear ho0)
      refine hK.out _ _ ⟨q13k BK317.out 0, q13k BK317.out 1, q13k BK317.out 2, q13k BK317.out 3, q13k BK317.out 4, q13k BK317.out 5, q13k BK317.out 6, q13k BK317.out 7, q13k BK317.out 8, q13k BK317.out 9, q13k BK317.out 10, q13k BK318.out 0, q13k BK318.out 1, q13k BK318.out 2, q13k BK318.out 3, q13k BK318.out 4, q13k BK318.out 5, q13k BK318.out 6, q13k BK318.out 7, q13k BK318.out 8, q13k BK318.out 9, q13k BK318.out 10⟩ (fun hHeld => ?_)
      clear hK K
      refine norm_ (a' := ?_) ?_ ?_
      rotate_left
      ·show Act.put _ (some 57) _ = _
       simp only [Act.put, q13a, q13b, q13c, i64_w, i32_w]
       rfl
      refine one_ (i := 4) (N := some 60) (q13m 36 2015) rfl rfl (one_of HT_.out (by kernel_rfl)) (by decide) (fun K hK => ?_)
      refine goes_ Try.func18 (by kernel_rfl) rfl #[.string a1_3] (by rfl) rfl rfl q13y2 ?_
      with_reducible refine (key_Service.calls a1_3 t337 _ A80.out).mono ?_
      rintro e w89 ⟨v338, rfl, ho0, hb⟩
      refine ⟨_, rfl, ?_⟩
      have n0_ := Aside0.mk (Kd.R_below q13y4 hb)
      have n1_ := Aside0.mk (Kd.V_lower (Kd.V_mono (ok' := fun k_ => some k_ ≠ (v335 : Value).ownBlock ∧ k_ ≠ gb317 ∧ k_ ≠ gb318) ho0 (fun k_ hk_ => ⟨(Kd.fresh' (Kd.R_lt q13y4) k_ hk_), (Kd.freshB (g := gb317) (o := .cells #[.int .u64 a0_0, .int .u64 a0_1, .int .u64 a0_2, .string a0_3, .string a0_4, .int .i64 a0_5, .int .i64 a0_6, .int .i64 a0_7, .slice A0_8 l0_8.length c0_8, .slice A0_9 l0_9.length c0_9, .slice A0_10 l0_10.length c0_10] 34 (0, 0)) q13y1 k_ hk_), (Kd.freshB (g := gb318) (o := .cells #[.int .u64 a1_0, .int .u64 a1_1, .int .u64 a1_2, .string a1_3, .string a1_4, .int .i64 a1_5, .int .i64 a1_6, .int .i64 a1_7, .slice A1_8 l1_8.length c1_8, .slice A1_9 l1_9.length c1_9, .slice A1_10 l1_10.length c1_10] 34 (0, 0)) q13y3 k_ hk_)⟩)) (below_size q13y0))
      have n2_ := Aside0.mk (blk_below (g := gb317) (o := .cells #[.int .u64 a0_0, .int .u64 a0_1, .int .u64 a0_2, .string a0_3, .string a0_4, .int .i64 a0_5, .int .i64 a0_6, .int .i64 a0_7, .slice A0_8 l0_8.length c0_8, .slice A0_9 l0_9.length c0_9, .slice A0_10 l0_10.length c0_10] 34 (0, 0)) q13y1 hb)
      have n3_ := Aside0.mk (blk_below (g := gb318) (o := .cells #[.int .u64 a1_0, .int .u64 a1_1, .int .u64 a1_2, .string a1_3, .string a1_4, .int .i64 a1_5, .int .i64 a1_6, .int .i64 a1_7, .slice A1_8 l1_8.length c1_8, .slice A1_9 l1_9.length c1_9, .slice A1_10 l1_10.length c1_10] 34 (0, 0)) q13y3 hb)
      have n4_ := Aside0.mk (below_step q13y0 hb)
      clear HO336
      clear BK317
      clear BK318
      clear HB
      have HO336 := n0_
      have HO339 := n1_
      have BK317 := n2_
      have BK318 := n3_
      have HB := n4_
      clear n0_ n1_ n2_ n3_ n4_
      (try clear hb)
      (try clear hb2)
      (try clear hk)
      (try clear hi)
      (try clear ho0)
      obtain ⟨Ao90, co90, eo90⟩ := Kd.R_slice HO336.out
      (first | subst eo90 | (injection eo90 with f1_ f2_ f3_; have f4_ := f1_.symm; have f5_ := f3_.symm; clear f1_ f2_ f3_; subst f4_; subst f5_))
      obtain ⟨Ao91, co91, eo91⟩ := Kd.V_slice HO339.out
      (first | subst eo91 | (injection eo91 with f1_ f2_ f3_; have f4_ := f1_.symm; have f5_ := f3_.symm; clear f1_ f2_ f3_; subst f4_; subst f5_))
      refine hK.out _ _ ⟨q13k BK317.out 0, q13k BK317.out 1, q13k BK317.out 2, q13k BK317.out 3, q13k BK317.out 4, q13k BK317.out 5, q13k BK317.out 6, q13k BK317.out 7, q13k BK317.out 8, q13k BK317.out 9, q13k BK317.out 10, q13k BK318.out 0, q13k BK318.out 1, q13k BK318.out 2, q13k BK318.out 3, q13k BK318.out 4, q13k BK318.out 5, q13k BK318.out 6, q13k BK318.out 7, q13k BK318.out 8, q13k BK318.out 9, q13k BK318.out 10⟩ (fun hHeld => ?_)
      clear hK K
      refine norm_ (a' := ?_) ?_ ?_
      rotate_left
      ·show Act.put _ (some 60) _ = _
       simp only [Act.put, q13a, q13b, q13c, i64_w, i32_w]
       rfl
      refine one_ (i := 5) (N := some 61) (q13m 36 2047) rfl rfl (one_of HT_.out (by kernel_rfl)) (by decide) (fun K hK => ?_)
      refine goes_ Try.func17 (by kernel_rfl) rfl #[.slice Ao90 t334.length co90, .slice Ao91 t337.length co91] (by rfl) rfl rfl q13y2 ?_
      with_reducible refine (cambiumref18_Begins.calls k2 _ _ t334 _ _ t337 t340 _ ?side1 ?side2 ?side3 ?side4 A81.out).mono ?_
      (case side1 => repeat (first | exact (Kd.R_reads' HO336.out).2.2 | (with_reducible refine Kd.C_alloc ?_ _) | (with_reducible refine Kd.C_drewN ?_ _) | (with_reducible refine Kd.C_drew ?_)))
      (case side2 => exact (Kd.R_reads' HO336.out).2.1)
      (case side3 => repeat (first | exact (Kd.V_reads' HO339.out).2.2 | (with_reducible refine Kd.C_alloc ?_ _) | (with_reducible refine Kd.C_drewN ?_ _) | (with_reducible refine Kd.C_drew ?_)))
      (case side4 => exact (Kd.V_reads' HO339.out).2.1)
      rintro e w' ⟨rfl, ⟨nd, rfl⟩⟩
      refine ⟨_, rfl, ?_⟩
      refine hK.out _ _ ⟨q13k BK317.out 0, q13k BK317.out 1, q13k BK317.out 2, q13k BK317.out 3, q13k BK317.out 4, q13k BK317.out 5, q13k BK317.out 6, q13k BK317.out 7, q13k BK317.out 8, q13k BK317.out 9, q13k BK317.out 10, q13k BK318.out 0, q13k BK318.out 1, q13k BK318.out 2, q13k BK318.out 3, q13k BK318.out 4, q13k BK318.out 5, q13k BK318.out 6, q13k BK318.out 7, q13k BK318.out 8, q13k BK318.out 9, q13k BK318.out 10⟩ (fun hHeld => ?_)
      clear hK K
      refine norm_ (a' := ?_) ?_ ?_
      rotate_left
      ·show Act.put _ (some 61) _ = _
       simp only [Act.put, q13a, q13b, q13c, i64_w, i32_w]
       rfl
      refine q13p (i := 11) (N := some 67) (q13m 36 4095) HT_.out ?_
      refine q13p (i := 12) (N := some 68) (q13m 36 8191) HT_.out ?_
      refine q13p (i := 15) (N := some 71) (q13m 36 40959) HT_.out ?_
      refine q13p (i := 17) (N := some 73) (q13m 36 172031) HT_.out ?_
      refine q13p (i := 21) (N := some 77) (q13m 36 2269183) HT_.out ?_
      refine q13p (i := 23) (N := some 79) (q13m 36 10657791) HT_.out ?_
      refine take_ (i := 13) (N := some 69) (v := ?_) (a' := ?_) (q13m 36 10665983) rfl rfl (take_ofW HT_.out HW_.out (by kernel_rfl)) (fun _ _ _ h => h) (Or.inl ⟨by rfl, ?_⟩) hHeld ?_ ?_; rotate_left; (rintro w' ⟨s0, s1, s2, s3, s4, s5, s6, s7, s8, s9, s10, s11, s12, s13, s14, s15, s16, s17, s18, s19, s20, s21⟩; go_simp; with_reducible rfl); rotate_left; (simp only [Act.put, q13a, q13b, q13c, i64_w, i32_w]; rfl)
      refine take_ (i := 16) (N := some 72) (v := ?_) (a' := ?_) (q13m 36 10731519) rfl rfl (take_ofW HT_.out HW_.out (by kernel_rfl)) (fun _ _ _ h => h) (Or.inl ⟨by rfl, ?_⟩) hHeld ?_ ?_; rotate_left; (rintro w' ⟨s0, s1, s2, s3, s4, s5, s6, s7, s8, s9, s10, s11, s12, s13, s14, s15, s16, s17, s18, s19, s20, s21⟩; go_simp; with_reducible rfl); rotate_left; (simp only [Act.put, q13a, q13b, q13c, i64_w, i32_w]; rfl)
      refine take_ (i := 18) (N := some 74) (v := ?_) (a' := ?_) (q13m 36 10993663) rfl rfl (take_ofW HT_.out HW_.out (by kernel_rfl)) (fun _ _ _ h => h) (Or.inl ⟨by rfl, ?_⟩) hHeld ?_ ?_; rotate_left; (rintro w' ⟨s0, s1, s2, s3, s4, s5, s6, s7, s8, s9, s10, s11, s12, s13, s14, s15, s16, s17, s18, s19, s20, s21⟩; go_simp; with_reducible rfl); rotate_left; (simp only [Act.put, q13a, q13b, q13c, i64_w, i32_w]; rfl)
      refine take_ (i := 22) (N := some 78) (v := ?_) (a' := ?_) (q13m 36 15187967) rfl rfl (take_ofW HT_.out HW_.out (by kernel_rfl)) (fun _ _ _ h => h) (Or.inl ⟨by rfl, ?_⟩) hHeld ?_ ?_; rotate_left; (rintro w' ⟨s0, s1, s2, s3, s4, s5, s6, s7, s8, s9, s10, s11, s12, s13, s14, s15, s16, s17, s18, s19, s20, s21⟩; go_simp; with_reducible rfl); rotate_left; (simp only [Act.put, q13a, q13b, q13c, i64_w, i32_w]; rfl)
      refine take_ (i := 24) (N := some 80) (v := ?_) (a' := ?_) (q13m 36 31965183) rfl rfl (take_ofW HT_.out HW_.out (by kernel_rfl)) (fun _ _ _ h => h) (Or.inl ⟨by rfl, ?_⟩) hHeld ?_ ?_; rotate_left; (rintro w' ⟨s0, s1, s2, s3, s4, s5, s6, s7, s8, s9, s10, s11, s12, s13, s14, s15, s16, s17, s18, s19, s20, s21⟩; go_simp; with_reducible rfl); rotate_left; (simp only [Act.put, q13a, q13b, q13c, i64_w, i32_w]; rfl)
      refine q13p (i := 25) (N := some 81) (q13m 36 65519615) HT_.out ?_
      refine one_ (i := 14) (N := some 70) (q13m 36 65535999) rfl rfl (one_of HT_.out (by kernel_rfl)) (by decide) (fun K hK => ?_)
      refine goes_ Try.func14 (by kernel_rfl) rfl #[.int .i64 2, .agg #[.int .u64 a0_0, .int .u64 a0_1, .int .u64 a0_2, .string a0_3, .string a0_4, .int .i64 a0_5, .int .i64 a0_6, .int .i64 a0_7, .slice A0_8 l0_8.length c0_8, .slice A0_9 l0_9.length c0_9, .slice A0_10 l0_10.length c0_10]] (by rfl) rfl rfl q13y2 ?_
      with_reducible refine (key_Index.calls k2 2 a0_0 a0_1 a0_2 a0_3 a0_4 a0_5 a0_6 a0_7 _ _ l0_8 _ _ l0_9 _ _ l0_10 t341 _ ?side1 ?side2 ?side3 ?side4 ?side5 ?side6 A83.out).mono ?_
      (case side1 => repeat (first | exact (Kd.C_below HR0_8.out q13y0) | (with_reducible refine Kd.C_alloc ?_ _) | (with_reducible refine Kd.C_drewN ?_ _) | (with_reducible refine Kd.C_drew ?_)))
      (case side2 => exact HC0_8.out)
      (case side3 => repeat (first | exact (Kd.C_below HR0_9.out q13y0) | (with_reducible refine Kd.C_alloc ?_ _) | (with_reducible refine Kd.C_drewN ?_ _) | (with_reducible refine Kd.C_drew ?_)))
      (case side4 => exact HC0_9.out)
      (case side5 => repeat (first | exact (Kd.C_below HR0_10.out q13y0) | (with_reducible refine Kd.C_alloc ?_ _) | (with_reducible refine Kd.C_drewN ?_ _) | (with_reducible refine Kd.C_drew ?_)))
      (case side6 => exact HC0_10.out)
      rintro e w92 ⟨v342, rfl, ho0, hb⟩
      refine ⟨_, rfl, ?_⟩
      have n0_ := Aside0.mk (Kd.R_elder' q13y4 (Kd.R_base ho0) hb)
      have n1_ := Aside0.mk (Kd.V_elder' q13y9 (Kd.R_base ho0) hb)
      have n2_ := Aside0.mk (Kd.R_lower (Kd.R_new' ho0 (Kd.R_lt q13y4)) (below_size q13y0))
      have n3_ := Aside0.mk (blk_below (g := gb317) (o := .cells #[.int .u64 a0_0, .int .u64 a0_1, .int .u64 a0_2, .string a0_3, .string a0_4, .int .i64 a0_5, .int .i64 a0_6, .int .i64 a0_7, .slice A0_8 l0_8.length c0_8, .slice A0_9 l0_9.length c0_9, .slice A0_10 l0_10.length c0_10] 34 (0, 0)) q13y1 hb)
      have n4_ := Aside0.mk (blk_below (g := gb318) (o := .cells #[.int .u64 a1_0, .int .u64 a1_1, .int .u64 a1_2, .string a1_3, .string a1_4, .int .i64 a1_5, .int .i64 a1_6, .int .i64 a1_7, .slice A1_8 l1_8.length c1_8, .slice A1_9 l1_9.length c1_9, .slice A1_10 l1_10.length c1_10] 34 (0, 0)) q13y3 hb)
      have n5_ := Aside0.mk (below_step q13y0 hb)
      clear HO336
      clear HO339
      clear BK317
      clear BK318
      clear HB
      have HO336 := n0_
      have HO339 := n1_
      have HO343 := n2_
      have BK317 := n3_
      have BK318 := n4_
      have HB := n5_
      clear n0_ n1_ n2_ n3_ n4_ n5_
      (try clear hb)
      (try clear hb2)
      (try clear hk)
      (try clear hi)
      (try clear ho0)
      refine hK.out _ _ ⟨q13k BK317.out 0, q13k BK317.out 1, q13k BK317.out 2, q13k BK317.out 3, q13k BK317.out 4, q13k BK317.out 5, q13k BK317.out 6, q13k BK317.out 7, q13k BK317.out 8, q13k BK317.out 9, q13k BK317.out 10, q13k BK318.out 0, q13k BK318.out 1, q13k BK318.out 2, q13k BK318.out 3, q13k BK318.out 4, q13k BK318.out 5, q13k BK318.out 6, q13k BK318.out 7, q13k BK318.out 8, q13k BK318.out 9, q13k BK318.out 10⟩ (fun hHeld => ?_)
      clear hK K
      refine norm_ (a' := ?_) ?_ ?_
      rotate_left
      ·show Act.put _ (some 70) _ = _
       simp only [Act.put, q13a, q13b, q13c, i64_w, i32_w]
       rfl
      refine one_ (i := 19) (N := some 75) (q13m 36 66060287) rfl rfl (one_of HT_.out (by kernel_rfl)) (by decide) (fun K hK => ?_)
      refine goes_ Try.func19 (by kernel_rfl) rfl #[.string a1_3, .string a1_4] (by rfl) rfl rfl q13y2 ?_
      with_reducible refine (key_Operation.calls a1_3 a1_4 t344 _ A84.out).mono ?_
      rintro e w93 ⟨v345, rfl, ho0, hb⟩
      refine ⟨_, rfl, ?_⟩
      have n0_ := Aside0.mk (Kd.R_below q13y4 hb)
      have n1_ := Aside0.mk (Kd.V_below q13y9 hb)
      have n2_ := Aside0.mk (Kd.R_below q13y10 hb)
      have n3_ := Aside0.mk (Kd.V_lower (Kd.V_mono (ok' := fun k_ => some k_ ≠ (.slice Ao90 t334.length co90 : Value).ownBlock ∧ some k_ ≠ (v342 : Value).ownBlock ∧ k_ ≠ gb317 ∧ k_ ≠ gb318) ho0 (fun k_ hk_ => ⟨(Kd.fresh' (Kd.R_lt q13y4) k_ hk_), (Kd.fresh' (Kd.R_lt q13y10) k_ hk_), (Kd.freshB (g := gb317) (o := .cells #[.int .u64 a0_0, .int .u64 a0_1, .int .u64 a0_2, .string a0_3, .string a0_4, .int .i64 a0_5, .int .i64 a0_6, .int .i64 a0_7, .slice A0_8 l0_8.length c0_8, .slice A0_9 l0_9.length c0_9, .slice A0_10 l0_10.length c0_10] 34 (0, 0)) q13y1 k_ hk_), (Kd.freshB (g := gb318) (o := .cells #[.int .u64 a1_0, .int .u64 a1_1, .int .u64 a1_2, .string a1_3, .string a1_4, .int .i64 a1_5, .int .i64 a1_6, .int .i64 a1_7, .slice A1_8 l1_8.length c1_8, .slice A1_9 l1_9.length c1_9, .slice A1_10 l1_10.length c1_10] 34 (0, 0)) q13y3 k_ hk_)⟩)) (below_size q13y0))
      have n4_ := Aside0.mk (blk_below (g := gb317) (o := .cells #[.int .u64 a0_0, .int .u64 a0_1, .int .u64 a0_2, .string a0_3, .string a0_4, .int .i64 a0_5, .int .i64 a0_6, .int .i64 a0_7, .slice A0_8 l0_8.length c0_8, .slice A0_9 l0_9.length c0_9, .slice A0_10 l0_10.length c0_10] 34 (0, 0)) q13y1 hb)
      have n5_ := Aside0.mk (blk_below (g := gb318) (o := .cells #[.int .u64 a1_0, .int .u64 a1_1, .int .u64 a1_2, .string a1_3, .string a1_4, .int .i64 a1_5, .int .i64 a1_6, .int .i64 a1_7, .slice A1_8 l1_8.length c1_8, .slice A1_9 l1_9.length c1_9, .slice A1_10 l1_10.length c1_10] 34 (0, 0)) q13y3 hb)
      have n6_ := Aside0.mk (below_step q13y0 hb)
      clear HO336
      clear HO339
      clear HO343
      clear BK317
      clear BK318
      clear HB
      have HO336 := n0_
      have HO339 := n1_
      have HO343 := n2_
      have HO346 := n3_
      have BK317 := n4_
      have BK318 := n5_
      have HB := n6_
      clear n0_ n1_ n2_ n3_ n4_ n5_ n6_
      (try clear hb)
      (try clear hb2)
      (try clear hk)
      (try clear hi)
      (try clear ho0)
      obtain ⟨Ao94, co94, eo94⟩ := Kd.R_slice HO343.out
      (first | subst eo94 | (injection eo94 with f1_ f2_ f3_; have f4_ := f1_.symm; have f5_ := f3_.symm; clear f1_ f2_ f3_; subst f4_; subst f5_))
      obtain ⟨Ao95, co95, eo95⟩ := Kd.V_slice HO346.out
      (first | subst eo95 | (injection eo95 with f1_ f2_ f3_; have f4_ := f1_.symm; have f5_ := f3_.symm; clear f1_ f2_ f3_; subst f4_; subst f5_))
      refine hK.out _ _ ⟨q13k BK317.out 0, q13k BK317.out 1, q13k BK317.out 2, q13k BK317.out 3, q13k BK317.out 4, q13k BK317.out 5, q13k BK317.out 6, q13k BK317.out 7, q13k BK317.out 8, q13k BK317.out 9, q13k BK317.out 10, q13k BK318.out 0, q13k BK318.out 1, q13k BK318.out 2, q13k BK318.out 3, q13k BK318.out 4, q13k BK318.out 5, q13k BK318.out 6, q13k BK318.out 7, q13k BK318.out 8, q13k BK318.out 9, q13k BK318.out 10⟩ (fun hHeld => ?_)
      clear hK K
      refine norm_ (a' := ?_) ?_ ?_
      rotate_left
      ·show Act.put _ (some 75) _ = _
       simp only [Act.put, q13a, q13b, q13c, i64_w, i32_w]
       rfl
      refine one_ (i := 20) (N := some 76) (q13m 36 67108863) rfl rfl (one_of HT_.out (by kernel_rfl)) (by decide) (fun K hK => ?_)
      refine goes_ Try.func17 (by kernel_rfl) rfl #[.slice Ao94 t341.length co94, .slice Ao95 t344.length co95] (by rfl) rfl rfl q13y2 ?_
      with_reducible refine (cambiumref18_Begins.calls k2 _ _ t341 _ _ t344 t347 _ ?side1 ?side2 ?side3 ?side4 A85.out).mono ?_
      (case side1 => repeat (first | exact (Kd.R_reads' HO343.out).2.2 | (with_reducible refine Kd.C_alloc ?_ _) | (with_reducible refine Kd.C_drewN ?_ _) | (with_reducible refine Kd.C_drew ?_)))
      (case side2 => exact (Kd.R_reads' HO343.out).2.1)
      (case side3 => repeat (first | exact (Kd.V_reads' HO346.out).2.2 | (with_reducible refine Kd.C_alloc ?_ _) | (with_reducible refine Kd.C_drewN ?_ _) | (with_reducible refine Kd.C_drew ?_)))
      (case side4 => exact (Kd.V_reads' HO346.out).2.1)
      rintro e w' ⟨rfl, ⟨nd, rfl⟩⟩
      refine ⟨_, rfl, ?_⟩
      refine hK.out _ _ ⟨q13k BK317.out 0, q13k BK317.out 1, q13k BK317.out 2, q13k BK317.out 3, q13k BK317.out 4, q13k BK317.out 5, q13k BK317.out 6, q13k BK317.out 7, q13k BK317.out 8, q13k BK317.out 9, q13k BK317.out 10, q13k BK318.out 0, q13k BK318.out 1, q13k BK318.out 2, q13k BK318.out 3, q13k BK318.out 4, q13k BK318.out 5, q13k BK318.out 6, q13k BK318.out 7, q13k BK318.out 8, q13k BK318.out 9, q13k BK318.out 10⟩ (fun hHeld => ?_)
      clear hK K
      refine norm_ (a' := ?_) ?_ ?_
      rotate_left
      ·show Act.put _ (some 76) _ = _
       simp only [Act.put, q13a, q13b, q13c, i64_w, i32_w]
       rfl
      refine q13p (i := 26) (N := some 82) (q13m 36 134217727) HT_.out ?_
      refine q13p (i := 27) (N := some 83) (q13m 36 268435455) HT_.out ?_
      refine q13p (i := 29) (N := some 85) (q13m 36 805306367) HT_.out ?_
      refine take_ (i := 28) (N := some 84) (v := ?_) (a' := ?_) (q13m 36 1073741823) rfl rfl (take_ofW HT_.out HW_.out (by kernel_rfl)) (fun _ _ _ h => h) (Or.inl ⟨by rfl, ?_⟩) hHeld ?_ ?_; rotate_left; (rintro w' ⟨s0, s1, s2, s3, s4, s5, s6, s7, s8, s9, s10, s11, s12, s13, s14, s15, s16, s17, s18, s19, s20, s21⟩; go_simp; with_reducible rfl); rotate_left; (simp only [Act.put, q13a, q13b, q13c, i64_w, i32_w]; rfl)
      refine take_ (i := 30) (N := some 86) (v := ?_) (a' := ?_) (q13m 36 2147483647) rfl rfl (take_ofW HT_.out HW_.out (by kernel_rfl)) (fun _ _ _ h => h) (Or.inl ⟨by rfl, ?_⟩) hHeld ?_ ?_; rotate_left; (rintro w' ⟨s0, s1, s2, s3, s4, s5, s6, s7, s8, s9, s10, s11, s12, s13, s14, s15, s16, s17, s18, s19, s20, s21⟩; go_simp; with_reducible rfl); rotate_left; (simp only [Act.put, q13a, q13b, q13c, i64_w, i32_w]; rfl)
      refine q13p (i := 31) (N := some 87) (q13m 36 4294967295) HT_.out ?_
      refine q13p (i := 32) (N := some 88) (q13m 36 8589934591) HT_.out ?_
      refine q13p (i := 33) (N := some 89) (q13m 36 17179869183) HT_.out ?_
      refine q13p (i := 34) (N := some 90) (q13m 36 34359738367) HT_.out ?_
      refine q13p (i := 35) (N := some 4) (q13m 36 68719476735) HT_.out ?_
      refine done_ (done_of HT_.out (by kernel_rfl)) ?_
      try go_wp2
      go_ret
      exact ⟨by first | rfl | (simp [errW_none, errW_some] <;> rfl) | (simp [*, errW_none, errW_some] <;> rfl), by repeat (first | (with_reducible first | exact HB.out | apply below_alloc | apply pw_below_drewN | apply below_drew1 | refine below_set ?_ GE317.out | refine below_set ?_ GE318.out) | exact HB.out)⟩
end Go.Proofs.Ytenmjbcedadcbaa.PAll
