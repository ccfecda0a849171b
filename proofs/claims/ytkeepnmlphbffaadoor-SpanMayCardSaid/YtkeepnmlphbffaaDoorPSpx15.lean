-- Written by a program: the kit's print.py, driven for several laws at once. Not trusted: Lean checks it.
import Derived.Test.YtkeepnmlphbffaaDoorPSpx0
import Derived.Test.YtkeepnmlphbffaaDoorPSpx1
import Derived.Test.YtkeepnmlphbffaaDoorPSpx7
import Derived.Test.YtkeepnmlphbffaaDoorPSpx8
import Derived.Test.YtkeepnmlphbffaaDoorPSpx9
import Derived.Test.YtkeepnmlphbffaaDoorPSpx13
import Derived.Test.YtkeepnmlphbffaaDoorPSpx14
namespace Go.Proofs.YtkeepnmlphbffaaDoor.PSp
open Go.RowKit Go.Proofs.YtkeepnmlphbffaaDoorW.PrintWords Go.Proofs.YtkeepnmlphbffaaDoorW.PrintLast Go.Proofs.YtkeepnmlphbffaaDoorW.PrintMore
attribute [local go_sem] max2_int min2_int max_two min_two max_three min_three max_four min_four   -- for this text's walks alone
set_option linter.unusedVariables false
set_option linter.unusedSimpArgs false

attribute [local go_sem high] eqA23
/-! ### cambiumlaw16_SpanMay: function 6 -/
def q15m (n m : Nat) : Array Bool := ((List.range n).map (Nat.testBit m)).toArray
theorem q15a {α : Type} (xs : List α) (i : Nat) (x : α) : xs.toArray.setIfInBounds i x = (xs.set i x).toArray := List.setIfInBounds_toArray ..
theorem q15b {α : Type} (x y : α) (xs : List α) : (x :: xs).set 0 y = y :: xs := List.set_cons_zero ..
theorem q15c {α : Type} (x y : α) (xs : List α) (n : Nat) : (x :: xs).set (n + 1) y = x :: xs.set n y := List.set_cons_succ ..
theorem q15h {w w' : World} {p : Addr} {v : Value} (h : Below w.heap.size w w') (x : w.cell? p = some v) : w'.cell? p = some v := (h.cell (World.block_lt_of_cell? w _ x)).trans x
theorem q15p {P : Program} {md : Region.Mode} {ops : Array Oper} {Q : Exit → Act → World → Prop} {S : World → Prop} {ds : List Nat} {T : Bool × List (List Nat × List Nat)} {i : Nat} {N : Option Tmp} {oi : Oper} {v : Value} {fuel : Nat} {l : Array Bool} {a : Act} {w : World} (l' : Array Bool) (hT : rtab md ops = T) {a' : Act}
    (h : wpAnyLast P md ops Q S ds fuel l' a' w) (hi : ops[i]? = some oi := by rfl) (hN : oi.dst = N := by rfl) (hc : anyT T l.toList l'.toList i = true := by kernel_rfl) (hQ : ∀ c a w, Q (.panic c) (a.put oi.dst v) w → Q (.panic c) a w := by exact fun _ _ _ h => h)
    (hw : Region.wanted oi (yielded ops a.tmps) = true := by rfl) (hy : ∀ w', (execOp a.eval oi).run P w' = .ok (.value v) w' := by intro w'; go_simp; with_reducible rfl) (ha : a.put N v = a' := by simp only [Act.put, q15a, q15b, q15c, i64_w, i32_w]; rfl) :
    wpAnyLast P md ops Q S ds (fuel + 1) l a w := pure_ l' hi hN (any_of hT hc) hQ (Or.inl ⟨hw, hy⟩) ha h
theorem q15u {P : Program} {md : Region.Mode} {ops : Array Oper} {Q : Exit → Act → World → Prop} {S : World → Prop} {ds : List Nat} {T : Bool × List (List Nat × List Nat)} {i : Nat} {N : Option Tmp} {oi : Oper} {fuel : Nat} {l : Array Bool} {a : Act} {w : World} (l' : Array Bool) (hT : rtab md ops = T) {a' : Act}
    (h : wpAnyLast P md ops Q S ds fuel l' a' w) (hi : ops[i]? = some oi := by rfl) (hN : oi.dst = N := by rfl) (hc : anyT T l.toList l'.toList i = true := by kernel_rfl) (hQ : ∀ c a w, Q (.panic c) (a.put oi.dst undef) w → Q (.panic c) a w := by exact fun _ _ _ h => h)
    (hw : Region.wanted oi (yielded ops a.tmps) = false := by rfl) (ha : a.put N undef = a' := by simp only [Act.put, q15a, q15b, q15c, i64_w, i32_w]; rfl) :
    wpAnyLast P md ops Q S ds (fuel + 1) l a w := pure_ l' hi hN (any_of hT hc) hQ (Or.inr ⟨hw, rfl⟩) ha h
theorem q15k {w : World} {g : Nat} {cs : Array Value} {t : TypeId} (h : w.heap[g]? = some (.cells cs t (0, 0))) (i : Nat) {v : Value} (e : cs[i]? = some v := by rfl) : w.cell? ⟨g, i, none⟩ = some v := (blk_cell h i).trans e
theorem q15y0 {P : Prop} (h : P := by repeat (first | (with_reducible first | exact HB.out | apply below_alloc | apply pw_below_drewN | apply below_drew1 | refine below_set ?_ GE190.out | refine below_set ?_ GE198.out | refine below_set ?_ GE199.out) | exact HB.out)) : P := h
theorem q15y1 {P : Prop} (h : P := by (try simp only [List.map_toArray, List.map_cons, List.map_nil]); first | done | rfl | (simp only [List.length_drop, List.length_take]; rfl)) : P := h
theorem q15y2 {P : Prop} (h : P := by (with_reducible repeat (first | refine blk_drewN ?_ _ | refine blk_drew ?_ | refine blk_alloc ?_ _)); exact BK190.out) : P := h
theorem q15y3 {P : Prop} (h : P := by (with_reducible repeat (first | refine blk_drewN ?_ _ | refine blk_drew ?_ | refine blk_alloc ?_ _)); exact BK199.out) : P := h
theorem q15y4 {P : Prop} (h : P := by (with_reducible repeat (first | refine blk_drewN ?_ _ | refine blk_drew ?_ | refine blk_alloc ?_ _)); exact BK198.out) : P := h
theorem q15y5 {P : Prop} (h : P := by first | (with_reducible exact HTab_.out) | (with_reducible exact tabs_below HTab_.out HB.out) | exact tabs_below HTab_.out (by repeat (first | (with_reducible first | exact HB.out | apply below_alloc | apply pw_below_drewN | apply below_drew1 | refine below_set ?_ (Aside0.out (by assumption))) | exact HB.out))) : P := h
theorem q15y6 {P : Prop} (h : P := by repeat (first | (with_reducible first | exact HB.out | apply below_alloc | apply pw_below_drewN | apply below_drew1 | refine below_set ?_ GE190.out) | exact HB.out)) : P := h
theorem q15y7 {P : Prop} (h : P := by repeat (first | (with_reducible first | exact HB.out | apply below_alloc | apply pw_below_drewN | apply below_drew1) | exact HB.out)) : P := h
theorem q15y8 {P : Prop} (h : P := by first | rfl | (simp; done) | (simp [*]; done)) : P := h
theorem q15y9 {P : Prop} (h : P := by repeat (first | (with_reducible first | exact HB.out | apply below_alloc | apply pw_below_drewN | apply below_drew1 | refine below_set ?_ GE190.out | refine below_set ?_ GE198.out) | exact HB.out)) : P := h
theorem q15y10 {P : Prop} (h : P := by first | (with_reducible assumption) | assumption) : P := h

mutual
def cambiumlaw16_SpanMay.j0 : Nat → ByteArray → Bool → Int → Int → Int → ByteArray → ByteArray → Int → Int → Int → List (S43) → List (S59) → List (S62) → Option (Bool)
 | 0, _, _, _, _, _, _, _, _, _, _, _, _, _ => none
 | k + 1, x1, x19, x191000, x191001, x191002, x191003, x191004, x191005, x191006, x191007, x191008, x191009, x191010 => if x19 = true then (some true) else ((span_Attr.f k x191000 x191001 x191002 x191003 x191004 x191005 x191006 x191007 x191008 x191009 x191010 x1).bind fun bt193 => (cambiumlaw16_SpanMay.l0 k x1 bt193.2.2.2.2 false (wrap64 ((x191008.length : Int) - 1)) x191000 x191001 x191002 x191003 x191004 x191005 x191006 x191007 x191008 x191009 x191010 bt193.1 bt193.2.1 bt193.2.2.1 bt193.2.2.2.1 0 (⟨#[]⟩ : ByteArray) 0 false))
def cambiumlaw16_SpanMay.l0 : Nat → ByteArray → Bool → Bool → Int → Int → Int → Int → ByteArray → ByteArray → Int → Int → Int → List (S43) → List (S59) → List (S62) → Int → ByteArray → Int → Bool → Int → ByteArray → Int → Bool → Option (Bool)
 | 0, _, _, _, _, _, _, _, _, _, _, _, _, _, _, _, _, _, _, _, _, _, _, _ => none
 | k + 1, x1, x6, x8, x9, x191000, x191001, x191002, x191003, x191004, x191005, x191006, x191007, x191008, x191009, x191010, x199000, x199001, x199002, x199003, x200000, x200001, x200002, x200003 => if x9 ≥ 0 then (if 0 ≤ x9 then (if x9 < (x191008.length : Int) then (if ((rd_T43 x191008 x9).f0).toList = x1.toList then (cambiumlaw16_SpanMay.l0 k x1 x6 true (wrap64 (x9 - 1)) x191000 x191001 x191002 x191003 x191004 x191005 x191006 x191007 x191008 x191009 x191010 x199000 x199001 x199002 x199003 ((rd_T43 x191008 x9).f1.f0) ((rd_T43 x191008 x9).f1.f1) ((rd_T43 x191008 x9).f1.f2) ((rd_T43 x191008 x9).f1.f3)) else (cambiumlaw16_SpanMay.l0 k x1 x6 x8 (wrap64 (x9 - 1)) x191000 x191001 x191002 x191003 x191004 x191005 x191006 x191007 x191008 x191009 x191010 x199000 x199001 x199002 x199003 x200000 x200001 x200002 x200003)) else (none)) else (none)) else ((span_May.f k x191000 x191001 x191002 x191003 x191004 x191005 x191006 x191007 x191008 x191009 x191010).bind fun t202 => ((cambiumref16_May.f k x191000 x191001 x191002 x191003 x191004 x191005 x191006 x191007 x191008 x191009 x191010).bind fun t203 => (if (t202 != t203) = true then (cambiumlaw16_SpanMay.j2 k true x191000 x191001 x191002 x191003 x191004 x191005 x191006 x191007 x191008 x191009 x191010) else (if (!(x199000 == x200000) || (!(x199001.toList == x200001.toList) || (!(x199002 == x200002) || (!(x199003 == x200003))))) = true then (cambiumlaw16_SpanMay.j2 k true x191000 x191001 x191002 x191003 x191004 x191005 x191006 x191007 x191008 x191009 x191010) else (cambiumlaw16_SpanMay.j2 k (x6 != x8) x191000 x191001 x191002 x191003 x191004 x191005 x191006 x191007 x191008 x191009 x191010)))))
def cambiumlaw16_SpanMay.j2 : Nat → Bool → Int → Int → Int → ByteArray → ByteArray → Int → Int → Int → List (S43) → List (S59) → List (S62) → Option (Bool)
 | 0, _, _, _, _, _, _, _, _, _, _, _, _ => none
 | k + 1, x63, x191000, x191001, x191002, x191003, x191004, x191005, x191006, x191007, x191008, x191009, x191010 => if x63 = true then (some false) else ((cambiumref16_May.f k x191000 x191001 x191002 x191003 x191004 x191005 x191006 x191007 x191008 x191009 x191010).bind fun t204 => (if t204 = true then ((span_End.f x191000 x191001 x191002 x191003 x191004 x191005 x191006 x191007 x191008 x191009 x191010).bind fun t205 => (if t205 = (wrap64 (x191005 + x191006)) then ((span_End.f x191000 x191001 x191002 x191003 x191004 x191005 x191006 x191007 x191008 x191009 x191010).bind fun t206 => (some (decide (t206 ≥ x191005)))) else (some false))) else (some true)))
end
def cambiumlaw16_SpanMay.f (k : Nat) (a0_0 : Int) (a0_1 : Int) (a0_2 : Int) (a0_3 : ByteArray) (a0_4 : ByteArray) (a0_5 : Int) (a0_6 : Int) (a0_7 : Int) (l0_8 : List (S43)) (l0_9 : List (S59)) (l0_10 : List (S62)) (a1 : ByteArray) : Option (Bool) := (cambiumlaw16_awake.f k).bind fun t191 => (if t191 = true then ((cambiumref16_Small.f k a0_0 a0_1 a0_2 a0_3 a0_4 a0_5 a0_6 a0_7 l0_8 l0_9 l0_10).bind fun t192 => (if t192 = true then (cambiumlaw16_SpanMay.j0 k a1 (decide ((a1.size : Int) > 300)) a0_0 a0_1 a0_2 a0_3 a0_4 a0_5 a0_6 a0_7 l0_8 l0_9 l0_10) else (cambiumlaw16_SpanMay.j0 k a1 true a0_0 a0_1 a0_2 a0_3 a0_4 a0_5 a0_6 a0_7 l0_8 l0_9 l0_10))) else (some false))
theorem cambiumlaw16_SpanMay.mono_l : ∀ k, (∀ y0 y1 y2 y3 y4 y5 y6 y7 y8 y9 y10 y11 y12, LeO (cambiumlaw16_SpanMay.j0 k y0 y1 y2 y3 y4 y5 y6 y7 y8 y9 y10 y11 y12) (cambiumlaw16_SpanMay.j0 (k + 1) y0 y1 y2 y3 y4 y5 y6 y7 y8 y9 y10 y11 y12)) ∧ (∀ y0 y1 y2 y3 y4 y5 y6 y7 y8 y9 y10 y11 y12 y13 y14 y15 y16 y17 y18 y19 y20 y21 y22, LeO (cambiumlaw16_SpanMay.l0 k y0 y1 y2 y3 y4 y5 y6 y7 y8 y9 y10 y11 y12 y13 y14 y15 y16 y17 y18 y19 y20 y21 y22) (cambiumlaw16_SpanMay.l0 (k + 1) y0 y1 y2 y3 y4 y5 y6 y7 y8 y9 y10 y11 y12 y13 y14 y15 y16 y17 y18 y19 y20 y21 y22)) ∧ (∀ y0 y1 y2 y3 y4 y5 y6 y7 y8 y9 y10 y11, LeO (cambiumlaw16_SpanMay.j2 k y0 y1 y2 y3 y4 y5 y6 y7 y8 y9 y10 y11) (cambiumlaw16_SpanMay.j2 (k + 1) y0 y1 y2 y3 y4 y5 y6 y7 y8 y9 y10 y11))
 | 0 => ⟨fun _ _ _ _ _ _ _ _ _ _ _ _ _ r h => by simp [cambiumlaw16_SpanMay.j0] at h, fun _ _ _ _ _ _ _ _ _ _ _ _ _ _ _ _ _ _ _ _ _ _ _ r h => by simp [cambiumlaw16_SpanMay.l0] at h, fun _ _ _ _ _ _ _ _ _ _ _ _ r h => by simp [cambiumlaw16_SpanMay.j2] at h⟩
 | k + 1 => by
  obtain ⟨ih0, ih1, ih2⟩ := cambiumlaw16_SpanMay.mono_l k
  refine ⟨?_, ?_, ?_⟩
  ·intro y0 y1 y2 y3 y4 y5 y6 y7 y8 y9 y10 y11 y12
   unfold cambiumlaw16_SpanMay.j0
   repeat' first
   | (with_reducible exact ih0 _ _ _ _ _ _ _ _ _ _ _ _ _)
   | (with_reducible exact ih1 _ _ _ _ _ _ _ _ _ _ _ _ _ _ _ _ _ _ _ _ _ _ _)
   | (with_reducible exact ih2 _ _ _ _ _ _ _ _ _ _ _ _)
   | (with_reducible exact cambiumlaw16_awake.mono _)
   | (with_reducible exact cambiumref16_May.mono _ _ _ _ _ _ _ _ _ _ _ _)
   | (with_reducible exact cambiumref16_Small.mono _ _ _ _ _ _ _ _ _ _ _ _)
   | (with_reducible exact span_Attr.mono _ _ _ _ _ _ _ _ _ _ _ _ _)
   | (with_reducible exact span_May.mono _ _ _ _ _ _ _ _ _ _ _ _)
   | (with_reducible exact LeO.refl _)
   | (with_reducible exact LeO.none _)
   | (with_reducible refine LeO.ite ?_ ?_)
   | (with_reducible refine LeO.bind ?_ (fun _ => ?_))
   | exact ih0 _ _ _ _ _ _ _ _ _ _ _ _ _
   | exact ih1 _ _ _ _ _ _ _ _ _ _ _ _ _ _ _ _ _ _ _ _ _ _ _
   | exact ih2 _ _ _ _ _ _ _ _ _ _ _ _
   | exact cambiumlaw16_awake.mono _
   | exact cambiumref16_May.mono _ _ _ _ _ _ _ _ _ _ _ _
   | exact cambiumref16_Small.mono _ _ _ _ _ _ _ _ _ _ _ _
   | exact span_Attr.mono _ _ _ _ _ _ _ _ _ _ _ _ _
   | exact span_May.mono _ _ _ _ _ _ _ _ _ _ _ _
   | exact LeO.none _
   | refine LeO.ite ?_ ?_
   | refine LeO.bind ?_ (fun _ => ?_)
  ·intro y0 y1 y2 y3 y4 y5 y6 y7 y8 y9 y10 y11 y12 y13 y14 y15 y16 y17 y18 y19 y20 y21 y22
   unfold cambiumlaw16_SpanMay.l0
   repeat' first
   | (with_reducible exact ih0 _ _ _ _ _ _ _ _ _ _ _ _ _)
   | (with_reducible exact ih1 _ _ _ _ _ _ _ _ _ _ _ _ _ _ _ _ _ _ _ _ _ _ _)
   | (with_reducible exact ih2 _ _ _ _ _ _ _ _ _ _ _ _)
   | (with_reducible exact cambiumlaw16_awake.mono _)
   | (with_reducible exact cambiumref16_May.mono _ _ _ _ _ _ _ _ _ _ _ _)
   | (with_reducible exact cambiumref16_Small.mono _ _ _ _ _ _ _ _ _ _ _ _)
   | (with_reducible exact span_Attr.mono _ _ _ _ _ _ _ _ _ _ _ _ _)
   | (with_reducible exact span_May.mono _ _ _ _ _ _ _ _ _ _ _ _)
   | (with_reducible exact LeO.refl _)
   | (with_reducible exact LeO.none _)
   | (with_reducible refine LeO.ite ?_ ?_)
   | (with_reducible refine LeO.bind ?_ (fun _ => ?_))
   | exact ih0 _ _ _ _ _ _ _ _ _ _ _ _ _
   | exact ih1 _ _ _ _ _ _ _ _ _ _ _ _ _ _ _ _ _ _ _ _ _ _ _
   | exact ih2 _ _ _ _ _ _ _ _ _ _ _ _
   | exact cambiumlaw16_awake.mono _
   | exact cambiumref16_May.mono _ _ _ _ _ _ _ _ _ _ _ _
   | exact cambiumref16_Small.mono _ _ _ _ _ _ _ _ _ _ _ _
   | exact span_Attr.mono _ _ _ _ _ _ _ _ _ _ _ _ _
   | exact span_May.mono _ _ _ _ _ _ _ _ _ _ _ _
   | exact LeO.none _
   | refine LeO.ite ?_ ?_
   | refine LeO.bind ?_ (fun _ => ?_)
  ·intro y0 y1 y2 y3 y4 y5 y6 y7 y8 y9 y10 y11
   unfold cambiumlaw16_SpanMay.j2
   repeat' first
   | (with_reducible exact ih0 _ _ _ _ _ _ _ _ _ _ _ _ _)
   | (with_reducible exact ih1 _ _ _ _ _ _ _ _ _ _ _ _ _ _ _ _ _ _ _ _ _ _ _)
   | (with_reducible exact ih2 _ _ _ _ _ _ _ _ _ _ _ _)
   | (with_reducible exact cambiumlaw16_awake.mono _)
   | (with_reducible exact cambiumref16_May.mono _ _ _ _ _ _ _ _ _ _ _ _)
   | (with_reducible exact cambiumref16_Small.mono _ _ _ _ _ _ _ _ _ _ _ _)
   | (with_reducible exact span_Attr.mono _ _ _ _ _ _ _ _ _ _ _ _ _)
   | (with_reducible exact span_May.mono _ _ _ _ _ _ _ _ _ _ _ _)
   | (with_reducible exact LeO.refl _)
   | (with_reducible exact LeO.none _)
   | (with_reducible refine LeO.ite ?_ ?_)
   | (with_reducible refine LeO.bind ?_ (fun _ => ?_))
   | exact ih0 _ _ _ _ _ _ _ _ _ _ _ _ _
   | exact ih1 _ _ _ _ _ _ _ _ _ _ _ _ _ _ _ _ _ _ _ _ _ _ _
   | exact ih2 _ _ _ _ _ _ _ _ _ _ _ _
   | exact cambiumlaw16_awake.mono _
   | exact cambiumref16_May.mono _ _ _ _ _ _ _ _ _ _ _ _
   | exact cambiumref16_Small.mono _ _ _ _ _ _ _ _ _ _ _ _
   | exact span_Attr.mono _ _ _ _ _ _ _ _ _ _ _ _ _
   | exact span_May.mono _ _ _ _ _ _ _ _ _ _ _ _
   | exact LeO.none _
   | refine LeO.ite ?_ ?_
   | refine LeO.bind ?_ (fun _ => ?_)
theorem cambiumlaw16_SpanMay.mono : ∀ a0 a1 a2 a3 a4 a5 a6 a7 a8 a9 a10 a11 k, LeO (cambiumlaw16_SpanMay.f k a0 a1 a2 a3 a4 a5 a6 a7 a8 a9 a10 a11) (cambiumlaw16_SpanMay.f (k + 1) a0 a1 a2 a3 a4 a5 a6 a7 a8 a9 a10 a11) := by
 intro a0 a1 a2 a3 a4 a5 a6 a7 a8 a9 a10 a11 k
 obtain ⟨ih0, ih1, ih2⟩ := cambiumlaw16_SpanMay.mono_l k
 unfold cambiumlaw16_SpanMay.f
 repeat' first
   | (with_reducible exact ih0 _ _ _ _ _ _ _ _ _ _ _ _ _)
   | (with_reducible exact ih1 _ _ _ _ _ _ _ _ _ _ _ _ _ _ _ _ _ _ _ _ _ _ _)
   | (with_reducible exact ih2 _ _ _ _ _ _ _ _ _ _ _ _)
   | (with_reducible exact cambiumlaw16_awake.mono _)
   | (with_reducible exact cambiumref16_May.mono _ _ _ _ _ _ _ _ _ _ _ _)
   | (with_reducible exact cambiumref16_Small.mono _ _ _ _ _ _ _ _ _ _ _ _)
   | (with_reducible exact span_Attr.mono _ _ _ _ _ _ _ _ _ _ _ _ _)
   | (with_reducible exact span_May.mono _ _ _ _ _ _ _ _ _ _ _ _)
   | (with_reducible exact LeO.refl _)
   | (with_reducible exact LeO.none _)
   | (with_reducible refine LeO.ite ?_ ?_)
   | (with_reducible refine LeO.bind ?_ (fun _ => ?_))
   | exact ih0 _ _ _ _ _ _ _ _ _ _ _ _ _
   | exact ih1 _ _ _ _ _ _ _ _ _ _ _ _ _ _ _ _ _ _ _ _ _ _ _
   | exact ih2 _ _ _ _ _ _ _ _ _ _ _ _
   | exact cambiumlaw16_awake.mono _
   | exact cambiumref16_May.mono _ _ _ _ _ _ _ _ _ _ _ _
   | exact cambiumref16_Small.mono _ _ _ _ _ _ _ _ _ _ _ _
   | exact span_Attr.mono _ _ _ _ _ _ _ _ _ _ _ _ _
   | exact span_May.mono _ _ _ _ _ _ _ _ _ _ _ _
   | exact LeO.none _
   | refine LeO.ite ?_ ?_
   | refine LeO.bind ?_ (fun _ => ?_)
def cambiumlaw16_SpanMay.T14 : Bool × List (List Nat × List Nat) := (true, [([], []), ([0], [0]), ([], []), ([2, 1], [2]), ([1, 3], [1, 3]), ([4, 3], [4]), ([5], [5]), ([5], [5]), ([6, 7, 5], [5, 6, 7]), ([5, 8], [5, 8]), ([9, 5], [9]), ([10], [10]), ([10], [10]), ([11, 12, 10], [10, 11, 12]), ([10, 13], [10, 13])])
def cambiumlaw16_SpanMay.B14 : List Nat := [0, 1, 0, 7, 15, 31, 63, 63, 255, 511, 1023, 2047, 2047, 8191, 16383]
theorem cambiumlaw16_SpanMay.tab14 : rtab .any (opsOf Tryd.f6 14) = cambiumlaw16_SpanMay.T14 := by kernel_rfl
theorem cambiumlaw16_SpanMay.bits14 : waitsOk cambiumlaw16_SpanMay.T14.2 cambiumlaw16_SpanMay.B14 = true := by kernel_rfl
def cambiumlaw16_SpanMay.T16 : Bool × List (List Nat × List Nat) := (true, [([], []), ([0], [0]), ([1], [1]), ([2, 1], [2]), ([3], [3]), ([4, 3, 3], [3, 4]), ([3], [3]), ([6, 3], [3, 6]), ([3], [3]), ([8, 3], [3, 8]), ([7, 9, 3], [3, 7, 9]), ([5, 10, 3], [3, 5, 10]), ([11, 5, 3], [3, 11]), ([12], [12]), ([13, 12, 12], [12, 13]), ([12], [12]), ([15, 12], [12, 15]), ([14, 16, 12], [12, 14, 16]), ([12, 17, 3], [3, 12, 17]), ([3, 18], [3, 18]), ([19, 14, 0, 1, 2, 3, 4, 5, 6, 7, 8, 9, 10, 11, 12, 13, 14, 15, 16, 17, 18, 19], [19])])
def cambiumlaw16_SpanMay.B16 : List Nat := [0, 1, 3, 7, 15, 31, 15, 79, 15, 271, 975, 2047, 4095, 8191, 16383, 8191, 40959, 131071, 262143, 524287, 1048575]
theorem cambiumlaw16_SpanMay.tab16 : rtab .any (opsOf Tryd.f6 16) = cambiumlaw16_SpanMay.T16 := by kernel_rfl
theorem cambiumlaw16_SpanMay.bits16 : waitsOk cambiumlaw16_SpanMay.T16.2 cambiumlaw16_SpanMay.B16 = true := by kernel_rfl
set_option maxHeartbeats 8000000 in
set_option maxRecDepth 100000 in
theorem cambiumlaw16_SpanMay.calls (k : Nat) (a0_0 : Int) (a0_1 : Int) (a0_2 : Int) (a0_3 : ByteArray) (a0_4 : ByteArray) (a0_5 : Int) (a0_6 : Int) (a0_7 : Int) (A0_8 : Option Addr) (c0_8 : Nat) (l0_8 : List (S43)) (A0_9 : Option Addr) (c0_9 : Nat) (l0_9 : List (S59)) (A0_10 : Option Addr) (c0_10 : Nat) (l0_10 : List (S62)) (a1 : ByteArray) (r : Bool) (w : World) (hr0_8 : Kd.C k43 w A0_8 l0_8.length l0_8) (hc0_8 : l0_8.length ≤ c0_8) (hr0_9 : Kd.C k59 w A0_9 l0_9.length l0_9) (hc0_9 : l0_9.length ≤ c0_9) (hr0_10 : Kd.C k62 w A0_10 l0_10.length l0_10) (hc0_10 : l0_10.length ≤ c0_10) (h : cambiumlaw16_SpanMay.f k a0_0 a0_1 a0_2 a0_3 a0_4 a0_5 a0_6 a0_7 l0_8 l0_9 l0_10 a1 = some r) (hT_ : Tabs w) :
  Calls Tryd.prog 6 #[.agg #[.int .u64 a0_0, .int .u64 a0_1, .int .u64 a0_2, .string a0_3, .string a0_4, .int .i64 a0_5, .int .i64 a0_6, .int .i64 a0_7, .slice A0_8 l0_8.length c0_8, .slice A0_9 l0_9.length c0_9, .slice A0_10 l0_10.length c0_10], .string a1] w fun e w' => e = .returned (.bool r) ∧ Below w.heap.size w w' := by
 have HTab_ := Aside0.mk hT_
 clear hT_
 have hu36 := Tryd.underlying36
 have hu23 := Tryd.underlying23
 have HR0_8 := Aside0.mk hr0_8
 have HC0_8 := Aside0.mk hc0_8
 clear hr0_8 hc0_8
 have HR0_9 := Aside0.mk hr0_9
 have HC0_9 := Aside0.mk hc0_9
 clear hr0_9 hc0_9
 have HR0_10 := Aside0.mk hr0_10
 have HC0_10 := Aside0.mk hc0_10
 clear hr0_10 hc0_10
 have HB := Aside0.mk (Below.refl w.heap.size w)
 have H : ((cambiumlaw16_awake.f k).bind fun t191 => (if t191 = true then ((cambiumref16_Small.f k a0_0 a0_1 a0_2 a0_3 a0_4 a0_5 a0_6 a0_7 l0_8 l0_9 l0_10).bind fun t192 => (if t192 = true then (cambiumlaw16_SpanMay.j0 k a1 (decide ((a1.size : Int) > 300)) a0_0 a0_1 a0_2 a0_3 a0_4 a0_5 a0_6 a0_7 l0_8 l0_9 l0_10) else (cambiumlaw16_SpanMay.j0 k a1 true a0_0 a0_1 a0_2 a0_3 a0_4 a0_5 a0_6 a0_7 l0_8 l0_9 l0_10))) else (some false))) = some r := h
 clear h
 replace H := Option.bind_eq_some_iff.mp H
 obtain ⟨t191, A30, H⟩ := H
 replace H : (if t191 = true then ((cambiumref16_Small.f k a0_0 a0_1 a0_2 a0_3 a0_4 a0_5 a0_6 a0_7 l0_8 l0_9 l0_10).bind fun t192 => (if t192 = true then (cambiumlaw16_SpanMay.j0 k a1 (decide ((a1.size : Int) > 300)) a0_0 a0_1 a0_2 a0_3 a0_4 a0_5 a0_6 a0_7 l0_8 l0_9 l0_10) else (cambiumlaw16_SpanMay.j0 k a1 true a0_0 a0_1 a0_2 a0_3 a0_4 a0_5 a0_6 a0_7 l0_8 l0_9 l0_10))) else (some false)) = some r := H
 have A3 := Aside0.mk A30
 clear A30
 by_cases c4 : t191 = true
 rotate_left
 ·replace c4 := Bool.eq_false_iff.mpr c4
  subst c4
  have H1 : (some false) = some r := by rw [if_neg (show ¬ (false = true) by decide)] at H; exact H
  clear H
  have H := H1
  clear H1
  obtain rfl := Option.some.inj H
  go_enter Tryd.func6, Tryd.ntmps6
  go_wp2_with (first | ((with_reducible refine gate_dst (N := 2) rfl ?_); (try (refine gate_guard (by rfl) ?_; dsimp only)); refine box_event ?hg (N := 2) ?hd (cs := #[.int .u64 a0_0, .int .u64 a0_1, .int .u64 a0_2, .string a0_3, .string a0_4, .int .i64 a0_5, .int .i64 a0_6, .int .i64 a0_7, .slice A0_8 l0_8.length c0_8, .slice A0_9 l0_9.length c0_9, .slice A0_10 l0_10.length c0_10]) (t := 36) ?hr ?_; (case hd => rfl); (case hg => rfl); (case hr => first | (go_simp; done) | (go_simp; rfl)); intro gb190 hg w67 hbox hb; have n0_ := Aside0.mk (below_step q15y7 hb); have n1_ := Aside0.mk (hbox); have n2_ := Aside0.mk ((by rw [hg]; exact (below_size q15y7) : w.heap.size ≤ gb190)); have n3_ := Aside0.mk ((by rw [hg]; exact (below_size q15y7) : w.heap.size ≤ gb190)); clear HB; have HB := n0_; have BK190 := n1_; have GW190 := n2_; have GE190 := n3_; clear n0_ n1_ n2_ n3_; clear hb hbox hg) | ((with_reducible refine gate_callee (f := 8) rfl ?_); refine goesL_ (some 10) rfl rfl Tryd.func8 (by kernel_rfl) rfl #[] rfl q15y1 ?_; (with_reducible refine (cambiumlaw16_awake.calls k  false _ A3.out q15y5).mono ?_); rintro e w68 ⟨rfl, hb⟩; refine ⟨_, rfl, ?_⟩; have n0_ := Aside0.mk (blk_below (g := gb190) (o := .cells #[.int .u64 a0_0, .int .u64 a0_1, .int .u64 a0_2, .string a0_3, .string a0_4, .int .i64 a0_5, .int .i64 a0_6, .int .i64 a0_7, .slice A0_8 l0_8.length c0_8, .slice A0_9 l0_9.length c0_9, .slice A0_10 l0_10.length c0_10] 36 (0, 0)) q15y2 hb); have n1_ := Aside0.mk (below_step q15y6 hb); clear BK190; clear HB; have BK190 := n0_; have HB := n1_; clear n0_ n1_; (try clear hb); (try clear hb2); (try clear hk); (try clear hi)))
  go_ret
  exact ⟨by first | rfl | (simp [errW_none, errW_some] <;> rfl) | (simp [*, errW_none, errW_some] <;> rfl), by repeat (first | (with_reducible first | exact HB.out | apply below_alloc | apply pw_below_drewN | apply below_drew1 | refine below_set ?_ GE190.out) | exact HB.out)⟩

 subst c4
 have H1 : ((cambiumref16_Small.f k a0_0 a0_1 a0_2 a0_3 a0_4 a0_5 a0_6 a0_7 l0_8 l0_9 l0_10).bind fun t192 => (if t192 = true then (cambiumlaw16_SpanMay.j0 k a1 (decide ((a1.size : Int) > 300)) a0_0 a0_1 a0_2 a0_3 a0_4 a0_5 a0_6 a0_7 l0_8 l0_9 l0_10) else (cambiumlaw16_SpanMay.j0 k a1 true a0_0 a0_1 a0_2 a0_3 a0_4 a0_5 a0_6 a0_7 l0_8 l0_9 l0_10))) = some r := by rw [if_pos rfl] at H; exact H
 clear H
 have H := H1
 clear H1
 have HC5 := Aside0.mk H
 clear H
 go_enter Tryd.func6, Tryd.ntmps6
 go_upto_region 3 with (first | ((with_reducible refine gate_dst (N := 2) rfl ?_); (try (refine gate_guard (by rfl) ?_; dsimp only)); refine box_event ?hg (N := 2) ?hd (cs := #[.int .u64 a0_0, .int .u64 a0_1, .int .u64 a0_2, .string a0_3, .string a0_4, .int .i64 a0_5, .int .i64 a0_6, .int .i64 a0_7, .slice A0_8 l0_8.length c0_8, .slice A0_9 l0_9.length c0_9, .slice A0_10 l0_10.length c0_10]) (t := 36) ?hr ?_; (case hd => rfl); (case hg => rfl); (case hr => first | (go_simp; done) | (go_simp; rfl)); intro gb190 hg w6 hbox hb; have n0_ := Aside0.mk (below_step q15y7 hb); have n1_ := Aside0.mk (hbox); have n2_ := Aside0.mk ((by rw [hg]; exact (below_size q15y7) : w.heap.size ≤ gb190)); have n3_ := Aside0.mk ((by rw [hg]; exact (below_size q15y7) : w.heap.size ≤ gb190)); clear HB; have HB := n0_; have BK190 := n1_; have GW190 := n2_; have GE190 := n3_; clear n0_ n1_ n2_ n3_; clear hb hbox hg) | ((with_reducible refine gate_callee (f := 8) rfl ?_); refine goesL_ (some 10) rfl rfl Tryd.func8 (by kernel_rfl) rfl #[] rfl q15y1 ?_; (with_reducible refine (cambiumlaw16_awake.calls k  true _ A3.out q15y5).mono ?_); rintro e w7 ⟨rfl, hb⟩; refine ⟨_, rfl, ?_⟩; have n0_ := Aside0.mk (blk_below (g := gb190) (o := .cells #[.int .u64 a0_0, .int .u64 a0_1, .int .u64 a0_2, .string a0_3, .string a0_4, .int .i64 a0_5, .int .i64 a0_6, .int .i64 a0_7, .slice A0_8 l0_8.length c0_8, .slice A0_9 l0_9.length c0_9, .slice A0_10 l0_10.length c0_10] 36 (0, 0)) q15y2 hb); have n1_ := Aside0.mk (below_step q15y6 hb); clear BK190; clear HB; have BK190 := n0_; have HB := n1_; clear n0_ n1_; (try clear hb); (try clear hb2); (try clear hk); (try clear hi)))
 (try simp only [Act.put, q15a, q15b, q15c])
 go_cut [19] (fun v19 wc => ∃ (kq : Nat) (x19_4 : Bool), v19 = .bool x19_4 ∧ Aside0 (cambiumlaw16_SpanMay.j0 kq a1 x19_4 a0_0 a0_1 a0_2 a0_3 a0_4 a0_5 a0_6 a0_7 l0_8 l0_9 l0_10 = some r) ∧ Aside0 (kq ≤ k) ∧ Aside0 (wc.heap[gb190]? = some (.cells #[.int .u64 a0_0, .int .u64 a0_1, .int .u64 a0_2, .string a0_3, .string a0_4, .int .i64 a0_5, .int .i64 a0_6, .int .i64 a0_7, (.slice A0_8 l0_8.length c0_8), (.slice A0_9 l0_9.length c0_9), (.slice A0_10 l0_10.length c0_10)] 36 (0, 0))) ∧ Aside0 (Below w.heap.size w wc))
 case first =>
  have H := HC5.out
  clear HC5
  replace H := Option.bind_eq_some_iff.mp H
  obtain ⟨t192, A80, H⟩ := H
  replace H : (if t192 = true then (cambiumlaw16_SpanMay.j0 k a1 (decide ((a1.size : Int) > 300)) a0_0 a0_1 a0_2 a0_3 a0_4 a0_5 a0_6 a0_7 l0_8 l0_9 l0_10) else (cambiumlaw16_SpanMay.j0 k a1 true a0_0 a0_1 a0_2 a0_3 a0_4 a0_5 a0_6 a0_7 l0_8 l0_9 l0_10)) = some r := H
  have A8 := Aside0.mk A80
  clear A80
  by_cases c9 : t192 = true
  ·subst c9
   have H1 : (cambiumlaw16_SpanMay.j0 k a1 (decide ((a1.size : Int) > 300)) a0_0 a0_1 a0_2 a0_3 a0_4 a0_5 a0_6 a0_7 l0_8 l0_9 l0_10) = some r := by rw [if_pos rfl] at H; exact H
   clear H
   have H := H1
   clear H1
   have H' := Aside0.mk H
   clear H
   have hcz10_0 : w7.cell? ⟨gb190, 0, none⟩ = some (.int .u64 a0_0) := (blk_cell BK190.out 0).trans rfl
   have hcz10_1 : w7.cell? ⟨gb190, 1, none⟩ = some (.int .u64 a0_1) := (blk_cell BK190.out 1).trans rfl
   have hcz10_2 : w7.cell? ⟨gb190, 2, none⟩ = some (.int .u64 a0_2) := (blk_cell BK190.out 2).trans rfl
   have hcz10_3 : w7.cell? ⟨gb190, 3, none⟩ = some (.string a0_3) := (blk_cell BK190.out 3).trans rfl
   have hcz10_4 : w7.cell? ⟨gb190, 4, none⟩ = some (.string a0_4) := (blk_cell BK190.out 4).trans rfl
   have hcz10_5 : w7.cell? ⟨gb190, 5, none⟩ = some (.int .i64 a0_5) := (blk_cell BK190.out 5).trans rfl
   have hcz10_6 : w7.cell? ⟨gb190, 6, none⟩ = some (.int .i64 a0_6) := (blk_cell BK190.out 6).trans rfl
   have hcz10_7 : w7.cell? ⟨gb190, 7, none⟩ = some (.int .i64 a0_7) := (blk_cell BK190.out 7).trans rfl
   have hcz10_8 : w7.cell? ⟨gb190, 8, none⟩ = some (.slice A0_8 l0_8.length c0_8) := (blk_cell BK190.out 8).trans rfl
   have hcz10_9 : w7.cell? ⟨gb190, 9, none⟩ = some (.slice A0_9 l0_9.length c0_9) := (blk_cell BK190.out 9).trans rfl
   have hcz10_10 : w7.cell? ⟨gb190, 10, none⟩ = some (.slice A0_10 l0_10.length c0_10) := (blk_cell BK190.out 10).trans rfl
   have hfz10_0 := blk_frozen BK190.out 0
   have hfz10_1 := blk_frozen BK190.out 1
   have hfz10_2 := blk_frozen BK190.out 2
   have hfz10_3 := blk_frozen BK190.out 3
   have hfz10_4 := blk_frozen BK190.out 4
   have hfz10_5 := blk_frozen BK190.out 5
   have hfz10_6 := blk_frozen BK190.out 6
   have hfz10_7 := blk_frozen BK190.out 7
   have hfz10_8 := blk_frozen BK190.out 8
   have hfz10_9 := blk_frozen BK190.out 9
   have hfz10_10 := blk_frozen BK190.out 10
   go_wp2_with (first | ((with_reducible refine gate_callee (f := 13) rfl ?_); refine goesL_ (some 13) rfl rfl Tryd.func13 (by kernel_rfl) rfl #[.agg #[.int .u64 a0_0, .int .u64 a0_1, .int .u64 a0_2, .string a0_3, .string a0_4, .int .i64 a0_5, .int .i64 a0_6, .int .i64 a0_7, .slice A0_8 l0_8.length c0_8, .slice A0_9 l0_9.length c0_9, .slice A0_10 l0_10.length c0_10]] rfl q15y1 ?_; (with_reducible refine (cambiumref16_Small.calls k a0_0 a0_1 a0_2 a0_3 a0_4 a0_5 a0_6 a0_7 _ _ l0_8 _ _ l0_9 _ _ l0_10 true _ ?side1 ?side2 ?side3 ?side4 ?side5 ?side6 A8.out).mono ?_); (case side1 => repeat (first | exact (Kd.C_below HR0_8.out HB.out) | (with_reducible refine Kd.C_alloc ?_ _) | (with_reducible refine Kd.C_drewN ?_ _) | (with_reducible refine Kd.C_drew ?_))); (case side2 => exact HC0_8.out); (case side3 => repeat (first | exact (Kd.C_below HR0_9.out HB.out) | (with_reducible refine Kd.C_alloc ?_ _) | (with_reducible refine Kd.C_drewN ?_ _) | (with_reducible refine Kd.C_drew ?_))); (case side4 => exact HC0_9.out); (case side5 => repeat (first | exact (Kd.C_below HR0_10.out HB.out) | (with_reducible refine Kd.C_alloc ?_ _) | (with_reducible refine Kd.C_drewN ?_ _) | (with_reducible refine Kd.C_drew ?_))); (case side6 => exact HC0_10.out); rintro e w11 ⟨rfl, hb⟩; refine ⟨_, rfl, ?_⟩; have n0_ := Aside0.mk (blk_below (g := gb190) (o := .cells #[.int .u64 a0_0, .int .u64 a0_1, .int .u64 a0_2, .string a0_3, .string a0_4, .int .i64 a0_5, .int .i64 a0_6, .int .i64 a0_7, .slice A0_8 l0_8.length c0_8, .slice A0_9 l0_9.length c0_9, .slice A0_10 l0_10.length c0_10] 36 (0, 0)) q15y2 hb); have n1_ := Aside0.mk (below_step q15y6 hb); clear BK190; clear HB; have BK190 := n0_; have HB := n1_; clear n0_ n1_; (try clear hb); (try clear hb2); (try clear hk); (try clear hi)))
   go_meet
   case rel => exact ⟨_, (decide ((a1.size : Int) > 300)), q15y8, H', ⟨by first | omega | exact Nat.le_refl _⟩, ⟨by (with_reducible repeat (first | refine blk_drewN ?_ _ | refine blk_drew ?_ | refine blk_alloc ?_ _)); exact BK190.out⟩, ⟨by repeat (first | (with_reducible first | exact HB.out | apply below_alloc | apply pw_below_drewN | apply below_drew1 | refine below_set ?_ GE190.out) | exact HB.out)⟩⟩
  replace c9 := Bool.eq_false_iff.mpr c9
  subst c9
  have H1 : (cambiumlaw16_SpanMay.j0 k a1 true a0_0 a0_1 a0_2 a0_3 a0_4 a0_5 a0_6 a0_7 l0_8 l0_9 l0_10) = some r := by rw [if_neg (show ¬ (false = true) by decide)] at H; exact H
  clear H
  have H := H1
  clear H1
  have H' := Aside0.mk H
  clear H
  have hcz12_0 : w7.cell? ⟨gb190, 0, none⟩ = some (.int .u64 a0_0) := (blk_cell BK190.out 0).trans rfl
  have hcz12_1 : w7.cell? ⟨gb190, 1, none⟩ = some (.int .u64 a0_1) := (blk_cell BK190.out 1).trans rfl
  have hcz12_2 : w7.cell? ⟨gb190, 2, none⟩ = some (.int .u64 a0_2) := (blk_cell BK190.out 2).trans rfl
  have hcz12_3 : w7.cell? ⟨gb190, 3, none⟩ = some (.string a0_3) := (blk_cell BK190.out 3).trans rfl
  have hcz12_4 : w7.cell? ⟨gb190, 4, none⟩ = some (.string a0_4) := (blk_cell BK190.out 4).trans rfl
  have hcz12_5 : w7.cell? ⟨gb190, 5, none⟩ = some (.int .i64 a0_5) := (blk_cell BK190.out 5).trans rfl
  have hcz12_6 : w7.cell? ⟨gb190, 6, none⟩ = some (.int .i64 a0_6) := (blk_cell BK190.out 6).trans rfl
  have hcz12_7 : w7.cell? ⟨gb190, 7, none⟩ = some (.int .i64 a0_7) := (blk_cell BK190.out 7).trans rfl
  have hcz12_8 : w7.cell? ⟨gb190, 8, none⟩ = some (.slice A0_8 l0_8.length c0_8) := (blk_cell BK190.out 8).trans rfl
  have hcz12_9 : w7.cell? ⟨gb190, 9, none⟩ = some (.slice A0_9 l0_9.length c0_9) := (blk_cell BK190.out 9).trans rfl
  have hcz12_10 : w7.cell? ⟨gb190, 10, none⟩ = some (.slice A0_10 l0_10.length c0_10) := (blk_cell BK190.out 10).trans rfl
  have hfz12_0 := blk_frozen BK190.out 0
  have hfz12_1 := blk_frozen BK190.out 1
  have hfz12_2 := blk_frozen BK190.out 2
  have hfz12_3 := blk_frozen BK190.out 3
  have hfz12_4 := blk_frozen BK190.out 4
  have hfz12_5 := blk_frozen BK190.out 5
  have hfz12_6 := blk_frozen BK190.out 6
  have hfz12_7 := blk_frozen BK190.out 7
  have hfz12_8 := blk_frozen BK190.out 8
  have hfz12_9 := blk_frozen BK190.out 9
  have hfz12_10 := blk_frozen BK190.out 10
  go_wp2_with (first | ((with_reducible refine gate_callee (f := 13) rfl ?_); refine goesL_ (some 13) rfl rfl Tryd.func13 (by kernel_rfl) rfl #[.agg #[.int .u64 a0_0, .int .u64 a0_1, .int .u64 a0_2, .string a0_3, .string a0_4, .int .i64 a0_5, .int .i64 a0_6, .int .i64 a0_7, .slice A0_8 l0_8.length c0_8, .slice A0_9 l0_9.length c0_9, .slice A0_10 l0_10.length c0_10]] rfl q15y1 ?_; (with_reducible refine (cambiumref16_Small.calls k a0_0 a0_1 a0_2 a0_3 a0_4 a0_5 a0_6 a0_7 _ _ l0_8 _ _ l0_9 _ _ l0_10 false _ ?side1 ?side2 ?side3 ?side4 ?side5 ?side6 A8.out).mono ?_); (case side1 => repeat (first | exact (Kd.C_below HR0_8.out HB.out) | (with_reducible refine Kd.C_alloc ?_ _) | (with_reducible refine Kd.C_drewN ?_ _) | (with_reducible refine Kd.C_drew ?_))); (case side2 => exact HC0_8.out); (case side3 => repeat (first | exact (Kd.C_below HR0_9.out HB.out) | (with_reducible refine Kd.C_alloc ?_ _) | (with_reducible refine Kd.C_drewN ?_ _) | (with_reducible refine Kd.C_drew ?_))); (case side4 => exact HC0_9.out); (case side5 => repeat (first | exact (Kd.C_below HR0_10.out HB.out) | (with_reducible refine Kd.C_alloc ?_ _) | (with_reducible refine Kd.C_drewN ?_ _) | (with_reducible refine Kd.C_drew ?_))); (case side6 => exact HC0_10.out); rintro e w13 ⟨rfl, hb⟩; refine ⟨_, rfl, ?_⟩; have n0_ := Aside0.mk (blk_below (g := gb190) (o := .cells #[.int .u64 a0_0, .int .u64 a0_1, .int .u64 a0_2, .string a0_3, .string a0_4, .int .i64 a0_5, .int .i64 a0_6, .int .i64 a0_7, .slice A0_8 l0_8.length c0_8, .slice A0_9 l0_9.length c0_9, .slice A0_10 l0_10.length c0_10] 36 (0, 0)) q15y2 hb); have n1_ := Aside0.mk (below_step q15y6 hb); clear BK190; clear HB; have BK190 := n0_; have HB := n1_; clear n0_ n1_; (try clear hb); (try clear hb2); (try clear hk); (try clear hi)))
  go_meet
  case rel => exact ⟨_, (true), q15y8, H', ⟨by first | omega | exact Nat.le_refl _⟩, ⟨by (with_reducible repeat (first | refine blk_drewN ?_ _ | refine blk_drew ?_ | refine blk_alloc ?_ _)); exact BK190.out⟩, ⟨by repeat (first | (with_reducible first | exact HB.out | apply below_alloc | apply pw_below_drewN | apply below_drew1 | refine below_set ?_ GE190.out) | exact HB.out)⟩⟩
 case rest =>
  clear HC5
  try clear c1
  try clear p2
  try clear c4
  try clear c6
  try clear c8
  try clear c9
  try clear c13
  try clear hcz10_0 hcz10_1 hcz10_10 hcz10_2 hcz10_3 hcz10_4 hcz10_5 hcz10_6 hcz10_7 hcz10_8 hcz10_9
  try clear hcz12_0 hcz12_1 hcz12_10 hcz12_2 hcz12_3 hcz12_4 hcz12_5 hcz12_6 hcz12_7 hcz12_8 hcz12_9
  try clear hfz10_0 hfz10_1 hfz10_10 hfz10_2 hfz10_3 hfz10_4 hfz10_5 hfz10_6 hfz10_7 hfz10_8 hfz10_9
  try clear hfz12_0 hfz12_1 hfz12_10 hfz12_2 hfz12_3 hfz12_4 hfz12_5 hfz12_6 hfz12_7 hfz12_8 hfz12_9
  obtain ⟨kq, x19_4, rfl, HA, HJ4, BK190, HB⟩ := hcut
  cases kq with
  | zero => exact absurd HA.out (by simp [cambiumlaw16_SpanMay.j0])
  | succ kj4 =>
   have H := HA.out
   clear HA
   simp only [cambiumlaw16_SpanMay.j0] at H
   by_cases c14 : x19_4 = true
   ·subst c14
    have H1 : (some true) = some r := by rw [if_pos rfl] at H; exact H
    clear H
    have H := H1
    clear H1
    obtain rfl := Option.some.inj H
    go_wp2
    go_ret
    exact ⟨by first | rfl | (simp [errW_none, errW_some] <;> rfl) | (simp [*, errW_none, errW_some] <;> rfl), by repeat (first | (with_reducible first | exact HB.out | apply below_alloc | apply pw_below_drewN | apply below_drew1 | refine below_set ?_ GE190.out) | exact HB.out)⟩
   replace c14 := Bool.eq_false_iff.mpr c14
   subst c14
   have H1 : ((span_Attr.f kj4 a0_0 a0_1 a0_2 a0_3 a0_4 a0_5 a0_6 a0_7 l0_8 l0_9 l0_10 a1).bind fun bt193 => (cambiumlaw16_SpanMay.l0 kj4 a1 bt193.2.2.2.2 false (wrap64 ((l0_8.length : Int) - 1)) a0_0 a0_1 a0_2 a0_3 a0_4 a0_5 a0_6 a0_7 l0_8 l0_9 l0_10 bt193.1 bt193.2.1 bt193.2.2.1 bt193.2.2.2.1 0 (⟨#[]⟩ : ByteArray) 0 false)) = some r := by rw [if_neg (show ¬ (false = true) by decide)] at H; exact H
   clear H
   have H := H1
   clear H1
   replace H := Option.bind_eq_some_iff.mp H
   obtain ⟨⟨t193, t194, t195, t196, t197⟩, A150, H⟩ := H
   replace H : (cambiumlaw16_SpanMay.l0 kj4 a1 t197 false (wrap64 ((l0_8.length : Int) - 1)) a0_0 a0_1 a0_2 a0_3 a0_4 a0_5 a0_6 a0_7 l0_8 l0_9 l0_10 t193 t194 t195 t196 0 (⟨#[]⟩ : ByteArray) 0 false) = some r := H
   have A15 := Aside0.mk A150
   clear A150
   have H' := Aside0.mk H
   clear H
   have hcz16_0 : wc.cell? ⟨gb190, 0, none⟩ = some (.int .u64 a0_0) := (blk_cell BK190.out 0).trans rfl
   have hcz16_1 : wc.cell? ⟨gb190, 1, none⟩ = some (.int .u64 a0_1) := (blk_cell BK190.out 1).trans rfl
   have hcz16_2 : wc.cell? ⟨gb190, 2, none⟩ = some (.int .u64 a0_2) := (blk_cell BK190.out 2).trans rfl
   have hcz16_3 : wc.cell? ⟨gb190, 3, none⟩ = some (.string a0_3) := (blk_cell BK190.out 3).trans rfl
   have hcz16_4 : wc.cell? ⟨gb190, 4, none⟩ = some (.string a0_4) := (blk_cell BK190.out 4).trans rfl
   have hcz16_5 : wc.cell? ⟨gb190, 5, none⟩ = some (.int .i64 a0_5) := (blk_cell BK190.out 5).trans rfl
   have hcz16_6 : wc.cell? ⟨gb190, 6, none⟩ = some (.int .i64 a0_6) := (blk_cell BK190.out 6).trans rfl
   have hcz16_7 : wc.cell? ⟨gb190, 7, none⟩ = some (.int .i64 a0_7) := (blk_cell BK190.out 7).trans rfl
   have hcz16_8 : wc.cell? ⟨gb190, 8, none⟩ = some (.slice A0_8 l0_8.length c0_8) := (blk_cell BK190.out 8).trans rfl
   have hcz16_9 : wc.cell? ⟨gb190, 9, none⟩ = some (.slice A0_9 l0_9.length c0_9) := (blk_cell BK190.out 9).trans rfl
   have hcz16_10 : wc.cell? ⟨gb190, 10, none⟩ = some (.slice A0_10 l0_10.length c0_10) := (blk_cell BK190.out 10).trans rfl
   have hfz16_0 := blk_frozen BK190.out 0
   have hfz16_1 := blk_frozen BK190.out 1
   have hfz16_2 := blk_frozen BK190.out 2
   have hfz16_3 := blk_frozen BK190.out 3
   have hfz16_4 := blk_frozen BK190.out 4
   have hfz16_5 := blk_frozen BK190.out 5
   have hfz16_6 := blk_frozen BK190.out 6
   have hfz16_7 := blk_frozen BK190.out 7
   have hfz16_8 := blk_frozen BK190.out 8
   have hfz16_9 := blk_frozen BK190.out 9
   have hfz16_10 := blk_frozen BK190.out 10
   go_wp2_with (first | ((with_reducible refine gate_callee (f := 16) rfl ?_); refine goesL_ (some 23) rfl rfl Tryd.func16 (by kernel_rfl) rfl #[.agg #[.int .u64 a0_0, .int .u64 a0_1, .int .u64 a0_2, .string a0_3, .string a0_4, .int .i64 a0_5, .int .i64 a0_6, .int .i64 a0_7, .slice A0_8 l0_8.length c0_8, .slice A0_9 l0_9.length c0_9, .slice A0_10 l0_10.length c0_10], .string a1] rfl q15y1 ?_; (with_reducible refine (span_Attr.calls kj4 a0_0 a0_1 a0_2 a0_3 a0_4 a0_5 a0_6 a0_7 _ _ l0_8 _ _ l0_9 _ _ l0_10 a1 t193 t194 t195 t196 t197 _ ?side1 ?side2 ?side3 ?side4 ?side5 ?side6 A15.out).mono ?_); (case side1 => repeat (first | exact (Kd.C_below HR0_8.out HB.out) | (with_reducible refine Kd.C_alloc ?_ _) | (with_reducible refine Kd.C_drewN ?_ _) | (with_reducible refine Kd.C_drew ?_))); (case side2 => exact HC0_8.out); (case side3 => repeat (first | exact (Kd.C_below HR0_9.out HB.out) | (with_reducible refine Kd.C_alloc ?_ _) | (with_reducible refine Kd.C_drewN ?_ _) | (with_reducible refine Kd.C_drew ?_))); (case side4 => exact HC0_9.out); (case side5 => repeat (first | exact (Kd.C_below HR0_10.out HB.out) | (with_reducible refine Kd.C_alloc ?_ _) | (with_reducible refine Kd.C_drewN ?_ _) | (with_reducible refine Kd.C_drew ?_))); (case side6 => exact HC0_10.out); rintro e w17 ⟨rfl, hb⟩; refine ⟨_, rfl, ?_⟩; have n0_ := Aside0.mk (blk_below (g := gb190) (o := .cells #[.int .u64 a0_0, .int .u64 a0_1, .int .u64 a0_2, .string a0_3, .string a0_4, .int .i64 a0_5, .int .i64 a0_6, .int .i64 a0_7, .slice A0_8 l0_8.length c0_8, .slice A0_9 l0_9.length c0_9, .slice A0_10 l0_10.length c0_10] 36 (0, 0)) q15y2 hb); have n1_ := Aside0.mk (below_step q15y6 hb); clear BK190; clear HB; have BK190 := n0_; have HB := n1_; clear n0_ n1_; (try clear hb); (try clear hb2); (try clear hk); (try clear hi)) | ((with_reducible refine gate_dst (N := 5) rfl ?_); (try (refine gate_guard (by rfl) ?_; dsimp only)); refine box_event ?hg (N := 5) ?hd (cs := #[.int .i64 0, .string (⟨#[]⟩ : ByteArray), .int .i64 0, .bool false]) (t := 23) ?hr ?_; (case hd => rfl); (case hg => rfl); (case hr => first | (go_simp; done) | (go_simp; rfl)); intro gb198 hg w18 hbox hb; have n0_ := Aside0.mk (blk_below (g := gb190) (o := .cells #[.int .u64 a0_0, .int .u64 a0_1, .int .u64 a0_2, .string a0_3, .string a0_4, .int .i64 a0_5, .int .i64 a0_6, .int .i64 a0_7, .slice A0_8 l0_8.length c0_8, .slice A0_9 l0_9.length c0_9, .slice A0_10 l0_10.length c0_10] 36 (0, 0)) q15y2 hb); have n1_ := Aside0.mk (below_step q15y6 hb); have n2_ := Aside0.mk (hbox); have n3_ := Aside0.mk ((by rw [hg]; exact (below_size q15y6) : w.heap.size ≤ gb198)); have n4_ := Aside0.mk ((by rw [hg]; exact (below_size q15y6) : w.heap.size ≤ gb198)); have n5_ := Aside0.mk ((by rw [hg]; exact Nat.ne_of_lt (blk_lt (g := gb190) (o := .cells #[.int .u64 a0_0, .int .u64 a0_1, .int .u64 a0_2, .string a0_3, .string a0_4, .int .i64 a0_5, .int .i64 a0_6, .int .i64 a0_7, .slice A0_8 l0_8.length c0_8, .slice A0_9 l0_9.length c0_9, .slice A0_10 l0_10.length c0_10] 36 (0, 0)) q15y2) : gb190 ≠ gb198)); have n6_ := Aside0.mk ((by rw [hg]; exact Nat.ne_of_gt (blk_lt (g := gb190) (o := .cells #[.int .u64 a0_0, .int .u64 a0_1, .int .u64 a0_2, .string a0_3, .string a0_4, .int .i64 a0_5, .int .i64 a0_6, .int .i64 a0_7, .slice A0_8 l0_8.length c0_8, .slice A0_9 l0_9.length c0_9, .slice A0_10 l0_10.length c0_10] 36 (0, 0)) q15y2) : gb198 ≠ gb190)); clear BK190; clear HB; have BK190 := n0_; have HB := n1_; have BK198 := n2_; have GW198 := n3_; have GE198 := n4_; have NB190_198 := n5_; have NB198_190 := n6_; clear n0_ n1_ n2_ n3_ n4_ n5_ n6_; clear hb hbox hg; have hnb19 := NB198_190.out; have hnc19 := NB190_198.out; have hcz20_0 : w18.cell? ⟨gb198, 0, none⟩ = some (.int .i64 0) := (blk_cell BK198.out 0).trans rfl; have hcz20_1 : w18.cell? ⟨gb198, 1, none⟩ = some (.string (⟨#[]⟩ : ByteArray)) := (blk_cell BK198.out 1).trans rfl; have hcz20_2 : w18.cell? ⟨gb198, 2, none⟩ = some (.int .i64 0) := (blk_cell BK198.out 2).trans rfl; have hcz20_3 : w18.cell? ⟨gb198, 3, none⟩ = some (.bool false) := (blk_cell BK198.out 3).trans rfl; have hfz20_0 := blk_frozen BK198.out 0; have hfz20_1 := blk_frozen BK198.out 1; have hfz20_2 := blk_frozen BK198.out 2; have hfz20_3 := blk_frozen BK198.out 3) | ((with_reducible refine gate_dst (N := 7) rfl ?_); (try (refine gate_guard (by rfl) ?_; dsimp only)); refine box_event ?hg (N := 7) ?hd (cs := #[.int .i64 0, .string (⟨#[]⟩ : ByteArray), .int .i64 0, .bool false]) (t := 23) ?hr ?_; (case hd => rfl); (case hg => rfl); (case hr => first | (go_simp; done) | (go_simp; rfl)); intro gb199 hg w21 hbox hb; have n0_ := Aside0.mk (blk_below (g := gb190) (o := .cells #[.int .u64 a0_0, .int .u64 a0_1, .int .u64 a0_2, .string a0_3, .string a0_4, .int .i64 a0_5, .int .i64 a0_6, .int .i64 a0_7, .slice A0_8 l0_8.length c0_8, .slice A0_9 l0_9.length c0_9, .slice A0_10 l0_10.length c0_10] 36 (0, 0)) (by (with_reducible repeat (first | refine blk_drewN ?_ _ | refine blk_drew ?_ | refine blk_alloc ?_ _)); refine blk_far ?_ NB190_198.out _; (with_reducible repeat (first | refine blk_drewN ?_ _ | refine blk_drew ?_ | refine blk_alloc ?_ _)); refine blk_far ?_ NB190_198.out _; (with_reducible repeat (first | refine blk_drewN ?_ _ | refine blk_drew ?_ | refine blk_alloc ?_ _)); refine blk_far ?_ NB190_198.out _; (with_reducible repeat (first | refine blk_drewN ?_ _ | refine blk_drew ?_ | refine blk_alloc ?_ _)); refine blk_far ?_ NB190_198.out _; (with_reducible repeat (first | refine blk_drewN ?_ _ | refine blk_drew ?_ | refine blk_alloc ?_ _)); exact BK190.out) hb); have n1_ := Aside0.mk (blk_below (g := gb198) (o := .cells #[.int .i64 t193, .string t194, .int .i64 t195, .bool t196] 23 (0, 0)) (by (with_reducible repeat (first | refine blk_drewN ?_ _ | refine blk_drew ?_ | refine blk_alloc ?_ _)); refine blk_put (cs := #[.int .i64 t193, .string t194, .int .i64 t195, .bool false]) ?_ 3 _ rfl; (with_reducible repeat (first | refine blk_drewN ?_ _ | refine blk_drew ?_ | refine blk_alloc ?_ _)); refine blk_put (cs := #[.int .i64 t193, .string t194, .int .i64 0, .bool false]) ?_ 2 _ rfl; (with_reducible repeat (first | refine blk_drewN ?_ _ | refine blk_drew ?_ | refine blk_alloc ?_ _)); refine blk_put (cs := #[.int .i64 t193, .string (⟨#[]⟩ : ByteArray), .int .i64 0, .bool false]) ?_ 1 _ rfl; (with_reducible repeat (first | refine blk_drewN ?_ _ | refine blk_drew ?_ | refine blk_alloc ?_ _)); refine blk_put (cs := #[.int .i64 0, .string (⟨#[]⟩ : ByteArray), .int .i64 0, .bool false]) ?_ 0 _ rfl; (with_reducible repeat (first | refine blk_drewN ?_ _ | refine blk_drew ?_ | refine blk_alloc ?_ _)); exact BK198.out) hb); have n2_ := Aside0.mk (below_step q15y9 hb); have n3_ := Aside0.mk (hbox); have n4_ := Aside0.mk ((by rw [hg]; exact (below_size q15y9) : w.heap.size ≤ gb199)); have n5_ := Aside0.mk ((by rw [hg]; exact (below_size q15y9) : w.heap.size ≤ gb199)); have n6_ := Aside0.mk ((by rw [hg]; exact Nat.ne_of_lt (blk_lt (g := gb190) (o := .cells #[.int .u64 a0_0, .int .u64 a0_1, .int .u64 a0_2, .string a0_3, .string a0_4, .int .i64 a0_5, .int .i64 a0_6, .int .i64 a0_7, .slice A0_8 l0_8.length c0_8, .slice A0_9 l0_9.length c0_9, .slice A0_10 l0_10.length c0_10] 36 (0, 0)) (by (with_reducible repeat (first | refine blk_drewN ?_ _ | refine blk_drew ?_ | refine blk_alloc ?_ _)); refine blk_far ?_ NB190_198.out _; (with_reducible repeat (first | refine blk_drewN ?_ _ | refine blk_drew ?_ | refine blk_alloc ?_ _)); refine blk_far ?_ NB190_198.out _; (with_reducible repeat (first | refine blk_drewN ?_ _ | refine blk_drew ?_ | refine blk_alloc ?_ _)); refine blk_far ?_ NB190_198.out _; (with_reducible repeat (first | refine blk_drewN ?_ _ | refine blk_drew ?_ | refine blk_alloc ?_ _)); refine blk_far ?_ NB190_198.out _; (with_reducible repeat (first | refine blk_drewN ?_ _ | refine blk_drew ?_ | refine blk_alloc ?_ _)); exact BK190.out)) : gb190 ≠ gb199)); have n7_ := Aside0.mk ((by rw [hg]; exact Nat.ne_of_gt (blk_lt (g := gb190) (o := .cells #[.int .u64 a0_0, .int .u64 a0_1, .int .u64 a0_2, .string a0_3, .string a0_4, .int .i64 a0_5, .int .i64 a0_6, .int .i64 a0_7, .slice A0_8 l0_8.length c0_8, .slice A0_9 l0_9.length c0_9, .slice A0_10 l0_10.length c0_10] 36 (0, 0)) (by (with_reducible repeat (first | refine blk_drewN ?_ _ | refine blk_drew ?_ | refine blk_alloc ?_ _)); refine blk_far ?_ NB190_198.out _; (with_reducible repeat (first | refine blk_drewN ?_ _ | refine blk_drew ?_ | refine blk_alloc ?_ _)); refine blk_far ?_ NB190_198.out _; (with_reducible repeat (first | refine blk_drewN ?_ _ | refine blk_drew ?_ | refine blk_alloc ?_ _)); refine blk_far ?_ NB190_198.out _; (with_reducible repeat (first | refine blk_drewN ?_ _ | refine blk_drew ?_ | refine blk_alloc ?_ _)); refine blk_far ?_ NB190_198.out _; (with_reducible repeat (first | refine blk_drewN ?_ _ | refine blk_drew ?_ | refine blk_alloc ?_ _)); exact BK190.out)) : gb199 ≠ gb190)); have n8_ := Aside0.mk ((by rw [hg]; exact Nat.ne_of_lt (blk_lt (g := gb198) (o := .cells #[.int .i64 t193, .string t194, .int .i64 t195, .bool t196] 23 (0, 0)) (by (with_reducible repeat (first | refine blk_drewN ?_ _ | refine blk_drew ?_ | refine blk_alloc ?_ _)); refine blk_put (cs := #[.int .i64 t193, .string t194, .int .i64 t195, .bool false]) ?_ 3 _ rfl; (with_reducible repeat (first | refine blk_drewN ?_ _ | refine blk_drew ?_ | refine blk_alloc ?_ _)); refine blk_put (cs := #[.int .i64 t193, .string t194, .int .i64 0, .bool false]) ?_ 2 _ rfl; (with_reducible repeat (first | refine blk_drewN ?_ _ | refine blk_drew ?_ | refine blk_alloc ?_ _)); refine blk_put (cs := #[.int .i64 t193, .string (⟨#[]⟩ : ByteArray), .int .i64 0, .bool false]) ?_ 1 _ rfl; (with_reducible repeat (first | refine blk_drewN ?_ _ | refine blk_drew ?_ | refine blk_alloc ?_ _)); refine blk_put (cs := #[.int .i64 0, .string (⟨#[]⟩ : ByteArray), .int .i64 0, .bool false]) ?_ 0 _ rfl; (with_reducible repeat (first | refine blk_drewN ?_ _ | refine blk_drew ?_ | refine blk_alloc ?_ _)); exact BK198.out)) : gb198 ≠ gb199)); have n9_ := Aside0.mk ((by rw [hg]; exact Nat.ne_of_gt (blk_lt (g := gb198) (o := .cells #[.int .i64 t193, .string t194, .int .i64 t195, .bool t196] 23 (0, 0)) (by (with_reducible repeat (first | refine blk_drewN ?_ _ | refine blk_drew ?_ | refine blk_alloc ?_ _)); refine blk_put (cs := #[.int .i64 t193, .string t194, .int .i64 t195, .bool false]) ?_ 3 _ rfl; (with_reducible repeat (first | refine blk_drewN ?_ _ | refine blk_drew ?_ | refine blk_alloc ?_ _)); refine blk_put (cs := #[.int .i64 t193, .string t194, .int .i64 0, .bool false]) ?_ 2 _ rfl; (with_reducible repeat (first | refine blk_drewN ?_ _ | refine blk_drew ?_ | refine blk_alloc ?_ _)); refine blk_put (cs := #[.int .i64 t193, .string (⟨#[]⟩ : ByteArray), .int .i64 0, .bool false]) ?_ 1 _ rfl; (with_reducible repeat (first | refine blk_drewN ?_ _ | refine blk_drew ?_ | refine blk_alloc ?_ _)); refine blk_put (cs := #[.int .i64 0, .string (⟨#[]⟩ : ByteArray), .int .i64 0, .bool false]) ?_ 0 _ rfl; (with_reducible repeat (first | refine blk_drewN ?_ _ | refine blk_drew ?_ | refine blk_alloc ?_ _)); exact BK198.out)) : gb199 ≠ gb198)); clear BK190; clear BK198; clear HB; have BK190 := n0_; have BK198 := n1_; have HB := n2_; have BK199 := n3_; have GW199 := n4_; have GE199 := n5_; have NB190_199 := n6_; have NB199_190 := n7_; have NB198_199 := n8_; have NB199_198 := n9_; clear n0_ n1_ n2_ n3_ n4_ n5_ n6_ n7_ n8_ n9_; clear hb hbox hg; have hnb22 := NB199_190.out; have hnc22 := NB190_199.out; have hnb23 := NB199_198.out; have hnc23 := NB198_199.out; have hcz24_0 : w21.cell? ⟨gb199, 0, none⟩ = some (.int .i64 0) := (blk_cell BK199.out 0).trans rfl; have hcz24_1 : w21.cell? ⟨gb199, 1, none⟩ = some (.string (⟨#[]⟩ : ByteArray)) := (blk_cell BK199.out 1).trans rfl; have hcz24_2 : w21.cell? ⟨gb199, 2, none⟩ = some (.int .i64 0) := (blk_cell BK199.out 2).trans rfl; have hcz24_3 : w21.cell? ⟨gb199, 3, none⟩ = some (.bool false) := (blk_cell BK199.out 3).trans rfl; have hfz24_0 := blk_frozen BK199.out 0; have hfz24_1 := blk_frozen BK199.out 1; have hfz24_2 := blk_frozen BK199.out 2; have hfz24_3 := blk_frozen BK199.out 3; have hcz25_0 : w21.cell? ⟨gb190, 0, none⟩ = some (.int .u64 a0_0) := (blk_cell BK190.out 0).trans rfl; have hcz25_1 : w21.cell? ⟨gb190, 1, none⟩ = some (.int .u64 a0_1) := (blk_cell BK190.out 1).trans rfl; have hcz25_2 : w21.cell? ⟨gb190, 2, none⟩ = some (.int .u64 a0_2) := (blk_cell BK190.out 2).trans rfl; have hcz25_3 : w21.cell? ⟨gb190, 3, none⟩ = some (.string a0_3) := (blk_cell BK190.out 3).trans rfl; have hcz25_4 : w21.cell? ⟨gb190, 4, none⟩ = some (.string a0_4) := (blk_cell BK190.out 4).trans rfl; have hcz25_5 : w21.cell? ⟨gb190, 5, none⟩ = some (.int .i64 a0_5) := (blk_cell BK190.out 5).trans rfl; have hcz25_6 : w21.cell? ⟨gb190, 6, none⟩ = some (.int .i64 a0_6) := (blk_cell BK190.out 6).trans rfl; have hcz25_7 : w21.cell? ⟨gb190, 7, none⟩ = some (.int .i64 a0_7) := (blk_cell BK190.out 7).trans rfl; have hcz25_8 : w21.cell? ⟨gb190, 8, none⟩ = some (.slice A0_8 l0_8.length c0_8) := (blk_cell BK190.out 8).trans rfl; have hcz25_9 : w21.cell? ⟨gb190, 9, none⟩ = some (.slice A0_9 l0_9.length c0_9) := (blk_cell BK190.out 9).trans rfl; have hcz25_10 : w21.cell? ⟨gb190, 10, none⟩ = some (.slice A0_10 l0_10.length c0_10) := (blk_cell BK190.out 10).trans rfl; have hfz25_0 := blk_frozen BK190.out 0; have hfz25_1 := blk_frozen BK190.out 1; have hfz25_2 := blk_frozen BK190.out 2; have hfz25_3 := blk_frozen BK190.out 3; have hfz25_4 := blk_frozen BK190.out 4; have hfz25_5 := blk_frozen BK190.out 5; have hfz25_6 := blk_frozen BK190.out 6; have hfz25_7 := blk_frozen BK190.out 7; have hfz25_8 := blk_frozen BK190.out 8; have hfz25_9 := blk_frozen BK190.out 9; have hfz25_10 := blk_frozen BK190.out 10))
   go_loopg [8, 9] kj4 (fun kq v8 v9 w' => ∃ (x8_2 : Bool) (x9_2 : Int) (x200000_2 : Int) (x200001_2 : ByteArray) (x200002_2 : Int) (x200003_2 : Bool), v8 = .bool x8_2 ∧ v9 = .int .i64 x9_2 ∧ Aside0 (cambiumlaw16_SpanMay.l0 kq a1 t197 x8_2 x9_2 a0_0 a0_1 a0_2 a0_3 a0_4 a0_5 a0_6 a0_7 l0_8 l0_9 l0_10 t193 t194 t195 t196 x200000_2 x200001_2 x200002_2 x200003_2 = some r) ∧ Aside0 (kq ≤ kj4) ∧ Aside0 (w'.heap[gb190]? = some (.cells #[.int .u64 a0_0, .int .u64 a0_1, .int .u64 a0_2, .string a0_3, .string a0_4, .int .i64 a0_5, .int .i64 a0_6, .int .i64 a0_7, (.slice A0_8 l0_8.length c0_8), (.slice A0_9 l0_9.length c0_9), (.slice A0_10 l0_10.length c0_10)] 36 (0, 0))) ∧ Aside0 (w'.heap[gb198]? = some (.cells #[.int .i64 t193, .string t194, .int .i64 t195, .bool t196] 23 (0, 0))) ∧ Aside0 (w'.heap[gb199]? = some (.cells #[.int .i64 x200000_2, .string x200001_2, .int .i64 x200002_2, .bool x200003_2] 23 (0, 0))) ∧ Aside0 (Below w.heap.size w w'))
   case atStart => exact ⟨(false), (wrap64 ((l0_8.length : Int) - 1)), (0), ((⟨#[]⟩ : ByteArray)), (0), (false), q15y8, q15y8, H', ⟨Nat.le_refl _⟩, ⟨by (with_reducible repeat (first | refine blk_drewN ?_ _ | refine blk_drew ?_ | refine blk_alloc ?_ _)); refine blk_far ?_ NB190_199.out _; (with_reducible repeat (first | refine blk_drewN ?_ _ | refine blk_drew ?_ | refine blk_alloc ?_ _)); refine blk_far ?_ NB190_199.out _; (with_reducible repeat (first | refine blk_drewN ?_ _ | refine blk_drew ?_ | refine blk_alloc ?_ _)); refine blk_far ?_ NB190_199.out _; (with_reducible repeat (first | refine blk_drewN ?_ _ | refine blk_drew ?_ | refine blk_alloc ?_ _)); refine blk_far ?_ NB190_199.out _; (with_reducible repeat (first | refine blk_drewN ?_ _ | refine blk_drew ?_ | refine blk_alloc ?_ _)); exact BK190.out⟩, ⟨by (with_reducible repeat (first | refine blk_drewN ?_ _ | refine blk_drew ?_ | refine blk_alloc ?_ _)); refine blk_far ?_ NB198_199.out _; (with_reducible repeat (first | refine blk_drewN ?_ _ | refine blk_drew ?_ | refine blk_alloc ?_ _)); refine blk_far ?_ NB198_199.out _; (with_reducible repeat (first | refine blk_drewN ?_ _ | refine blk_drew ?_ | refine blk_alloc ?_ _)); refine blk_far ?_ NB198_199.out _; (with_reducible repeat (first | refine blk_drewN ?_ _ | refine blk_drew ?_ | refine blk_alloc ?_ _)); refine blk_far ?_ NB198_199.out _; (with_reducible repeat (first | refine blk_drewN ?_ _ | refine blk_drew ?_ | refine blk_alloc ?_ _)); exact BK198.out⟩, ⟨by (with_reducible repeat (first | refine blk_drewN ?_ _ | refine blk_drew ?_ | refine blk_alloc ?_ _)); refine blk_put (cs := #[.int .i64 0, .string (⟨#[]⟩ : ByteArray), .int .i64 0, .bool false]) ?_ 3 _ rfl; (with_reducible repeat (first | refine blk_drewN ?_ _ | refine blk_drew ?_ | refine blk_alloc ?_ _)); refine blk_put (cs := #[.int .i64 0, .string (⟨#[]⟩ : ByteArray), .int .i64 0, .bool false]) ?_ 2 _ rfl; (with_reducible repeat (first | refine blk_drewN ?_ _ | refine blk_drew ?_ | refine blk_alloc ?_ _)); refine blk_put (cs := #[.int .i64 0, .string (⟨#[]⟩ : ByteArray), .int .i64 0, .bool false]) ?_ 1 _ rfl; (with_reducible repeat (first | refine blk_drewN ?_ _ | refine blk_drew ?_ | refine blk_alloc ?_ _)); refine blk_put (cs := #[.int .i64 0, .string (⟨#[]⟩ : ByteArray), .int .i64 0, .bool false]) ?_ 0 _ rfl; (with_reducible repeat (first | refine blk_drewN ?_ _ | refine blk_drew ?_ | refine blk_alloc ?_ _)); exact BK199.out⟩, ⟨by repeat (first | (with_reducible first | exact HB.out | apply below_alloc | apply pw_below_drewN | apply below_drew1 | refine below_set ?_ GE190.out | refine below_set ?_ GE198.out | refine below_set ?_ GE199.out) | exact HB.out)⟩⟩
   case round =>
    clear H'
    try clear c1
    try clear c2
    try clear p2
    try clear c4
    try clear c6
    try clear p6
    try clear c8
    try clear c9
    try clear c13
    try clear c14
    try clear c16
    try clear c19
    try clear c22
    try clear c23
    try clear hcz10_0 hcz10_1 hcz10_10 hcz10_2 hcz10_3 hcz10_4 hcz10_5 hcz10_6 hcz10_7 hcz10_8 hcz10_9
    try clear hcz12_0 hcz12_1 hcz12_10 hcz12_2 hcz12_3 hcz12_4 hcz12_5 hcz12_6 hcz12_7 hcz12_8 hcz12_9
    try clear hcz16_0 hcz16_1 hcz16_10 hcz16_2 hcz16_3 hcz16_4 hcz16_5 hcz16_6 hcz16_7 hcz16_8 hcz16_9
    try clear hcz20_0 hcz20_1 hcz20_2 hcz20_3
    try clear hcz24_0 hcz24_1 hcz24_2 hcz24_3
    try clear hcz25_0 hcz25_1 hcz25_10 hcz25_2 hcz25_3 hcz25_4 hcz25_5 hcz25_6 hcz25_7 hcz25_8 hcz25_9
    try clear hfz10_0 hfz10_1 hfz10_10 hfz10_2 hfz10_3 hfz10_4 hfz10_5 hfz10_6 hfz10_7 hfz10_8 hfz10_9
    try clear hfz12_0 hfz12_1 hfz12_10 hfz12_2 hfz12_3 hfz12_4 hfz12_5 hfz12_6 hfz12_7 hfz12_8 hfz12_9
    try clear hfz16_0 hfz16_1 hfz16_10 hfz16_2 hfz16_3 hfz16_4 hfz16_5 hfz16_6 hfz16_7 hfz16_8 hfz16_9
    try clear hfz20_0 hfz20_1 hfz20_2 hfz20_3
    try clear hfz24_0 hfz24_1 hfz24_2 hfz24_3
    try clear hfz25_0 hfz25_1 hfz25_10 hfz25_2 hfz25_3 hfz25_4 hfz25_5 hfz25_6 hfz25_7 hfz25_8 hfz25_9
    try clear p2
    obtain ⟨x8_2, x9_2, x200000_2, x200001_2, x200002_2, x200003_2, rfl, rfl, HA, HK2, BK190, BK198, BK199, HB⟩ := hrel
    cases gk with
    | zero => exact absurd HA.out (by simp [cambiumlaw16_SpanMay.l0])
    | succ k2 =>
     have H := HA.out
     clear HA
     simp only [cambiumlaw16_SpanMay.l0] at H
     by_cases c26 : x9_2 ≥ 0
     ·rw [if_pos c26] at H
      have c26b0 : decide (0 ≤ x9_2) = true := decide_eq_true c26
      clear c26
      by_cases c27 : 0 ≤ x9_2
      rotate_left
      ·rw [if_neg c27] at H
       exact absurd H (by simp)
      rw [if_pos c27] at H
      have c27b0 : decide (0 ≤ x9_2) = true := decide_eq_true c27
      clear c27
      by_cases c28 : x9_2 < (l0_8.length : Int)
      rotate_left
      ·rw [if_neg c28] at H
       exact absurd H (by simp)
      rw [if_pos c28] at H
      have c28b0 : decide (x9_2 < (l0_8.length : Int)) = true := decide_eq_true c28
      clear c28
      by_cases c29 : ((rd_T43 l0_8 x9_2).f0).toList = a1.toList
      rotate_left
      ·rw [if_neg c29] at H
       have c29b0 : (((rd_T43 l0_8 x9_2).f0).toList == a1.toList) = false := beq_eq_false_iff_ne.mpr c29
       have c29b1 : (((rd_T43 l0_8 x9_2).f0).toList != a1.toList) = true := bne_iff_ne.mpr c29
       have H' := Aside0.mk H
       clear H
       have hnb35 := NB190_198.out
       have hnc35 := NB198_190.out
       have hnb36 := NB190_199.out
       have hnc36 := NB199_190.out
       have hcz37_0 : wr.cell? ⟨gb190, 0, none⟩ = some (.int .u64 a0_0) := (blk_cell BK190.out 0).trans rfl
       have hcz37_1 : wr.cell? ⟨gb190, 1, none⟩ = some (.int .u64 a0_1) := (blk_cell BK190.out 1).trans rfl
       have hcz37_2 : wr.cell? ⟨gb190, 2, none⟩ = some (.int .u64 a0_2) := (blk_cell BK190.out 2).trans rfl
       have hcz37_3 : wr.cell? ⟨gb190, 3, none⟩ = some (.string a0_3) := (blk_cell BK190.out 3).trans rfl
       have hcz37_4 : wr.cell? ⟨gb190, 4, none⟩ = some (.string a0_4) := (blk_cell BK190.out 4).trans rfl
       have hcz37_5 : wr.cell? ⟨gb190, 5, none⟩ = some (.int .i64 a0_5) := (blk_cell BK190.out 5).trans rfl
       have hcz37_6 : wr.cell? ⟨gb190, 6, none⟩ = some (.int .i64 a0_6) := (blk_cell BK190.out 6).trans rfl
       have hcz37_7 : wr.cell? ⟨gb190, 7, none⟩ = some (.int .i64 a0_7) := (blk_cell BK190.out 7).trans rfl
       have hcz37_8 : wr.cell? ⟨gb190, 8, none⟩ = some (.slice A0_8 l0_8.length c0_8) := (blk_cell BK190.out 8).trans rfl
       have hcz37_9 : wr.cell? ⟨gb190, 9, none⟩ = some (.slice A0_9 l0_9.length c0_9) := (blk_cell BK190.out 9).trans rfl
       have hcz37_10 : wr.cell? ⟨gb190, 10, none⟩ = some (.slice A0_10 l0_10.length c0_10) := (blk_cell BK190.out 10).trans rfl
       have hfz37_0 := blk_frozen BK190.out 0
       have hfz37_1 := blk_frozen BK190.out 1
       have hfz37_2 := blk_frozen BK190.out 2
       have hfz37_3 := blk_frozen BK190.out 3
       have hfz37_4 := blk_frozen BK190.out 4
       have hfz37_5 := blk_frozen BK190.out 5
       have hfz37_6 := blk_frozen BK190.out 6
       have hfz37_7 := blk_frozen BK190.out 7
       have hfz37_8 := blk_frozen BK190.out 8
       have hfz37_9 := blk_frozen BK190.out 9
       have hfz37_10 := blk_frozen BK190.out 10
       have p200 : 0 ≤ (x9_2 : Int) := of_decide_eq_true q15y10
       have q200 : x9_2 < (l0_8.length : Int) := of_decide_eq_true q15y10
       obtain ⟨ad200, e200, hx200_0, hx200_1, hx200_2, hx200_3, hx200_4⟩ := at_T43 HR0_8.out x9_2 p200 q200
       cases e200
       replace hx200_0 := (HB.out.cell (World.block_lt_of_cell? w _ hx200_0)).trans hx200_0
       replace hx200_1 := (HB.out.cell (World.block_lt_of_cell? w _ hx200_1)).trans hx200_1
       replace hx200_2 := (HB.out.cell (World.block_lt_of_cell? w _ hx200_2)).trans hx200_2
       replace hx200_3 := (HB.out.cell (World.block_lt_of_cell? w _ hx200_3)).trans hx200_3
       replace hx200_4 := (HB.out.cell (World.block_lt_of_cell? w _ hx200_4)).trans hx200_4
       replace p200 := eq_true p200
       replace q200 := eq_true q200
       go_wp2
       go_roundg k2
       case measure => have := HJ4.out; have := HK2.out; omega
       case rel => exact ⟨(x8_2), (wrap64 (x9_2 - 1)), (x200000_2), (x200001_2), (x200002_2), (x200003_2), q15y8, q15y8, H', ⟨by have := HJ4.out; have := HK2.out; omega⟩, ⟨by (with_reducible repeat (first | refine blk_drewN ?_ _ | refine blk_drew ?_ | refine blk_alloc ?_ _)); exact BK190.out⟩, ⟨by (with_reducible repeat (first | refine blk_drewN ?_ _ | refine blk_drew ?_ | refine blk_alloc ?_ _)); exact BK198.out⟩, ⟨by (with_reducible repeat (first | refine blk_drewN ?_ _ | refine blk_drew ?_ | refine blk_alloc ?_ _)); exact BK199.out⟩, ⟨by repeat (first | (with_reducible first | exact HB.out | apply below_alloc | apply pw_below_drewN | apply below_drew1 | refine below_set ?_ GE190.out | refine below_set ?_ GE198.out | refine below_set ?_ GE199.out) | exact HB.out)⟩⟩
      rw [if_pos c29] at H
      have c29b0 : (((rd_T43 l0_8 x9_2).f0).toList == a1.toList) = true := beq_iff_eq.mpr c29
      have c29b1 : (((rd_T43 l0_8 x9_2).f0).toList != a1.toList) = false := bne_eq_false_iff_eq.mpr c29
      clear c29
      have H' := Aside0.mk H
      clear H
      have hnb30 := NB190_198.out
      have hnc30 := NB198_190.out
      have hnb31 := NB190_199.out
      have hnc31 := NB199_190.out
      have hcz32_0 : wr.cell? ⟨gb190, 0, none⟩ = some (.int .u64 a0_0) := (blk_cell BK190.out 0).trans rfl
      have hcz32_1 : wr.cell? ⟨gb190, 1, none⟩ = some (.int .u64 a0_1) := (blk_cell BK190.out 1).trans rfl
      have hcz32_2 : wr.cell? ⟨gb190, 2, none⟩ = some (.int .u64 a0_2) := (blk_cell BK190.out 2).trans rfl
      have hcz32_3 : wr.cell? ⟨gb190, 3, none⟩ = some (.string a0_3) := (blk_cell BK190.out 3).trans rfl
      have hcz32_4 : wr.cell? ⟨gb190, 4, none⟩ = some (.string a0_4) := (blk_cell BK190.out 4).trans rfl
      have hcz32_5 : wr.cell? ⟨gb190, 5, none⟩ = some (.int .i64 a0_5) := (blk_cell BK190.out 5).trans rfl
      have hcz32_6 : wr.cell? ⟨gb190, 6, none⟩ = some (.int .i64 a0_6) := (blk_cell BK190.out 6).trans rfl
      have hcz32_7 : wr.cell? ⟨gb190, 7, none⟩ = some (.int .i64 a0_7) := (blk_cell BK190.out 7).trans rfl
      have hcz32_8 : wr.cell? ⟨gb190, 8, none⟩ = some (.slice A0_8 l0_8.length c0_8) := (blk_cell BK190.out 8).trans rfl
      have hcz32_9 : wr.cell? ⟨gb190, 9, none⟩ = some (.slice A0_9 l0_9.length c0_9) := (blk_cell BK190.out 9).trans rfl
      have hcz32_10 : wr.cell? ⟨gb190, 10, none⟩ = some (.slice A0_10 l0_10.length c0_10) := (blk_cell BK190.out 10).trans rfl
      have hfz32_0 := blk_frozen BK190.out 0
      have hfz32_1 := blk_frozen BK190.out 1
      have hfz32_2 := blk_frozen BK190.out 2
      have hfz32_3 := blk_frozen BK190.out 3
      have hfz32_4 := blk_frozen BK190.out 4
      have hfz32_5 := blk_frozen BK190.out 5
      have hfz32_6 := blk_frozen BK190.out 6
      have hfz32_7 := blk_frozen BK190.out 7
      have hfz32_8 := blk_frozen BK190.out 8
      have hfz32_9 := blk_frozen BK190.out 9
      have hfz32_10 := blk_frozen BK190.out 10
      have p200 : 0 ≤ (x9_2 : Int) := of_decide_eq_true q15y10
      have q200 : x9_2 < (l0_8.length : Int) := of_decide_eq_true q15y10
      obtain ⟨ad200, e200, hx200_0, hx200_1, hx200_2, hx200_3, hx200_4⟩ := at_T43 HR0_8.out x9_2 p200 q200
      cases e200
      replace hx200_0 := (HB.out.cell (World.block_lt_of_cell? w _ hx200_0)).trans hx200_0
      replace hx200_1 := (HB.out.cell (World.block_lt_of_cell? w _ hx200_1)).trans hx200_1
      replace hx200_2 := (HB.out.cell (World.block_lt_of_cell? w _ hx200_2)).trans hx200_2
      replace hx200_3 := (HB.out.cell (World.block_lt_of_cell? w _ hx200_3)).trans hx200_3
      replace hx200_4 := (HB.out.cell (World.block_lt_of_cell? w _ hx200_4)).trans hx200_4
      replace p200 := eq_true p200
      replace q200 := eq_true q200
      have p201 : 0 ≤ (x9_2 : Int) := of_decide_eq_true q15y10
      have q201 : x9_2 < (l0_8.length : Int) := of_decide_eq_true q15y10
      obtain ⟨ad201, e201, hx201_0, hx201_1, hx201_2, hx201_3, hx201_4⟩ := at_T43 HR0_8.out x9_2 p201 q201
      obtain rfl : ad200 = ad201 := (by injection e201)
      replace hx201_0 := (HB.out.cell (World.block_lt_of_cell? w _ hx201_0)).trans hx201_0
      replace hx201_1 := (HB.out.cell (World.block_lt_of_cell? w _ hx201_1)).trans hx201_1
      replace hx201_2 := (HB.out.cell (World.block_lt_of_cell? w _ hx201_2)).trans hx201_2
      replace hx201_3 := (HB.out.cell (World.block_lt_of_cell? w _ hx201_3)).trans hx201_3
      replace hx201_4 := (HB.out.cell (World.block_lt_of_cell? w _ hx201_4)).trans hx201_4
      replace p201 := eq_true p201
      replace q201 := eq_true q201
      have hnb33 := NB199_198.out
      have hnc33 := NB198_199.out
      have hcz34_0 : wr.cell? ⟨gb199, 0, none⟩ = some (.int .i64 x200000_2) := (blk_cell BK199.out 0).trans rfl
      have hcz34_1 : wr.cell? ⟨gb199, 1, none⟩ = some (.string x200001_2) := (blk_cell BK199.out 1).trans rfl
      have hcz34_2 : wr.cell? ⟨gb199, 2, none⟩ = some (.int .i64 x200002_2) := (blk_cell BK199.out 2).trans rfl
      have hcz34_3 : wr.cell? ⟨gb199, 3, none⟩ = some (.bool x200003_2) := (blk_cell BK199.out 3).trans rfl
      have hfz34_0 := blk_frozen BK199.out 0
      have hfz34_1 := blk_frozen BK199.out 1
      have hfz34_2 := blk_frozen BK199.out 2
      have hfz34_3 := blk_frozen BK199.out 3
      go_wp2
      go_roundg k2
      case measure => have := HJ4.out; have := HK2.out; omega
      case rel => exact ⟨(true), (wrap64 (x9_2 - 1)), ((rd_T43 l0_8 x9_2).f1.f0), ((rd_T43 l0_8 x9_2).f1.f1), ((rd_T43 l0_8 x9_2).f1.f2), ((rd_T43 l0_8 x9_2).f1.f3), q15y8, q15y8, H', ⟨by have := HJ4.out; have := HK2.out; omega⟩, ⟨by (with_reducible repeat (first | refine blk_drewN ?_ _ | refine blk_drew ?_ | refine blk_alloc ?_ _)); refine blk_far ?_ NB190_199.out _; (with_reducible repeat (first | refine blk_drewN ?_ _ | refine blk_drew ?_ | refine blk_alloc ?_ _)); refine blk_far ?_ NB190_199.out _; (with_reducible repeat (first | refine blk_drewN ?_ _ | refine blk_drew ?_ | refine blk_alloc ?_ _)); refine blk_far ?_ NB190_199.out _; (with_reducible repeat (first | refine blk_drewN ?_ _ | refine blk_drew ?_ | refine blk_alloc ?_ _)); refine blk_far ?_ NB190_199.out _; (with_reducible repeat (first | refine blk_drewN ?_ _ | refine blk_drew ?_ | refine blk_alloc ?_ _)); exact BK190.out⟩, ⟨by (with_reducible repeat (first | refine blk_drewN ?_ _ | refine blk_drew ?_ | refine blk_alloc ?_ _)); refine blk_far ?_ NB198_199.out _; (with_reducible repeat (first | refine blk_drewN ?_ _ | refine blk_drew ?_ | refine blk_alloc ?_ _)); refine blk_far ?_ NB198_199.out _; (with_reducible repeat (first | refine blk_drewN ?_ _ | refine blk_drew ?_ | refine blk_alloc ?_ _)); refine blk_far ?_ NB198_199.out _; (with_reducible repeat (first | refine blk_drewN ?_ _ | refine blk_drew ?_ | refine blk_alloc ?_ _)); refine blk_far ?_ NB198_199.out _; (with_reducible repeat (first | refine blk_drewN ?_ _ | refine blk_drew ?_ | refine blk_alloc ?_ _)); exact BK198.out⟩, ⟨by (with_reducible repeat (first | refine blk_drewN ?_ _ | refine blk_drew ?_ | refine blk_alloc ?_ _)); refine blk_put (cs := #[.int .i64 ((rd_T43 l0_8 x9_2).f1.f0), .string ((rd_T43 l0_8 x9_2).f1.f1), .int .i64 ((rd_T43 l0_8 x9_2).f1.f2), .bool x200003_2]) ?_ 3 _ rfl; (with_reducible repeat (first | refine blk_drewN ?_ _ | refine blk_drew ?_ | refine blk_alloc ?_ _)); refine blk_put (cs := #[.int .i64 ((rd_T43 l0_8 x9_2).f1.f0), .string ((rd_T43 l0_8 x9_2).f1.f1), .int .i64 x200002_2, .bool x200003_2]) ?_ 2 _ rfl; (with_reducible repeat (first | refine blk_drewN ?_ _ | refine blk_drew ?_ | refine blk_alloc ?_ _)); refine blk_put (cs := #[.int .i64 ((rd_T43 l0_8 x9_2).f1.f0), .string x200001_2, .int .i64 x200002_2, .bool x200003_2]) ?_ 1 _ rfl; (with_reducible repeat (first | refine blk_drewN ?_ _ | refine blk_drew ?_ | refine blk_alloc ?_ _)); refine blk_put (cs := #[.int .i64 x200000_2, .string x200001_2, .int .i64 x200002_2, .bool x200003_2]) ?_ 0 _ rfl; (with_reducible repeat (first | refine blk_drewN ?_ _ | refine blk_drew ?_ | refine blk_alloc ?_ _)); exact BK199.out⟩, ⟨by repeat (first | (with_reducible first | exact HB.out | apply below_alloc | apply pw_below_drewN | apply below_drew1 | refine below_set ?_ GE190.out | refine below_set ?_ GE198.out | refine below_set ?_ GE199.out) | exact HB.out)⟩⟩
     rw [if_neg c26] at H
     have c26b0 : decide (0 ≤ x9_2) = false := decide_eq_false c26
     clear c26
     have HC38 := Aside0.mk H
     clear H
     go_upto_region 14 with (fail)
     go_cut [63] (fun v63 wc => ∃ (kq : Nat) (x63_37 : Bool), v63 = .bool x63_37 ∧ Aside0 (cambiumlaw16_SpanMay.j2 kq x63_37 a0_0 a0_1 a0_2 a0_3 a0_4 a0_5 a0_6 a0_7 l0_8 l0_9 l0_10 = some r) ∧ Aside0 (kq ≤ k2) ∧ Aside0 (wc.heap[gb190]? = some (.cells #[.int .u64 a0_0, .int .u64 a0_1, .int .u64 a0_2, .string a0_3, .string a0_4, .int .i64 a0_5, .int .i64 a0_6, .int .i64 a0_7, (.slice A0_8 l0_8.length c0_8), (.slice A0_9 l0_9.length c0_9), (.slice A0_10 l0_10.length c0_10)] 36 (0, 0))) ∧ Aside0 (wc.heap[gb198]? = some (.cells #[.int .i64 t193, .string t194, .int .i64 t195, .bool t196] 23 (0, 0))) ∧ Aside0 (wc.heap[gb199]? = some (.cells #[.int .i64 x200000_2, .string x200001_2, .int .i64 x200002_2, .bool x200003_2] 23 (0, 0))) ∧ Aside0 (Below w.heap.size w wc))
     case first =>
      have H := HC38.out
      clear HC38
      replace H := Option.bind_eq_some_iff.mp H
      obtain ⟨t202, A390, H⟩ := H
      replace H : ((cambiumref16_May.f k2 a0_0 a0_1 a0_2 a0_3 a0_4 a0_5 a0_6 a0_7 l0_8 l0_9 l0_10).bind fun t203 => (if (t202 != t203) = true then (cambiumlaw16_SpanMay.j2 k2 true a0_0 a0_1 a0_2 a0_3 a0_4 a0_5 a0_6 a0_7 l0_8 l0_9 l0_10) else (if (!(t193 == x200000_2) || (!(t194.toList == x200001_2.toList) || (!(t195 == x200002_2) || (!(t196 == x200003_2))))) = true then (cambiumlaw16_SpanMay.j2 k2 true a0_0 a0_1 a0_2 a0_3 a0_4 a0_5 a0_6 a0_7 l0_8 l0_9 l0_10) else (cambiumlaw16_SpanMay.j2 k2 (t197 != x8_2) a0_0 a0_1 a0_2 a0_3 a0_4 a0_5 a0_6 a0_7 l0_8 l0_9 l0_10)))) = some r := H
      have A39 := Aside0.mk A390
      clear A390
      replace H := Option.bind_eq_some_iff.mp H
      obtain ⟨t203, A400, H⟩ := H
      replace H : (if (t202 != t203) = true then (cambiumlaw16_SpanMay.j2 k2 true a0_0 a0_1 a0_2 a0_3 a0_4 a0_5 a0_6 a0_7 l0_8 l0_9 l0_10) else (if (!(t193 == x200000_2) || (!(t194.toList == x200001_2.toList) || (!(t195 == x200002_2) || (!(t196 == x200003_2))))) = true then (cambiumlaw16_SpanMay.j2 k2 true a0_0 a0_1 a0_2 a0_3 a0_4 a0_5 a0_6 a0_7 l0_8 l0_9 l0_10) else (cambiumlaw16_SpanMay.j2 k2 (t197 != x8_2) a0_0 a0_1 a0_2 a0_3 a0_4 a0_5 a0_6 a0_7 l0_8 l0_9 l0_10))) = some r := H
      have A40 := Aside0.mk A400
      clear A400
      by_cases c41 : (t202 != t203) = true
      ·rw [if_pos c41] at H
       have c41b0 : (t202 != t203) = true := c41
       (try (have c41b1 : decide (t202 = t203) = false := by simpa using c41))
       (try (have c41b2 : (t202 == t203) = false := by simpa using c41))
       (try (have c41b3 : ¬ (t202 = t203) := by simpa using c41))
       clear c41
       (first | rw [c41b0] | (simp only [i64_w, i32_w]; rw [c41b0]) | skip)
       have H' := Aside0.mk H
       clear H
       try go_wp2
       have n0_ := Aside0.mk (blk_drew BK190.out)
       have n1_ := Aside0.mk (blk_drew BK198.out)
       have n2_ := Aside0.mk (blk_drew BK199.out)
       have n3_ := Aside0.mk (below_drew1 HB.out)
       clear BK190
       clear BK198
       clear BK199
       clear HB
       have BK190 := n0_
       have BK198 := n1_
       have BK199 := n2_
       have HB := n3_
       clear n0_ n1_ n2_ n3_
       refine start_ (n := 15) (S := fun w' => w'.cell? ⟨gb190, 0, none⟩ = some (.int .u64 a0_0) ∧ w'.cell? ⟨gb190, 1, none⟩ = some (.int .u64 a0_1) ∧ w'.cell? ⟨gb190, 2, none⟩ = some (.int .u64 a0_2) ∧ w'.cell? ⟨gb190, 3, none⟩ = some (.string a0_3) ∧ w'.cell? ⟨gb190, 4, none⟩ = some (.string a0_4) ∧ w'.cell? ⟨gb190, 5, none⟩ = some (.int .i64 a0_5) ∧ w'.cell? ⟨gb190, 6, none⟩ = some (.int .i64 a0_6) ∧ w'.cell? ⟨gb190, 7, none⟩ = some (.int .i64 a0_7) ∧ w'.cell? ⟨gb190, 8, none⟩ = some (.slice A0_8 l0_8.length c0_8) ∧ w'.cell? ⟨gb190, 9, none⟩ = some (.slice A0_9 l0_9.length c0_9) ∧ w'.cell? ⟨gb190, 10, none⟩ = some (.slice A0_10 l0_10.length c0_10)) (ds := []) #[false, false, false, false, false, false, false, false, false, false, false, false, false, false, false] (by kernel_rfl) rfl rfl ⟨q15k BK190.out 0, q15k BK190.out 1, q15k BK190.out 2, q15k BK190.out 3, q15k BK190.out 4, q15k BK190.out 5, q15k BK190.out 6, q15k BK190.out 7, q15k BK190.out 8, q15k BK190.out 9, q15k BK190.out 10⟩ (fun hHeld => ?_); refine with_tabW cambiumlaw16_SpanMay.tab14 cambiumlaw16_SpanMay.bits14 (fun HT_ HW_ => ?_)
       generalize wr.drew = w42 at BK190 BK198 BK199 HB hHeld ⊢
       refine take_ (i := 0) (N := some 49) (v := ?_) (a' := ?_) (q15m 15 1) rfl rfl (take_ofW HT_.out HW_.out (by kernel_rfl)) (fun _ _ _ h => h) (Or.inl ⟨by rfl, ?_⟩) hHeld ?_ ?_; rotate_left; (rintro w' ⟨s0, s1, s2, s3, s4, s5, s6, s7, s8, s9, s10⟩; go_simp; with_reducible rfl); rotate_left; (simp only [Act.put, q15a, q15b, q15c, i64_w, i32_w]; rfl)
       refine take_ (i := 2) (N := some 51) (v := ?_) (a' := ?_) (q15m 15 5) rfl rfl (take_ofW HT_.out HW_.out (by kernel_rfl)) (fun _ _ _ h => h) (Or.inl ⟨by rfl, ?_⟩) hHeld ?_ ?_; rotate_left; (rintro w' ⟨s0, s1, s2, s3, s4, s5, s6, s7, s8, s9, s10⟩; go_simp; with_reducible rfl); rotate_left; (simp only [Act.put, q15a, q15b, q15c, i64_w, i32_w]; rfl)
       refine one_ (i := 1) (N := some 50) (q15m 15 7) rfl rfl (one_of HT_.out (by kernel_rfl)) (by decide) (fun K hK => ?_)
       refine goes_ Tryd.func15 (by kernel_rfl) rfl #[.agg #[.int .u64 a0_0, .int .u64 a0_1, .int .u64 a0_2, .string a0_3, .string a0_4, .int .i64 a0_5, .int .i64 a0_6, .int .i64 a0_7, .slice A0_8 l0_8.length c0_8, .slice A0_9 l0_9.length c0_9, .slice A0_10 l0_10.length c0_10]] (by rfl) rfl rfl q15y1 ?_
       with_reducible refine (span_May.calls k2 a0_0 a0_1 a0_2 a0_3 a0_4 a0_5 a0_6 a0_7 _ _ l0_8 _ _ l0_9 _ _ l0_10 t202 _ ?side1 ?side2 ?side3 ?side4 ?side5 ?side6 A39.out q15y5).mono ?_
       (case side1 => repeat (first | exact (Kd.C_below HR0_8.out HB.out) | (with_reducible refine Kd.C_alloc ?_ _) | (with_reducible refine Kd.C_drewN ?_ _) | (with_reducible refine Kd.C_drew ?_)))
       (case side2 => exact HC0_8.out)
       (case side3 => repeat (first | exact (Kd.C_below HR0_9.out HB.out) | (with_reducible refine Kd.C_alloc ?_ _) | (with_reducible refine Kd.C_drewN ?_ _) | (with_reducible refine Kd.C_drew ?_)))
       (case side4 => exact HC0_9.out)
       (case side5 => repeat (first | exact (Kd.C_below HR0_10.out HB.out) | (with_reducible refine Kd.C_alloc ?_ _) | (with_reducible refine Kd.C_drewN ?_ _) | (with_reducible refine Kd.C_drew ?_)))
       (case side6 => exact HC0_10.out)
       rintro e w43 ⟨rfl, hb⟩
       refine ⟨_, rfl, ?_⟩
       have n0_ := Aside0.mk (blk_below (g := gb190) (o := .cells #[.int .u64 a0_0, .int .u64 a0_1, .int .u64 a0_2, .string a0_3, .string a0_4, .int .i64 a0_5, .int .i64 a0_6, .int .i64 a0_7, .slice A0_8 l0_8.length c0_8, .slice A0_9 l0_9.length c0_9, .slice A0_10 l0_10.length c0_10] 36 (0, 0)) q15y2 hb)
       have n1_ := Aside0.mk (blk_below (g := gb198) (o := .cells #[.int .i64 t193, .string t194, .int .i64 t195, .bool t196] 23 (0, 0)) q15y4 hb)
       have n2_ := Aside0.mk (blk_below (g := gb199) (o := .cells #[.int .i64 x200000_2, .string x200001_2, .int .i64 x200002_2, .bool x200003_2] 23 (0, 0)) q15y3 hb)
       have n3_ := Aside0.mk (below_step q15y0 hb)
       clear BK190
       clear BK198
       clear BK199
       clear HB
       have BK190 := n0_
       have BK198 := n1_
       have BK199 := n2_
       have HB := n3_
       clear n0_ n1_ n2_ n3_
       (try clear hb)
       (try clear hb2)
       (try clear hk)
       (try clear hi)
       refine hK.out _ _ ⟨q15k BK190.out 0, q15k BK190.out 1, q15k BK190.out 2, q15k BK190.out 3, q15k BK190.out 4, q15k BK190.out 5, q15k BK190.out 6, q15k BK190.out 7, q15k BK190.out 8, q15k BK190.out 9, q15k BK190.out 10⟩ (fun hHeld => ?_)
       clear hK K
       refine norm_ (a' := ?_) ?_ ?_
       rotate_left
       ·show Act.put _ (some 50) _ = _
        simp only [Act.put, q15a, q15b, q15c, i64_w, i32_w]
        rfl
       refine one_ (i := 3) (N := some 52) (q15m 15 15) rfl rfl (one_of HT_.out (by kernel_rfl)) (by decide) (fun K hK => ?_)
       refine goes_ Tryd.func14 (by kernel_rfl) rfl #[.agg #[.int .u64 a0_0, .int .u64 a0_1, .int .u64 a0_2, .string a0_3, .string a0_4, .int .i64 a0_5, .int .i64 a0_6, .int .i64 a0_7, .slice A0_8 l0_8.length c0_8, .slice A0_9 l0_9.length c0_9, .slice A0_10 l0_10.length c0_10]] (by rfl) rfl rfl q15y1 ?_
       with_reducible refine (cambiumref16_May.calls k2 a0_0 a0_1 a0_2 a0_3 a0_4 a0_5 a0_6 a0_7 _ _ l0_8 _ _ l0_9 _ _ l0_10 t203 _ ?side1 ?side2 ?side3 ?side4 ?side5 ?side6 A40.out).mono ?_
       (case side1 => repeat (first | exact (Kd.C_below HR0_8.out HB.out) | (with_reducible refine Kd.C_alloc ?_ _) | (with_reducible refine Kd.C_drewN ?_ _) | (with_reducible refine Kd.C_drew ?_)))
       (case side2 => exact HC0_8.out)
       (case side3 => repeat (first | exact (Kd.C_below HR0_9.out HB.out) | (with_reducible refine Kd.C_alloc ?_ _) | (with_reducible refine Kd.C_drewN ?_ _) | (with_reducible refine Kd.C_drew ?_)))
       (case side4 => exact HC0_9.out)
       (case side5 => repeat (first | exact (Kd.C_below HR0_10.out HB.out) | (with_reducible refine Kd.C_alloc ?_ _) | (with_reducible refine Kd.C_drewN ?_ _) | (with_reducible refine Kd.C_drew ?_)))
       (case side6 => exact HC0_10.out)
       rintro e w44 ⟨rfl, hb⟩
       refine ⟨_, rfl, ?_⟩
       have n0_ := Aside0.mk (blk_below (g := gb190) (o := .cells #[.int .u64 a0_0, .int .u64 a0_1, .int .u64 a0_2, .string a0_3, .string a0_4, .int .i64 a0_5, .int .i64 a0_6, .int .i64 a0_7, .slice A0_8 l0_8.length c0_8, .slice A0_9 l0_9.length c0_9, .slice A0_10 l0_10.length c0_10] 36 (0, 0)) q15y2 hb)
       have n1_ := Aside0.mk (blk_below (g := gb198) (o := .cells #[.int .i64 t193, .string t194, .int .i64 t195, .bool t196] 23 (0, 0)) q15y4 hb)
       have n2_ := Aside0.mk (blk_below (g := gb199) (o := .cells #[.int .i64 x200000_2, .string x200001_2, .int .i64 x200002_2, .bool x200003_2] 23 (0, 0)) q15y3 hb)
       have n3_ := Aside0.mk (below_step q15y0 hb)
       clear BK190
       clear BK198
       clear BK199
       clear HB
       have BK190 := n0_
       have BK198 := n1_
       have BK199 := n2_
       have HB := n3_
       clear n0_ n1_ n2_ n3_
       (try clear hb)
       (try clear hb2)
       (try clear hk)
       (try clear hi)
       refine hK.out _ _ ⟨q15k BK190.out 0, q15k BK190.out 1, q15k BK190.out 2, q15k BK190.out 3, q15k BK190.out 4, q15k BK190.out 5, q15k BK190.out 6, q15k BK190.out 7, q15k BK190.out 8, q15k BK190.out 9, q15k BK190.out 10⟩ (fun hHeld => ?_)
       clear hK K
       refine norm_ (a' := ?_) ?_ ?_
       rotate_left
       ·show Act.put _ (some 52) _ = _
        simp only [Act.put, q15a, q15b, q15c, i64_w, i32_w]
        rfl
       refine q15p (i := 4) (N := some 53) (q15m 15 31) HT_.out ?_
       refine q15p (i := 5) (N := some 54) (q15m 15 63) HT_.out ?_
       refine q15u (i := 6) (N := some 55) (q15m 15 127) HT_.out ?_
       refine q15u (i := 7) (N := some 56) (q15m 15 255) HT_.out ?_
       refine q15u (i := 8) (N := some 57) (q15m 15 511) HT_.out ?_
       refine q15p (i := 9) (N := some 58) (q15m 15 1023) HT_.out ?_
       refine q15p (i := 10) (N := some 59) (q15m 15 2047) HT_.out ?_
       refine q15u (i := 11) (N := some 60) (q15m 15 4095) HT_.out ?_
       refine q15u (i := 12) (N := some 61) (q15m 15 8191) HT_.out ?_
       refine q15u (i := 13) (N := some 62) (q15m 15 16383) HT_.out ?_
       refine q15p (i := 14) (N := some 63) (q15m 15 32767) HT_.out ?_
       refine done_ (done_of HT_.out (by kernel_rfl)) ?_
       try go_wp2
       go_meet
       case rel => exact ⟨_, (true), q15y8, H', ⟨by have := HJ4.out; have := HK2.out; first | omega | exact Nat.le_refl _⟩, ⟨by (with_reducible repeat (first | refine blk_drewN ?_ _ | refine blk_drew ?_ | refine blk_alloc ?_ _)); exact BK190.out⟩, ⟨by (with_reducible repeat (first | refine blk_drewN ?_ _ | refine blk_drew ?_ | refine blk_alloc ?_ _)); exact BK198.out⟩, ⟨by (with_reducible repeat (first | refine blk_drewN ?_ _ | refine blk_drew ?_ | refine blk_alloc ?_ _)); exact BK199.out⟩, ⟨by repeat (first | (with_reducible first | exact HB.out | apply below_alloc | apply pw_below_drewN | apply below_drew1 | refine below_set ?_ GE190.out | refine below_set ?_ GE198.out | refine below_set ?_ GE199.out) | exact HB.out)⟩⟩
      rw [if_neg c41] at H
      have c41b0 : (t202 != t203) = false := by simpa using c41
      (try (have c41b1 : decide (t202 = t203) = true := by simpa using c41))
      (try (have c41b2 : (t202 == t203) = true := by simpa using c41))
      clear c41
      (first | rw [c41b0] | (simp only [i64_w, i32_w]; rw [c41b0]) | skip)
      by_cases c45 : (!(t193 == x200000_2) || (!(t194.toList == x200001_2.toList) || (!(t195 == x200002_2) || (!(t196 == x200003_2))))) = true
      ·rw [if_pos c45] at H
       have c45b0 : (!(t193 == x200000_2) || (!(t194.toList == x200001_2.toList) || (!(t195 == x200002_2) || (!(t196 == x200003_2))))) = true := c45
       clear c45
       have H' := Aside0.mk H
       clear H
       try go_wp2
       have n0_ := Aside0.mk (blk_drew BK190.out)
       have n1_ := Aside0.mk (blk_drew BK198.out)
       have n2_ := Aside0.mk (blk_drew BK199.out)
       have n3_ := Aside0.mk (below_drew1 HB.out)
       clear BK190
       clear BK198
       clear BK199
       clear HB
       have BK190 := n0_
       have BK198 := n1_
       have BK199 := n2_
       have HB := n3_
       clear n0_ n1_ n2_ n3_
       refine start_ (n := 15) (S := fun w' => w'.cell? ⟨gb190, 0, none⟩ = some (.int .u64 a0_0) ∧ w'.cell? ⟨gb190, 1, none⟩ = some (.int .u64 a0_1) ∧ w'.cell? ⟨gb190, 2, none⟩ = some (.int .u64 a0_2) ∧ w'.cell? ⟨gb190, 3, none⟩ = some (.string a0_3) ∧ w'.cell? ⟨gb190, 4, none⟩ = some (.string a0_4) ∧ w'.cell? ⟨gb190, 5, none⟩ = some (.int .i64 a0_5) ∧ w'.cell? ⟨gb190, 6, none⟩ = some (.int .i64 a0_6) ∧ w'.cell? ⟨gb190, 7, none⟩ = some (.int .i64 a0_7) ∧ w'.cell? ⟨gb190, 8, none⟩ = some (.slice A0_8 l0_8.length c0_8) ∧ w'.cell? ⟨gb190, 9, none⟩ = some (.slice A0_9 l0_9.length c0_9) ∧ w'.cell? ⟨gb190, 10, none⟩ = some (.slice A0_10 l0_10.length c0_10) ∧ w'.cell? ⟨gb198, 0, none⟩ = some (.int .i64 t193) ∧ w'.cell? ⟨gb198, 1, none⟩ = some (.string t194) ∧ w'.cell? ⟨gb198, 2, none⟩ = some (.int .i64 t195) ∧ w'.cell? ⟨gb198, 3, none⟩ = some (.bool t196) ∧ w'.cell? ⟨gb199, 0, none⟩ = some (.int .i64 x200000_2) ∧ w'.cell? ⟨gb199, 1, none⟩ = some (.string x200001_2) ∧ w'.cell? ⟨gb199, 2, none⟩ = some (.int .i64 x200002_2) ∧ w'.cell? ⟨gb199, 3, none⟩ = some (.bool x200003_2)) (ds := []) #[false, false, false, false, false, false, false, false, false, false, false, false, false, false, false] (by kernel_rfl) rfl rfl ⟨q15k BK190.out 0, q15k BK190.out 1, q15k BK190.out 2, q15k BK190.out 3, q15k BK190.out 4, q15k BK190.out 5, q15k BK190.out 6, q15k BK190.out 7, q15k BK190.out 8, q15k BK190.out 9, q15k BK190.out 10, q15k BK198.out 0, q15k BK198.out 1, q15k BK198.out 2, q15k BK198.out 3, q15k BK199.out 0, q15k BK199.out 1, q15k BK199.out 2, q15k BK199.out 3⟩ (fun hHeld => ?_); refine with_tabW cambiumlaw16_SpanMay.tab14 cambiumlaw16_SpanMay.bits14 (fun HT_ HW_ => ?_)
       generalize wr.drew = w46 at BK190 BK198 BK199 HB hHeld ⊢
       refine take_ (i := 0) (N := some 49) (v := ?_) (a' := ?_) (q15m 15 1) rfl rfl (take_ofW HT_.out HW_.out (by kernel_rfl)) (fun _ _ _ h => h) (Or.inl ⟨by rfl, ?_⟩) hHeld ?_ ?_; rotate_left; (rintro w' ⟨s0, s1, s2, s3, s4, s5, s6, s7, s8, s9, s10, s11, s12, s13, s14, s15, s16, s17, s18⟩; go_simp; with_reducible rfl); rotate_left; (simp only [Act.put, q15a, q15b, q15c, i64_w, i32_w]; rfl)
       refine take_ (i := 2) (N := some 51) (v := ?_) (a' := ?_) (q15m 15 5) rfl rfl (take_ofW HT_.out HW_.out (by kernel_rfl)) (fun _ _ _ h => h) (Or.inl ⟨by rfl, ?_⟩) hHeld ?_ ?_; rotate_left; (rintro w' ⟨s0, s1, s2, s3, s4, s5, s6, s7, s8, s9, s10, s11, s12, s13, s14, s15, s16, s17, s18⟩; go_simp; with_reducible rfl); rotate_left; (simp only [Act.put, q15a, q15b, q15c, i64_w, i32_w]; rfl)
       refine one_ (i := 1) (N := some 50) (q15m 15 7) rfl rfl (one_of HT_.out (by kernel_rfl)) (by decide) (fun K hK => ?_)
       refine goes_ Tryd.func15 (by kernel_rfl) rfl #[.agg #[.int .u64 a0_0, .int .u64 a0_1, .int .u64 a0_2, .string a0_3, .string a0_4, .int .i64 a0_5, .int .i64 a0_6, .int .i64 a0_7, .slice A0_8 l0_8.length c0_8, .slice A0_9 l0_9.length c0_9, .slice A0_10 l0_10.length c0_10]] (by rfl) rfl rfl q15y1 ?_
       with_reducible refine (span_May.calls k2 a0_0 a0_1 a0_2 a0_3 a0_4 a0_5 a0_6 a0_7 _ _ l0_8 _ _ l0_9 _ _ l0_10 t202 _ ?side1 ?side2 ?side3 ?side4 ?side5 ?side6 A39.out q15y5).mono ?_
       (case side1 => repeat (first | exact (Kd.C_below HR0_8.out HB.out) | (with_reducible refine Kd.C_alloc ?_ _) | (with_reducible refine Kd.C_drewN ?_ _) | (with_reducible refine Kd.C_drew ?_)))
       (case side2 => exact HC0_8.out)
       (case side3 => repeat (first | exact (Kd.C_below HR0_9.out HB.out) | (with_reducible refine Kd.C_alloc ?_ _) | (with_reducible refine Kd.C_drewN ?_ _) | (with_reducible refine Kd.C_drew ?_)))
       (case side4 => exact HC0_9.out)
       (case side5 => repeat (first | exact (Kd.C_below HR0_10.out HB.out) | (with_reducible refine Kd.C_alloc ?_ _) | (with_reducible refine Kd.C_drewN ?_ _) | (with_reducible refine Kd.C_drew ?_)))
       (case side6 => exact HC0_10.out)
       rintro e w47 ⟨rfl, hb⟩
       refine ⟨_, rfl, ?_⟩
       have n0_ := Aside0.mk (blk_below (g := gb190) (o := .cells #[.int .u64 a0_0, .int .u64 a0_1, .int .u64 a0_2, .string a0_3, .string a0_4, .int .i64 a0_5, .int .i64 a0_6, .int .i64 a0_7, .slice A0_8 l0_8.length c0_8, .slice A0_9 l0_9.length c0_9, .slice A0_10 l0_10.length c0_10] 36 (0, 0)) q15y2 hb)
       have n1_ := Aside0.mk (blk_below (g := gb198) (o := .cells #[.int .i64 t193, .string t194, .int .i64 t195, .bool t196] 23 (0, 0)) q15y4 hb)
       have n2_ := Aside0.mk (blk_below (g := gb199) (o := .cells #[.int .i64 x200000_2, .string x200001_2, .int .i64 x200002_2, .bool x200003_2] 23 (0, 0)) q15y3 hb)
       have n3_ := Aside0.mk (below_step q15y0 hb)
       clear BK190
       clear BK198
       clear BK199
       clear HB
       have BK190 := n0_
       have BK198 := n1_
       have BK199 := n2_
       have HB := n3_
       clear n0_ n1_ n2_ n3_
       (try clear hb)
       (try clear hb2)
       (try clear hk)
       (try clear hi)
       refine hK.out _ _ ⟨q15k BK190.out 0, q15k BK190.out 1, q15k BK190.out 2, q15k BK190.out 3, q15k BK190.out 4, q15k BK190.out 5, q15k BK190.out 6, q15k BK190.out 7, q15k BK190.out 8, q15k BK190.out 9, q15k BK190.out 10, q15k BK198.out 0, q15k BK198.out 1, q15k BK198.out 2, q15k BK198.out 3, q15k BK199.out 0, q15k BK199.out 1, q15k BK199.out 2, q15k BK199.out 3⟩ (fun hHeld => ?_)
       clear hK K
       refine norm_ (a' := ?_) ?_ ?_
       rotate_left
       ·show Act.put _ (some 50) _ = _
        simp only [Act.put, q15a, q15b, q15c, i64_w, i32_w]
        rfl
       refine one_ (i := 3) (N := some 52) (q15m 15 15) rfl rfl (one_of HT_.out (by kernel_rfl)) (by decide) (fun K hK => ?_)
       refine goes_ Tryd.func14 (by kernel_rfl) rfl #[.agg #[.int .u64 a0_0, .int .u64 a0_1, .int .u64 a0_2, .string a0_3, .string a0_4, .int .i64 a0_5, .int .i64 a0_6, .int .i64 a0_7, .slice A0_8 l0_8.length c0_8, .slice A0_9 l0_9.length c0_9, .slice A0_10 l0_10.length c0_10]] (by rfl) rfl rfl q15y1 ?_
       with_reducible refine (cambiumref16_May.calls k2 a0_0 a0_1 a0_2 a0_3 a0_4 a0_5 a0_6 a0_7 _ _ l0_8 _ _ l0_9 _ _ l0_10 t203 _ ?side1 ?side2 ?side3 ?side4 ?side5 ?side6 A40.out).mono ?_
       (case side1 => repeat (first | exact (Kd.C_below HR0_8.out HB.out) | (with_reducible refine Kd.C_alloc ?_ _) | (with_reducible refine Kd.C_drewN ?_ _) | (with_reducible refine Kd.C_drew ?_)))
       (case side2 => exact HC0_8.out)
       (case side3 => repeat (first | exact (Kd.C_below HR0_9.out HB.out) | (with_reducible refine Kd.C_alloc ?_ _) | (with_reducible refine Kd.C_drewN ?_ _) | (with_reducible refine Kd.C_drew ?_)))
       (case side4 => exact HC0_9.out)
       (case side5 => repeat (first | exact (Kd.C_below HR0_10.out HB.out) | (with_reducible refine Kd.C_alloc ?_ _) | (with_reducible refine Kd.C_drewN ?_ _) | (with_reducible refine Kd.C_drew ?_)))
       (case side6 => exact HC0_10.out)
       rintro e w48 ⟨rfl, hb⟩
       refine ⟨_, rfl, ?_⟩
       have n0_ := Aside0.mk (blk_below (g := gb190) (o := .cells #[.int .u64 a0_0, .int .u64 a0_1, .int .u64 a0_2, .string a0_3, .string a0_4, .int .i64 a0_5, .int .i64 a0_6, .int .i64 a0_7, .slice A0_8 l0_8.length c0_8, .slice A0_9 l0_9.length c0_9, .slice A0_10 l0_10.length c0_10] 36 (0, 0)) q15y2 hb)
       have n1_ := Aside0.mk (blk_below (g := gb198) (o := .cells #[.int .i64 t193, .string t194, .int .i64 t195, .bool t196] 23 (0, 0)) q15y4 hb)
       have n2_ := Aside0.mk (blk_below (g := gb199) (o := .cells #[.int .i64 x200000_2, .string x200001_2, .int .i64 x200002_2, .bool x200003_2] 23 (0, 0)) q15y3 hb)
       have n3_ := Aside0.mk (below_step q15y0 hb)
       clear BK190
       clear BK198
       clear BK199
       clear HB
       have BK190 := n0_
       have BK198 := n1_
       have BK199 := n2_
       have HB := n3_
       clear n0_ n1_ n2_ n3_
       (try clear hb)
       (try clear hb2)
       (try clear hk)
       (try clear hi)
       refine hK.out _ _ ⟨q15k BK190.out 0, q15k BK190.out 1, q15k BK190.out 2, q15k BK190.out 3, q15k BK190.out 4, q15k BK190.out 5, q15k BK190.out 6, q15k BK190.out 7, q15k BK190.out 8, q15k BK190.out 9, q15k BK190.out 10, q15k BK198.out 0, q15k BK198.out 1, q15k BK198.out 2, q15k BK198.out 3, q15k BK199.out 0, q15k BK199.out 1, q15k BK199.out 2, q15k BK199.out 3⟩ (fun hHeld => ?_)
       clear hK K
       refine norm_ (a' := ?_) ?_ ?_
       rotate_left
       ·show Act.put _ (some 52) _ = _
        simp only [Act.put, q15a, q15b, q15c, i64_w, i32_w]
        rfl
       refine q15p (i := 4) (N := some 53) (q15m 15 31) HT_.out ?_
       refine q15p (i := 5) (N := some 54) (q15m 15 63) HT_.out ?_
       refine take_ (i := 6) (N := some 55) (v := ?_) (a' := ?_) (q15m 15 127) rfl rfl (take_ofW HT_.out HW_.out (by kernel_rfl)) (fun _ _ _ h => h) (Or.inl ⟨by rfl, ?_⟩) hHeld ?_ ?_; rotate_left; (rintro w' ⟨s0, s1, s2, s3, s4, s5, s6, s7, s8, s9, s10, s11, s12, s13, s14, s15, s16, s17, s18⟩; go_simp; with_reducible rfl); rotate_left; (simp only [Act.put, q15a, q15b, q15c, i64_w, i32_w]; rfl)
       refine take_ (i := 7) (N := some 56) (v := ?_) (a' := ?_) (q15m 15 255) rfl rfl (take_ofW HT_.out HW_.out (by kernel_rfl)) (fun _ _ _ h => h) (Or.inl ⟨by rfl, ?_⟩) hHeld ?_ ?_; rotate_left; (rintro w' ⟨s0, s1, s2, s3, s4, s5, s6, s7, s8, s9, s10, s11, s12, s13, s14, s15, s16, s17, s18⟩; go_simp; with_reducible rfl); rotate_left; (simp only [Act.put, q15a, q15b, q15c, i64_w, i32_w]; rfl)
       refine q15p (i := 8) (N := some 57) (q15m 15 511) HT_.out ?_
       refine q15p (i := 9) (N := some 58) (q15m 15 1023) HT_.out ?_
       refine q15p (i := 10) (N := some 59) (q15m 15 2047) HT_.out ?_
       refine q15u (i := 11) (N := some 60) (q15m 15 4095) HT_.out ?_
       refine q15u (i := 12) (N := some 61) (q15m 15 8191) HT_.out ?_
       refine q15u (i := 13) (N := some 62) (q15m 15 16383) HT_.out ?_
       refine q15p (i := 14) (N := some 63) (q15m 15 32767) HT_.out ?_
       refine done_ (done_of HT_.out (by kernel_rfl)) ?_
       try go_wp2
       go_meet
       case rel => exact ⟨_, (true), q15y8, H', ⟨by have := HJ4.out; have := HK2.out; first | omega | exact Nat.le_refl _⟩, ⟨by (with_reducible repeat (first | refine blk_drewN ?_ _ | refine blk_drew ?_ | refine blk_alloc ?_ _)); exact BK190.out⟩, ⟨by (with_reducible repeat (first | refine blk_drewN ?_ _ | refine blk_drew ?_ | refine blk_alloc ?_ _)); exact BK198.out⟩, ⟨by (with_reducible repeat (first | refine blk_drewN ?_ _ | refine blk_drew ?_ | refine blk_alloc ?_ _)); exact BK199.out⟩, ⟨by repeat (first | (with_reducible first | exact HB.out | apply below_alloc | apply pw_below_drewN | apply below_drew1 | refine below_set ?_ GE190.out | refine below_set ?_ GE198.out | refine below_set ?_ GE199.out) | exact HB.out)⟩⟩
      rw [if_neg c45] at H
      have c45b0 : (!(t193 == x200000_2) || (!(t194.toList == x200001_2.toList) || (!(t195 == x200002_2) || (!(t196 == x200003_2))))) = false := by simpa using c45
      clear c45
      have H' := Aside0.mk H
      clear H
      try go_wp2
      have n0_ := Aside0.mk (blk_drew BK190.out)
      have n1_ := Aside0.mk (blk_drew BK198.out)
      have n2_ := Aside0.mk (blk_drew BK199.out)
      have n3_ := Aside0.mk (below_drew1 HB.out)
      clear BK190
      clear BK198
      clear BK199
      clear HB
      have BK190 := n0_
      have BK198 := n1_
      have BK199 := n2_
      have HB := n3_
      clear n0_ n1_ n2_ n3_
      refine start_ (n := 15) (S := fun w' => w'.cell? ⟨gb190, 0, none⟩ = some (.int .u64 a0_0) ∧ w'.cell? ⟨gb190, 1, none⟩ = some (.int .u64 a0_1) ∧ w'.cell? ⟨gb190, 2, none⟩ = some (.int .u64 a0_2) ∧ w'.cell? ⟨gb190, 3, none⟩ = some (.string a0_3) ∧ w'.cell? ⟨gb190, 4, none⟩ = some (.string a0_4) ∧ w'.cell? ⟨gb190, 5, none⟩ = some (.int .i64 a0_5) ∧ w'.cell? ⟨gb190, 6, none⟩ = some (.int .i64 a0_6) ∧ w'.cell? ⟨gb190, 7, none⟩ = some (.int .i64 a0_7) ∧ w'.cell? ⟨gb190, 8, none⟩ = some (.slice A0_8 l0_8.length c0_8) ∧ w'.cell? ⟨gb190, 9, none⟩ = some (.slice A0_9 l0_9.length c0_9) ∧ w'.cell? ⟨gb190, 10, none⟩ = some (.slice A0_10 l0_10.length c0_10) ∧ w'.cell? ⟨gb198, 0, none⟩ = some (.int .i64 t193) ∧ w'.cell? ⟨gb198, 1, none⟩ = some (.string t194) ∧ w'.cell? ⟨gb198, 2, none⟩ = some (.int .i64 t195) ∧ w'.cell? ⟨gb198, 3, none⟩ = some (.bool t196) ∧ w'.cell? ⟨gb199, 0, none⟩ = some (.int .i64 x200000_2) ∧ w'.cell? ⟨gb199, 1, none⟩ = some (.string x200001_2) ∧ w'.cell? ⟨gb199, 2, none⟩ = some (.int .i64 x200002_2) ∧ w'.cell? ⟨gb199, 3, none⟩ = some (.bool x200003_2)) (ds := []) #[false, false, false, false, false, false, false, false, false, false, false, false, false, false, false] (by kernel_rfl) rfl rfl ⟨q15k BK190.out 0, q15k BK190.out 1, q15k BK190.out 2, q15k BK190.out 3, q15k BK190.out 4, q15k BK190.out 5, q15k BK190.out 6, q15k BK190.out 7, q15k BK190.out 8, q15k BK190.out 9, q15k BK190.out 10, q15k BK198.out 0, q15k BK198.out 1, q15k BK198.out 2, q15k BK198.out 3, q15k BK199.out 0, q15k BK199.out 1, q15k BK199.out 2, q15k BK199.out 3⟩ (fun hHeld => ?_); refine with_tabW cambiumlaw16_SpanMay.tab14 cambiumlaw16_SpanMay.bits14 (fun HT_ HW_ => ?_)
      generalize wr.drew = w49 at BK190 BK198 BK199 HB hHeld ⊢
      refine take_ (i := 0) (N := some 49) (v := ?_) (a' := ?_) (q15m 15 1) rfl rfl (take_ofW HT_.out HW_.out (by kernel_rfl)) (fun _ _ _ h => h) (Or.inl ⟨by rfl, ?_⟩) hHeld ?_ ?_; rotate_left; (rintro w' ⟨s0, s1, s2, s3, s4, s5, s6, s7, s8, s9, s10, s11, s12, s13, s14, s15, s16, s17, s18⟩; go_simp; with_reducible rfl); rotate_left; (simp only [Act.put, q15a, q15b, q15c, i64_w, i32_w]; rfl)
      refine take_ (i := 2) (N := some 51) (v := ?_) (a' := ?_) (q15m 15 5) rfl rfl (take_ofW HT_.out HW_.out (by kernel_rfl)) (fun _ _ _ h => h) (Or.inl ⟨by rfl, ?_⟩) hHeld ?_ ?_; rotate_left; (rintro w' ⟨s0, s1, s2, s3, s4, s5, s6, s7, s8, s9, s10, s11, s12, s13, s14, s15, s16, s17, s18⟩; go_simp; with_reducible rfl); rotate_left; (simp only [Act.put, q15a, q15b, q15c, i64_w, i32_w]; rfl)
      refine one_ (i := 1) (N := some 50) (q15m 15 7) rfl rfl (one_of HT_.out (by kernel_rfl)) (by decide) (fun K hK => ?_)
      refine goes_ Tryd.func15 (by kernel_rfl) rfl #[.agg #[.int .u64 a0_0, .int .u64 a0_1, .int .u64 a0_2, .string a0_3, .string a0_4, .int .i64 a0_5, .int .i64 a0_6, .int .i64 a0_7, .slice A0_8 l0_8.length c0_8, .slice A0_9 l0_9.length c0_9, .slice A0_10 l0_10.length c0_10]] (by rfl) rfl rfl q15y1 ?_
      with_reducible refine (span_May.calls k2 a0_0 a0_1 a0_2 a0_3 a0_4 a0_5 a0_6 a0_7 _ _ l0_8 _ _ l0_9 _ _ l0_10 t202 _ ?side1 ?side2 ?side3 ?side4 ?side5 ?side6 A39.out q15y5).mono ?_
      (case side1 => repeat (first | exact (Kd.C_below HR0_8.out HB.out) | (with_reducible refine Kd.C_alloc ?_ _) | (with_reducible refine Kd.C_drewN ?_ _) | (with_reducible refine Kd.C_drew ?_)))
      (case side2 => exact HC0_8.out)
      (case side3 => repeat (first | exact (Kd.C_below HR0_9.out HB.out) | (with_reducible refine Kd.C_alloc ?_ _) | (with_reducible refine Kd.C_drewN ?_ _) | (with_reducible refine Kd.C_drew ?_)))
      (case side4 => exact HC0_9.out)
      (case side5 => repeat (first | exact (Kd.C_below HR0_10.out HB.out) | (with_reducible refine Kd.C_alloc ?_ _) | (with_reducible refine Kd.C_drewN ?_ _) | (with_reducible refine Kd.C_drew ?_)))
      (case side6 => exact HC0_10.out)
      rintro e w50 ⟨rfl, hb⟩
      refine ⟨_, rfl, ?_⟩
      have n0_ := Aside0.mk (blk_below (g := gb190) (o := .cells #[.int .u64 a0_0, .int .u64 a0_1, .int .u64 a0_2, .string a0_3, .string a0_4, .int .i64 a0_5, .int .i64 a0_6, .int .i64 a0_7, .slice A0_8 l0_8.length c0_8, .slice A0_9 l0_9.length c0_9, .slice A0_10 l0_10.length c0_10] 36 (0, 0)) q15y2 hb)
      have n1_ := Aside0.mk (blk_below (g := gb198) (o := .cells #[.int .i64 t193, .string t194, .int .i64 t195, .bool t196] 23 (0, 0)) q15y4 hb)
      have n2_ := Aside0.mk (blk_below (g := gb199) (o := .cells #[.int .i64 x200000_2, .string x200001_2, .int .i64 x200002_2, .bool x200003_2] 23 (0, 0)) q15y3 hb)
      have n3_ := Aside0.mk (below_step q15y0 hb)
      clear BK190
      clear BK198
      clear BK199
      clear HB
      have BK190 := n0_
      have BK198 := n1_
      have BK199 := n2_
      have HB := n3_
      clear n0_ n1_ n2_ n3_
      (try clear hb)
      (try clear hb2)
      (try clear hk)
      (try clear hi)
      refine hK.out _ _ ⟨q15k BK190.out 0, q15k BK190.out 1, q15k BK190.out 2, q15k BK190.out 3, q15k BK190.out 4, q15k BK190.out 5, q15k BK190.out 6, q15k BK190.out 7, q15k BK190.out 8, q15k BK190.out 9, q15k BK190.out 10, q15k BK198.out 0, q15k BK198.out 1, q15k BK198.out 2, q15k BK198.out 3, q15k BK199.out 0, q15k BK199.out 1, q15k BK199.out 2, q15k BK199.out 3⟩ (fun hHeld => ?_)
      clear hK K
      refine norm_ (a' := ?_) ?_ ?_
      rotate_left
      ·show Act.put _ (some 50) _ = _
       simp only [Act.put, q15a, q15b, q15c, i64_w, i32_w]
       rfl
      refine one_ (i := 3) (N := some 52) (q15m 15 15) rfl rfl (one_of HT_.out (by kernel_rfl)) (by decide) (fun K hK => ?_)
      refine goes_ Tryd.func14 (by kernel_rfl) rfl #[.agg #[.int .u64 a0_0, .int .u64 a0_1, .int .u64 a0_2, .string a0_3, .string a0_4, .int .i64 a0_5, .int .i64 a0_6, .int .i64 a0_7, .slice A0_8 l0_8.length c0_8, .slice A0_9 l0_9.length c0_9, .slice A0_10 l0_10.length c0_10]] (by rfl) rfl rfl q15y1 ?_
      with_reducible refine (cambiumref16_May.calls k2 a0_0 a0_1 a0_2 a0_3 a0_4 a0_5 a0_6 a0_7 _ _ l0_8 _ _ l0_9 _ _ l0_10 t203 _ ?side1 ?side2 ?side3 ?side4 ?side5 ?side6 A40.out).mono ?_
      (case side1 => repeat (first | exact (Kd.C_below HR0_8.out HB.out) | (with_reducible refine Kd.C_alloc ?_ _) | (with_reducible refine Kd.C_drewN ?_ _) | (with_reducible refine Kd.C_drew ?_)))
      (case side2 => exact HC0_8.out)
      (case side3 => repeat (first | exact (Kd.C_below HR0_9.out HB.out) | (with_reducible refine Kd.C_alloc ?_ _) | (with_reducible refine Kd.C_drewN ?_ _) | (with_reducible refine Kd.C_drew ?_)))
      (case side4 => exact HC0_9.out)
      (case side5 => repeat (first | exact (Kd.C_below HR0_10.out HB.out) | (with_reducible refine Kd.C_alloc ?_ _) | (with_reducible refine Kd.C_drewN ?_ _) | (with_reducible refine Kd.C_drew ?_)))
      (case side6 => exact HC0_10.out)
      rintro e w51 ⟨rfl, hb⟩
      refine ⟨_, rfl, ?_⟩
      have n0_ := Aside0.mk (blk_below (g := gb190) (o := .cells #[.int .u64 a0_0, .int .u64 a0_1, .int .u64 a0_2, .string a0_3, .string a0_4, .int .i64 a0_5, .int .i64 a0_6, .int .i64 a0_7, .slice A0_8 l0_8.length c0_8, .slice A0_9 l0_9.length c0_9, .slice A0_10 l0_10.length c0_10] 36 (0, 0)) q15y2 hb)
      have n1_ := Aside0.mk (blk_below (g := gb198) (o := .cells #[.int .i64 t193, .string t194, .int .i64 t195, .bool t196] 23 (0, 0)) q15y4 hb)
      have n2_ := Aside0.mk (blk_below (g := gb199) (o := .cells #[.int .i64 x200000_2, .string x200001_2, .int .i64 x200002_2, .bool x200003_2] 23 (0, 0)) q15y3 hb)
      have n3_ := Aside0.mk (below_step q15y0 hb)
      clear BK190
      clear BK198
      clear BK199
      clear HB
      have BK190 := n0_
      have BK198 := n1_
      have BK199 := n2_
      have HB := n3_
      clear n0_ n1_ n2_ n3_
      (try clear hb)
      (try clear hb2)
      (try clear hk)
      (try clear hi)
      refine hK.out _ _ ⟨q15k BK190.out 0, q15k BK190.out 1, q15k BK190.out 2, q15k BK190.out 3, q15k BK190.out 4, q15k BK190.out 5, q15k BK190.out 6, q15k BK190.out 7, q15k BK190.out 8, q15k BK190.out 9, q15k BK190.out 10, q15k BK198.out 0, q15k BK198.out 1, q15k BK198.out 2, q15k BK198.out 3, q15k BK199.out 0, q15k BK199.out 1, q15k BK199.out 2, q15k BK199.out 3⟩ (fun hHeld => ?_)
      clear hK K
      refine norm_ (a' := ?_) ?_ ?_
      rotate_left
      ·show Act.put _ (some 52) _ = _
       simp only [Act.put, q15a, q15b, q15c, i64_w, i32_w]
       rfl
      refine q15p (i := 4) (N := some 53) (q15m 15 31) HT_.out ?_
      refine q15p (i := 5) (N := some 54) (q15m 15 63) HT_.out ?_
      refine take_ (i := 6) (N := some 55) (v := ?_) (a' := ?_) (q15m 15 127) rfl rfl (take_ofW HT_.out HW_.out (by kernel_rfl)) (fun _ _ _ h => h) (Or.inl ⟨by rfl, ?_⟩) hHeld ?_ ?_; rotate_left; (rintro w' ⟨s0, s1, s2, s3, s4, s5, s6, s7, s8, s9, s10, s11, s12, s13, s14, s15, s16, s17, s18⟩; go_simp; with_reducible rfl); rotate_left; (simp only [Act.put, q15a, q15b, q15c, i64_w, i32_w]; rfl)
      refine take_ (i := 7) (N := some 56) (v := ?_) (a' := ?_) (q15m 15 255) rfl rfl (take_ofW HT_.out HW_.out (by kernel_rfl)) (fun _ _ _ h => h) (Or.inl ⟨by rfl, ?_⟩) hHeld ?_ ?_; rotate_left; (rintro w' ⟨s0, s1, s2, s3, s4, s5, s6, s7, s8, s9, s10, s11, s12, s13, s14, s15, s16, s17, s18⟩; go_simp; with_reducible rfl); rotate_left; (simp only [Act.put, q15a, q15b, q15c, i64_w, i32_w]; rfl)
      refine q15p (i := 8) (N := some 57) (q15m 15 511) HT_.out ?_
      refine q15p (i := 9) (N := some 58) (q15m 15 1023) HT_.out ?_
      refine q15p (i := 10) (N := some 59) (q15m 15 2047) HT_.out ?_
      refine q15p (i := 11) (N := some 60) (q15m 15 4095) HT_.out ?_
      refine q15p (i := 12) (N := some 61) (q15m 15 8191) HT_.out ?_
      refine q15p (i := 13) (N := some 62) (q15m 15 16383) HT_.out ?_
      refine q15p (i := 14) (N := some 63) (q15m 15 32767) HT_.out ?_
      refine done_ (done_of HT_.out (by kernel_rfl)) ?_
      try go_wp2
      go_meet
      case rel => exact ⟨_, ((t197 != x8_2)), q15y8, H', ⟨by have := HJ4.out; have := HK2.out; first | omega | exact Nat.le_refl _⟩, ⟨by (with_reducible repeat (first | refine blk_drewN ?_ _ | refine blk_drew ?_ | refine blk_alloc ?_ _)); exact BK190.out⟩, ⟨by (with_reducible repeat (first | refine blk_drewN ?_ _ | refine blk_drew ?_ | refine blk_alloc ?_ _)); exact BK198.out⟩, ⟨by (with_reducible repeat (first | refine blk_drewN ?_ _ | refine blk_drew ?_ | refine blk_alloc ?_ _)); exact BK199.out⟩, ⟨by repeat (first | (with_reducible first | exact HB.out | apply below_alloc | apply pw_below_drewN | apply below_drew1 | refine below_set ?_ GE190.out | refine below_set ?_ GE198.out | refine below_set ?_ GE199.out) | exact HB.out)⟩⟩
     case rest =>
      clear HC38
      try clear c1
      try clear c2
      try clear p2
      try clear c4
      try clear p6
      try clear c14
      try clear c15
      try clear c26
      try clear c26b0
      try clear c27
      try clear c28
      try clear c41
      try clear c41b0
      try clear c41b1
      try clear c41b2
      try clear c45
      try clear c45b0
      obtain ⟨kq, x63_37, rfl, HA, HJ37, BK190, BK198, BK199, HB⟩ := hcut
      cases kq with
      | zero => exact absurd HA.out (by simp [cambiumlaw16_SpanMay.j2])
      | succ kj37 =>
       have H := HA.out
       clear HA
       simp only [cambiumlaw16_SpanMay.j2] at H
       by_cases c52 : x63_37 = true
       ·subst c52
        have H1 : (some false) = some r := by rw [if_pos rfl] at H; exact H
        clear H
        have H := H1
        clear H1
        obtain rfl := Option.some.inj H
        go_wp2
        go_ret
        exact ⟨by first | rfl | (simp [errW_none, errW_some] <;> rfl) | (simp [*, errW_none, errW_some] <;> rfl), by repeat (first | (with_reducible first | exact HB.out | apply below_alloc | apply pw_below_drewN | apply below_drew1 | refine below_set ?_ GE190.out | refine below_set ?_ GE198.out | refine below_set ?_ GE199.out) | exact HB.out)⟩
       replace c52 := Bool.eq_false_iff.mpr c52
       subst c52
       have H1 : ((cambiumref16_May.f kj37 a0_0 a0_1 a0_2 a0_3 a0_4 a0_5 a0_6 a0_7 l0_8 l0_9 l0_10).bind fun t204 => (if t204 = true then ((span_End.f a0_0 a0_1 a0_2 a0_3 a0_4 a0_5 a0_6 a0_7 l0_8 l0_9 l0_10).bind fun t205 => (if t205 = (wrap64 (a0_5 + a0_6)) then ((span_End.f a0_0 a0_1 a0_2 a0_3 a0_4 a0_5 a0_6 a0_7 l0_8 l0_9 l0_10).bind fun t206 => (some (decide (t206 ≥ a0_5)))) else (some false))) else (some true))) = some r := by rw [if_neg (show ¬ (false = true) by decide)] at H; exact H
       clear H
       have H := H1
       clear H1
       replace H := Option.bind_eq_some_iff.mp H
       obtain ⟨t204, A530, H⟩ := H
       replace H : (if t204 = true then ((span_End.f a0_0 a0_1 a0_2 a0_3 a0_4 a0_5 a0_6 a0_7 l0_8 l0_9 l0_10).bind fun t205 => (if t205 = (wrap64 (a0_5 + a0_6)) then ((span_End.f a0_0 a0_1 a0_2 a0_3 a0_4 a0_5 a0_6 a0_7 l0_8 l0_9 l0_10).bind fun t206 => (some (decide (t206 ≥ a0_5)))) else (some false))) else (some true)) = some r := H
       have A53 := Aside0.mk A530
       clear A530
       by_cases c54 : t204 = true
       rotate_left
       ·replace c54 := Bool.eq_false_iff.mpr c54
        subst c54
        have H1 : (some true) = some r := by rw [if_neg (show ¬ (false = true) by decide)] at H; exact H
        clear H
        have H := H1
        clear H1
        obtain rfl := Option.some.inj H
        try go_wp2
        have n0_ := Aside0.mk (blk_drew BK190.out)
        have n1_ := Aside0.mk (blk_drew BK198.out)
        have n2_ := Aside0.mk (blk_drew BK199.out)
        have n3_ := Aside0.mk (below_drew1 HB.out)
        clear BK190
        clear BK198
        clear BK199
        clear HB
        have BK190 := n0_
        have BK198 := n1_
        have BK199 := n2_
        have HB := n3_
        clear n0_ n1_ n2_ n3_
        as_aux_lemma =>
         refine start_ (n := 21) (S := fun w' => w'.cell? ⟨gb190, 0, none⟩ = some (.int .u64 a0_0) ∧ w'.cell? ⟨gb190, 1, none⟩ = some (.int .u64 a0_1) ∧ w'.cell? ⟨gb190, 2, none⟩ = some (.int .u64 a0_2) ∧ w'.cell? ⟨gb190, 3, none⟩ = some (.string a0_3) ∧ w'.cell? ⟨gb190, 4, none⟩ = some (.string a0_4) ∧ w'.cell? ⟨gb190, 5, none⟩ = some (.int .i64 a0_5) ∧ w'.cell? ⟨gb190, 6, none⟩ = some (.int .i64 a0_6) ∧ w'.cell? ⟨gb190, 7, none⟩ = some (.int .i64 a0_7) ∧ w'.cell? ⟨gb190, 8, none⟩ = some (.slice A0_8 l0_8.length c0_8) ∧ w'.cell? ⟨gb190, 9, none⟩ = some (.slice A0_9 l0_9.length c0_9) ∧ w'.cell? ⟨gb190, 10, none⟩ = some (.slice A0_10 l0_10.length c0_10)) (ds := []) #[false, false, false, false, false, false, false, false, false, false, false, false, false, false, false, false, false, false, false, false, false] (by kernel_rfl) rfl rfl ⟨q15k BK190.out 0, q15k BK190.out 1, q15k BK190.out 2, q15k BK190.out 3, q15k BK190.out 4, q15k BK190.out 5, q15k BK190.out 6, q15k BK190.out 7, q15k BK190.out 8, q15k BK190.out 9, q15k BK190.out 10⟩ (fun hHeld => ?_); refine with_tabW cambiumlaw16_SpanMay.tab16 cambiumlaw16_SpanMay.bits16 (fun HT_ HW_ => ?_)
         generalize wc.drew = w65 at BK190 BK198 BK199 HB hHeld ⊢
         refine take_ (i := 0) (N := some 64) (v := ?_) (a' := ?_) (q15m 21 1) rfl rfl (take_ofW HT_.out HW_.out (by kernel_rfl)) (fun _ _ _ h => h) (Or.inl ⟨by rfl, ?_⟩) hHeld ?_ ?_; rotate_left; (rintro w' ⟨s0, s1, s2, s3, s4, s5, s6, s7, s8, s9, s10⟩; go_simp; with_reducible rfl); rotate_left; (simp only [Act.put, q15a, q15b, q15c, i64_w, i32_w]; rfl)
         refine one_ (i := 1) (N := some 65) (q15m 21 3) rfl rfl (one_of HT_.out (by kernel_rfl)) (by decide) (fun K hK => ?_)
         refine goes_ Tryd.func14 (by kernel_rfl) rfl #[.agg #[.int .u64 a0_0, .int .u64 a0_1, .int .u64 a0_2, .string a0_3, .string a0_4, .int .i64 a0_5, .int .i64 a0_6, .int .i64 a0_7, .slice A0_8 l0_8.length c0_8, .slice A0_9 l0_9.length c0_9, .slice A0_10 l0_10.length c0_10]] (by rfl) rfl rfl q15y1 ?_
         with_reducible refine (cambiumref16_May.calls kj37 a0_0 a0_1 a0_2 a0_3 a0_4 a0_5 a0_6 a0_7 _ _ l0_8 _ _ l0_9 _ _ l0_10 false _ ?side1 ?side2 ?side3 ?side4 ?side5 ?side6 A53.out).mono ?_
         (case side1 => repeat (first | exact (Kd.C_below HR0_8.out HB.out) | (with_reducible refine Kd.C_alloc ?_ _) | (with_reducible refine Kd.C_drewN ?_ _) | (with_reducible refine Kd.C_drew ?_)))
         (case side2 => exact HC0_8.out)
         (case side3 => repeat (first | exact (Kd.C_below HR0_9.out HB.out) | (with_reducible refine Kd.C_alloc ?_ _) | (with_reducible refine Kd.C_drewN ?_ _) | (with_reducible refine Kd.C_drew ?_)))
         (case side4 => exact HC0_9.out)
         (case side5 => repeat (first | exact (Kd.C_below HR0_10.out HB.out) | (with_reducible refine Kd.C_alloc ?_ _) | (with_reducible refine Kd.C_drewN ?_ _) | (with_reducible refine Kd.C_drew ?_)))
         (case side6 => exact HC0_10.out)
         rintro e w66 ⟨rfl, hb⟩
         refine ⟨_, rfl, ?_⟩
         have n0_ := Aside0.mk (blk_below (g := gb190) (o := .cells #[.int .u64 a0_0, .int .u64 a0_1, .int .u64 a0_2, .string a0_3, .string a0_4, .int .i64 a0_5, .int .i64 a0_6, .int .i64 a0_7, .slice A0_8 l0_8.length c0_8, .slice A0_9 l0_9.length c0_9, .slice A0_10 l0_10.length c0_10] 36 (0, 0)) q15y2 hb)
         have n1_ := Aside0.mk (blk_below (g := gb198) (o := .cells #[.int .i64 t193, .string t194, .int .i64 t195, .bool t196] 23 (0, 0)) q15y4 hb)
         have n2_ := Aside0.mk (blk_below (g := gb199) (o := .cells #[.int .i64 x200000_2, .string x200001_2, .int .i64 x200002_2, .bool x200003_2] 23 (0, 0)) q15y3 hb)
         have n3_ := Aside0.mk (below_step q15y0 hb)
         clear BK190
         clear BK198
         clear BK199
         clear HB
         have BK190 := n0_
         have BK198 := n1_
         have BK199 := n2_
         have HB := n3_
         clear n0_ n1_ n2_ n3_
         (try clear hb)
         (try clear hb2)
         (try clear hk)
         (try clear hi)
         refine hK.out _ _ ⟨q15k BK190.out 0, q15k BK190.out 1, q15k BK190.out 2, q15k BK190.out 3, q15k BK190.out 4, q15k BK190.out 5, q15k BK190.out 6, q15k BK190.out 7, q15k BK190.out 8, q15k BK190.out 9, q15k BK190.out 10⟩ (fun hHeld => ?_)
         clear hK K
         refine norm_ (a' := ?_) ?_ ?_
         rotate_left
         ·show Act.put _ (some 65) _ = _
          simp only [Act.put, q15a, q15b, q15c, i64_w, i32_w]
          rfl
         refine q15p (i := 2) (N := some 66) (q15m 21 7) HT_.out ?_
         refine q15p (i := 3) (N := some 67) (q15m 21 15) HT_.out ?_
         refine q15u (i := 4) (N := some 68) (q15m 21 31) HT_.out ?_
         refine q15u (i := 5) (N := some 69) (q15m 21 63) HT_.out ?_
         refine q15u (i := 6) (N := some 70) (q15m 21 127) HT_.out ?_
         refine q15u (i := 7) (N := some 71) (q15m 21 255) HT_.out ?_
         refine q15u (i := 8) (N := some 72) (q15m 21 511) HT_.out ?_
         refine q15u (i := 9) (N := some 73) (q15m 21 1023) HT_.out ?_
         refine q15u (i := 10) (N := some 74) (q15m 21 2047) HT_.out ?_
         refine q15u (i := 11) (N := some 75) (q15m 21 4095) HT_.out ?_
         refine q15u (i := 12) (N := some 76) (q15m 21 8191) HT_.out ?_
         refine q15u (i := 13) (N := some 77) (q15m 21 16383) HT_.out ?_
         refine q15u (i := 14) (N := some 78) (q15m 21 32767) HT_.out ?_
         refine q15u (i := 15) (N := some 79) (q15m 21 65535) HT_.out ?_
         refine q15u (i := 16) (N := some 80) (q15m 21 131071) HT_.out ?_
         refine q15u (i := 17) (N := some 81) (q15m 21 262143) HT_.out ?_
         refine q15u (i := 18) (N := some 82) (q15m 21 524287) HT_.out ?_
         refine q15p (i := 19) (N := some 83) (q15m 21 1048575) HT_.out ?_
         refine q15p (i := 20) (N := some 4) (q15m 21 2097151) HT_.out ?_
         refine done_ (done_of HT_.out (by kernel_rfl)) ?_
         try go_wp2
         go_ret
         exact ⟨by first | rfl | (simp [errW_none, errW_some] <;> rfl) | (simp [*, errW_none, errW_some] <;> rfl), by repeat (first | (with_reducible first | exact HB.out | apply below_alloc | apply pw_below_drewN | apply below_drew1 | refine below_set ?_ GE190.out | refine below_set ?_ GE198.out | refine below_set ?_ GE199.out) | exact HB.out)⟩
       subst c54
       have H1 : ((span_End.f a0_0 a0_1 a0_2 a0_3 a0_4 a0_5 a0_6 a0_7 l0_8 l0_9 l0_10).bind fun t205 => (if t205 = (wrap64 (a0_5 + a0_6)) then ((span_End.f a0_0 a0_1 a0_2 a0_3 a0_4 a0_5 a0_6 a0_7 l0_8 l0_9 l0_10).bind fun t206 => (some (decide (t206 ≥ a0_5)))) else (some false))) = some r := by rw [if_pos rfl] at H; exact H
       clear H
       have H := H1
       clear H1
       replace H := Option.bind_eq_some_iff.mp H
       obtain ⟨t205, A550, H⟩ := H
       replace H : (if t205 = (wrap64 (a0_5 + a0_6)) then ((span_End.f a0_0 a0_1 a0_2 a0_3 a0_4 a0_5 a0_6 a0_7 l0_8 l0_9 l0_10).bind fun t206 => (some (decide (t206 ≥ a0_5)))) else (some false)) = some r := H
       have A55 := Aside0.mk A550
       clear A550
       by_cases c56 : t205 = (wrap64 (a0_5 + a0_6))
       rotate_left
       ·rw [if_neg c56] at H
        have c56b0 : (t205 == (wrap64 (a0_5 + a0_6))) = false := beq_eq_false_iff_ne.mpr c56
        have c56b1 : (t205 != (wrap64 (a0_5 + a0_6))) = true := bne_iff_ne.mpr c56
        obtain rfl := Option.some.inj H
        try go_wp2
        have n0_ := Aside0.mk (blk_drew BK190.out)
        have n1_ := Aside0.mk (blk_drew BK198.out)
        have n2_ := Aside0.mk (blk_drew BK199.out)
        have n3_ := Aside0.mk (below_drew1 HB.out)
        clear BK190
        clear BK198
        clear BK199
        clear HB
        have BK190 := n0_
        have BK198 := n1_
        have BK199 := n2_
        have HB := n3_
        clear n0_ n1_ n2_ n3_
        as_aux_lemma =>
         refine start_ (n := 21) (S := fun w' => w'.cell? ⟨gb190, 0, none⟩ = some (.int .u64 a0_0) ∧ w'.cell? ⟨gb190, 1, none⟩ = some (.int .u64 a0_1) ∧ w'.cell? ⟨gb190, 2, none⟩ = some (.int .u64 a0_2) ∧ w'.cell? ⟨gb190, 3, none⟩ = some (.string a0_3) ∧ w'.cell? ⟨gb190, 4, none⟩ = some (.string a0_4) ∧ w'.cell? ⟨gb190, 5, none⟩ = some (.int .i64 a0_5) ∧ w'.cell? ⟨gb190, 6, none⟩ = some (.int .i64 a0_6) ∧ w'.cell? ⟨gb190, 7, none⟩ = some (.int .i64 a0_7) ∧ w'.cell? ⟨gb190, 8, none⟩ = some (.slice A0_8 l0_8.length c0_8) ∧ w'.cell? ⟨gb190, 9, none⟩ = some (.slice A0_9 l0_9.length c0_9) ∧ w'.cell? ⟨gb190, 10, none⟩ = some (.slice A0_10 l0_10.length c0_10)) (ds := []) #[false, false, false, false, false, false, false, false, false, false, false, false, false, false, false, false, false, false, false, false, false] (by kernel_rfl) rfl rfl ⟨q15k BK190.out 0, q15k BK190.out 1, q15k BK190.out 2, q15k BK190.out 3, q15k BK190.out 4, q15k BK190.out 5, q15k BK190.out 6, q15k BK190.out 7, q15k BK190.out 8, q15k BK190.out 9, q15k BK190.out 10⟩ (fun hHeld => ?_); refine with_tabW cambiumlaw16_SpanMay.tab16 cambiumlaw16_SpanMay.bits16 (fun HT_ HW_ => ?_)
         generalize wc.drew = w62 at BK190 BK198 BK199 HB hHeld ⊢
         refine take_ (i := 0) (N := some 64) (v := ?_) (a' := ?_) (q15m 21 1) rfl rfl (take_ofW HT_.out HW_.out (by kernel_rfl)) (fun _ _ _ h => h) (Or.inl ⟨by rfl, ?_⟩) hHeld ?_ ?_; rotate_left; (rintro w' ⟨s0, s1, s2, s3, s4, s5, s6, s7, s8, s9, s10⟩; go_simp; with_reducible rfl); rotate_left; (simp only [Act.put, q15a, q15b, q15c, i64_w, i32_w]; rfl)
         refine one_ (i := 1) (N := some 65) (q15m 21 3) rfl rfl (one_of HT_.out (by kernel_rfl)) (by decide) (fun K hK => ?_)
         refine goes_ Tryd.func14 (by kernel_rfl) rfl #[.agg #[.int .u64 a0_0, .int .u64 a0_1, .int .u64 a0_2, .string a0_3, .string a0_4, .int .i64 a0_5, .int .i64 a0_6, .int .i64 a0_7, .slice A0_8 l0_8.length c0_8, .slice A0_9 l0_9.length c0_9, .slice A0_10 l0_10.length c0_10]] (by rfl) rfl rfl q15y1 ?_
         with_reducible refine (cambiumref16_May.calls kj37 a0_0 a0_1 a0_2 a0_3 a0_4 a0_5 a0_6 a0_7 _ _ l0_8 _ _ l0_9 _ _ l0_10 true _ ?side1 ?side2 ?side3 ?side4 ?side5 ?side6 A53.out).mono ?_
         (case side1 => repeat (first | exact (Kd.C_below HR0_8.out HB.out) | (with_reducible refine Kd.C_alloc ?_ _) | (with_reducible refine Kd.C_drewN ?_ _) | (with_reducible refine Kd.C_drew ?_)))
         (case side2 => exact HC0_8.out)
         (case side3 => repeat (first | exact (Kd.C_below HR0_9.out HB.out) | (with_reducible refine Kd.C_alloc ?_ _) | (with_reducible refine Kd.C_drewN ?_ _) | (with_reducible refine Kd.C_drew ?_)))
         (case side4 => exact HC0_9.out)
         (case side5 => repeat (first | exact (Kd.C_below HR0_10.out HB.out) | (with_reducible refine Kd.C_alloc ?_ _) | (with_reducible refine Kd.C_drewN ?_ _) | (with_reducible refine Kd.C_drew ?_)))
         (case side6 => exact HC0_10.out)
         rintro e w63 ⟨rfl, hb⟩
         refine ⟨_, rfl, ?_⟩
         have n0_ := Aside0.mk (blk_below (g := gb190) (o := .cells #[.int .u64 a0_0, .int .u64 a0_1, .int .u64 a0_2, .string a0_3, .string a0_4, .int .i64 a0_5, .int .i64 a0_6, .int .i64 a0_7, .slice A0_8 l0_8.length c0_8, .slice A0_9 l0_9.length c0_9, .slice A0_10 l0_10.length c0_10] 36 (0, 0)) q15y2 hb)
         have n1_ := Aside0.mk (blk_below (g := gb198) (o := .cells #[.int .i64 t193, .string t194, .int .i64 t195, .bool t196] 23 (0, 0)) q15y4 hb)
         have n2_ := Aside0.mk (blk_below (g := gb199) (o := .cells #[.int .i64 x200000_2, .string x200001_2, .int .i64 x200002_2, .bool x200003_2] 23 (0, 0)) q15y3 hb)
         have n3_ := Aside0.mk (below_step q15y0 hb)
         clear BK190
         clear BK198
         clear BK199
         clear HB
         have BK190 := n0_
         have BK198 := n1_
         have BK199 := n2_
         have HB := n3_
         clear n0_ n1_ n2_ n3_
         (try clear hb)
         (try clear hb2)
         (try clear hk)
         (try clear hi)
         refine hK.out _ _ ⟨q15k BK190.out 0, q15k BK190.out 1, q15k BK190.out 2, q15k BK190.out 3, q15k BK190.out 4, q15k BK190.out 5, q15k BK190.out 6, q15k BK190.out 7, q15k BK190.out 8, q15k BK190.out 9, q15k BK190.out 10⟩ (fun hHeld => ?_)
         clear hK K
         refine norm_ (a' := ?_) ?_ ?_
         rotate_left
         ·show Act.put _ (some 65) _ = _
          simp only [Act.put, q15a, q15b, q15c, i64_w, i32_w]
          rfl
         refine q15p (i := 2) (N := some 66) (q15m 21 7) HT_.out ?_
         refine q15p (i := 3) (N := some 67) (q15m 21 15) HT_.out ?_
         refine q15p (i := 6) (N := some 70) (q15m 21 79) HT_.out ?_
         refine q15p (i := 8) (N := some 72) (q15m 21 335) HT_.out ?_
         refine take_ (i := 4) (N := some 68) (v := ?_) (a' := ?_) (q15m 21 351) rfl rfl (take_ofW HT_.out HW_.out (by kernel_rfl)) (fun _ _ _ h => h) (Or.inl ⟨by rfl, ?_⟩) hHeld ?_ ?_; rotate_left; (rintro w' ⟨s0, s1, s2, s3, s4, s5, s6, s7, s8, s9, s10⟩; go_simp; with_reducible rfl); rotate_left; (simp only [Act.put, q15a, q15b, q15c, i64_w, i32_w]; rfl)
         refine take_ (i := 7) (N := some 71) (v := ?_) (a' := ?_) (q15m 21 479) rfl rfl (take_ofW HT_.out HW_.out (by kernel_rfl)) (fun _ _ _ h => h) (Or.inl ⟨by rfl, ?_⟩) hHeld ?_ ?_; rotate_left; (rintro w' ⟨s0, s1, s2, s3, s4, s5, s6, s7, s8, s9, s10⟩; go_simp; with_reducible rfl); rotate_left; (simp only [Act.put, q15a, q15b, q15c, i64_w, i32_w]; rfl)
         refine take_ (i := 9) (N := some 73) (v := ?_) (a' := ?_) (q15m 21 991) rfl rfl (take_ofW HT_.out HW_.out (by kernel_rfl)) (fun _ _ _ h => h) (Or.inl ⟨by rfl, ?_⟩) hHeld ?_ ?_; rotate_left; (rintro w' ⟨s0, s1, s2, s3, s4, s5, s6, s7, s8, s9, s10⟩; go_simp; with_reducible rfl); rotate_left; (simp only [Act.put, q15a, q15b, q15c, i64_w, i32_w]; rfl)
         refine q15p (i := 10) (N := some 74) (q15m 21 2015) HT_.out ?_
         refine one_ (i := 5) (N := some 69) (q15m 21 2047) rfl rfl (one_of HT_.out (by kernel_rfl)) (by decide) (fun K hK => ?_)
         refine goes_ Tryd.func17 (by kernel_rfl) rfl #[.agg #[.int .u64 a0_0, .int .u64 a0_1, .int .u64 a0_2, .string a0_3, .string a0_4, .int .i64 a0_5, .int .i64 a0_6, .int .i64 a0_7, .slice A0_8 l0_8.length c0_8, .slice A0_9 l0_9.length c0_9, .slice A0_10 l0_10.length c0_10]] (by rfl) rfl rfl q15y1 ?_
         with_reducible refine (span_End.calls a0_0 a0_1 a0_2 a0_3 a0_4 a0_5 a0_6 a0_7 _ _ l0_8 _ _ l0_9 _ _ l0_10 t205 _ ?side1 ?side2 ?side3 ?side4 ?side5 ?side6 A55.out).mono ?_
         (case side1 => repeat (first | exact (Kd.C_below HR0_8.out HB.out) | (with_reducible refine Kd.C_alloc ?_ _) | (with_reducible refine Kd.C_drewN ?_ _) | (with_reducible refine Kd.C_drew ?_)))
         (case side2 => exact HC0_8.out)
         (case side3 => repeat (first | exact (Kd.C_below HR0_9.out HB.out) | (with_reducible refine Kd.C_alloc ?_ _) | (with_reducible refine Kd.C_drewN ?_ _) | (with_reducible refine Kd.C_drew ?_)))
         (case side4 => exact HC0_9.out)
         (case side5 => repeat (first | exact (Kd.C_below HR0_10.out HB.out) | (with_reducible refine Kd.C_alloc ?_ _) | (with_reducible refine Kd.C_drewN ?_ _) | (with_reducible refine Kd.C_drew ?_)))
         (case side6 => exact HC0_10.out)
         rintro e w64 ⟨rfl, hb⟩
         refine ⟨_, rfl, ?_⟩
         have n0_ := Aside0.mk (blk_below (g := gb190) (o := .cells #[.int .u64 a0_0, .int .u64 a0_1, .int .u64 a0_2, .string a0_3, .string a0_4, .int .i64 a0_5, .int .i64 a0_6, .int .i64 a0_7, .slice A0_8 l0_8.length c0_8, .slice A0_9 l0_9.length c0_9, .slice A0_10 l0_10.length c0_10] 36 (0, 0)) q15y2 hb)
         have n1_ := Aside0.mk (blk_below (g := gb198) (o := .cells #[.int .i64 t193, .string t194, .int .i64 t195, .bool t196] 23 (0, 0)) q15y4 hb)
         have n2_ := Aside0.mk (blk_below (g := gb199) (o := .cells #[.int .i64 x200000_2, .string x200001_2, .int .i64 x200002_2, .bool x200003_2] 23 (0, 0)) q15y3 hb)
         have n3_ := Aside0.mk (below_step q15y0 hb)
         clear BK190
         clear BK198
         clear BK199
         clear HB
         have BK190 := n0_
         have BK198 := n1_
         have BK199 := n2_
         have HB := n3_
         clear n0_ n1_ n2_ n3_
         (try clear hb)
         (try clear hb2)
         (try clear hk)
         (try clear hi)
         refine hK.out _ _ ⟨q15k BK190.out 0, q15k BK190.out 1, q15k BK190.out 2, q15k BK190.out 3, q15k BK190.out 4, q15k BK190.out 5, q15k BK190.out 6, q15k BK190.out 7, q15k BK190.out 8, q15k BK190.out 9, q15k BK190.out 10⟩ (fun hHeld => ?_)
         clear hK K
         refine norm_ (a' := ?_) ?_ ?_
         rotate_left
         ·show Act.put _ (some 69) _ = _
          simp only [Act.put, q15a, q15b, q15c, i64_w, i32_w]
          rfl
         refine q15p (i := 11) (N := some 75) (q15m 21 4095) HT_.out ?_
         refine q15p (i := 12) (N := some 76) (q15m 21 8191) HT_.out ?_
         refine q15u (i := 13) (N := some 77) (q15m 21 16383) HT_.out ?_
         refine q15u (i := 14) (N := some 78) (q15m 21 32767) HT_.out ?_
         refine q15u (i := 15) (N := some 79) (q15m 21 65535) HT_.out ?_
         refine q15u (i := 16) (N := some 80) (q15m 21 131071) HT_.out ?_
         refine q15u (i := 17) (N := some 81) (q15m 21 262143) HT_.out ?_
         refine q15p (i := 18) (N := some 82) (q15m 21 524287) HT_.out ?_
         refine q15p (i := 19) (N := some 83) (q15m 21 1048575) HT_.out ?_
         refine q15p (i := 20) (N := some 4) (q15m 21 2097151) HT_.out ?_
         refine done_ (done_of HT_.out (by kernel_rfl)) ?_
         try go_wp2
         go_ret
         exact ⟨by first | rfl | (simp [errW_none, errW_some] <;> rfl) | (simp [*, errW_none, errW_some] <;> rfl), by repeat (first | (with_reducible first | exact HB.out | apply below_alloc | apply pw_below_drewN | apply below_drew1 | refine below_set ?_ GE190.out | refine below_set ?_ GE198.out | refine below_set ?_ GE199.out) | exact HB.out)⟩
       rw [if_pos c56] at H
       have c56b0 : (t205 == (wrap64 (a0_5 + a0_6))) = true := beq_iff_eq.mpr c56
       have c56b1 : (t205 != (wrap64 (a0_5 + a0_6))) = false := bne_eq_false_iff_eq.mpr c56
       clear c56
       replace H := Option.bind_eq_some_iff.mp H
       obtain ⟨t206, A570, H⟩ := H
       replace H : (some (decide (t206 ≥ a0_5))) = some r := H
       have A57 := Aside0.mk A570
       clear A570
       obtain rfl := Option.some.inj H
       try go_wp2
       have n0_ := Aside0.mk (blk_drew BK190.out)
       have n1_ := Aside0.mk (blk_drew BK198.out)
       have n2_ := Aside0.mk (blk_drew BK199.out)
       have n3_ := Aside0.mk (below_drew1 HB.out)
       clear BK190
       clear BK198
       clear BK199
       clear HB
       have BK190 := n0_
       have BK198 := n1_
       have BK199 := n2_
       have HB := n3_
       clear n0_ n1_ n2_ n3_
       as_aux_lemma =>
        refine start_ (n := 21) (S := fun w' => w'.cell? ⟨gb190, 0, none⟩ = some (.int .u64 a0_0) ∧ w'.cell? ⟨gb190, 1, none⟩ = some (.int .u64 a0_1) ∧ w'.cell? ⟨gb190, 2, none⟩ = some (.int .u64 a0_2) ∧ w'.cell? ⟨gb190, 3, none⟩ = some (.string a0_3) ∧ w'.cell? ⟨gb190, 4, none⟩ = some (.string a0_4) ∧ w'.cell? ⟨gb190, 5, none⟩ = some (.int .i64 a0_5) ∧ w'.cell? ⟨gb190, 6, none⟩ = some (.int .i64 a0_6) ∧ w'.cell? ⟨gb190, 7, none⟩ = some (.int .i64 a0_7) ∧ w'.cell? ⟨gb190, 8, none⟩ = some (.slice A0_8 l0_8.length c0_8) ∧ w'.cell? ⟨gb190, 9, none⟩ = some (.slice A0_9 l0_9.length c0_9) ∧ w'.cell? ⟨gb190, 10, none⟩ = some (.slice A0_10 l0_10.length c0_10)) (ds := []) #[false, false, false, false, false, false, false, false, false, false, false, false, false, false, false, false, false, false, false, false, false] (by kernel_rfl) rfl rfl ⟨q15k BK190.out 0, q15k BK190.out 1, q15k BK190.out 2, q15k BK190.out 3, q15k BK190.out 4, q15k BK190.out 5, q15k BK190.out 6, q15k BK190.out 7, q15k BK190.out 8, q15k BK190.out 9, q15k BK190.out 10⟩ (fun hHeld => ?_); refine with_tabW cambiumlaw16_SpanMay.tab16 cambiumlaw16_SpanMay.bits16 (fun HT_ HW_ => ?_)
        generalize wc.drew = w58 at BK190 BK198 BK199 HB hHeld ⊢
        refine take_ (i := 0) (N := some 64) (v := ?_) (a' := ?_) (q15m 21 1) rfl rfl (take_ofW HT_.out HW_.out (by kernel_rfl)) (fun _ _ _ h => h) (Or.inl ⟨by rfl, ?_⟩) hHeld ?_ ?_; rotate_left; (rintro w' ⟨s0, s1, s2, s3, s4, s5, s6, s7, s8, s9, s10⟩; go_simp; with_reducible rfl); rotate_left; (simp only [Act.put, q15a, q15b, q15c, i64_w, i32_w]; rfl)
        refine one_ (i := 1) (N := some 65) (q15m 21 3) rfl rfl (one_of HT_.out (by kernel_rfl)) (by decide) (fun K hK => ?_)
        refine goes_ Tryd.func14 (by kernel_rfl) rfl #[.agg #[.int .u64 a0_0, .int .u64 a0_1, .int .u64 a0_2, .string a0_3, .string a0_4, .int .i64 a0_5, .int .i64 a0_6, .int .i64 a0_7, .slice A0_8 l0_8.length c0_8, .slice A0_9 l0_9.length c0_9, .slice A0_10 l0_10.length c0_10]] (by rfl) rfl rfl q15y1 ?_
        with_reducible refine (cambiumref16_May.calls kj37 a0_0 a0_1 a0_2 a0_3 a0_4 a0_5 a0_6 a0_7 _ _ l0_8 _ _ l0_9 _ _ l0_10 true _ ?side1 ?side2 ?side3 ?side4 ?side5 ?side6 A53.out).mono ?_
        (case side1 => repeat (first | exact (Kd.C_below HR0_8.out HB.out) | (with_reducible refine Kd.C_alloc ?_ _) | (with_reducible refine Kd.C_drewN ?_ _) | (with_reducible refine Kd.C_drew ?_)))
        (case side2 => exact HC0_8.out)
        (case side3 => repeat (first | exact (Kd.C_below HR0_9.out HB.out) | (with_reducible refine Kd.C_alloc ?_ _) | (with_reducible refine Kd.C_drewN ?_ _) | (with_reducible refine Kd.C_drew ?_)))
        (case side4 => exact HC0_9.out)
        (case side5 => repeat (first | exact (Kd.C_below HR0_10.out HB.out) | (with_reducible refine Kd.C_alloc ?_ _) | (with_reducible refine Kd.C_drewN ?_ _) | (with_reducible refine Kd.C_drew ?_)))
        (case side6 => exact HC0_10.out)
        rintro e w59 ⟨rfl, hb⟩
        refine ⟨_, rfl, ?_⟩
        have n0_ := Aside0.mk (blk_below (g := gb190) (o := .cells #[.int .u64 a0_0, .int .u64 a0_1, .int .u64 a0_2, .string a0_3, .string a0_4, .int .i64 a0_5, .int .i64 a0_6, .int .i64 a0_7, .slice A0_8 l0_8.length c0_8, .slice A0_9 l0_9.length c0_9, .slice A0_10 l0_10.length c0_10] 36 (0, 0)) q15y2 hb)
        have n1_ := Aside0.mk (blk_below (g := gb198) (o := .cells #[.int .i64 t193, .string t194, .int .i64 t195, .bool t196] 23 (0, 0)) q15y4 hb)
        have n2_ := Aside0.mk (blk_below (g := gb199) (o := .cells #[.int .i64 x200000_2, .string x200001_2, .int .i64 x200002_2, .bool x200003_2] 23 (0, 0)) q15y3 hb)
        have n3_ := Aside0.mk (below_step q15y0 hb)
        clear BK190
        clear BK198
        clear BK199
        clear HB
        have BK190 := n0_
        have BK198 := n1_
        have BK199 := n2_
        have HB := n3_
        clear n0_ n1_ n2_ n3_
        (try clear hb)
        (try clear hb2)
        (try clear hk)
        (try clear hi)
        refine hK.out _ _ ⟨q15k BK190.out 0, q15k BK190.out 1, q15k BK190.out 2, q15k BK190.out 3, q15k BK190.out 4, q15k BK190.out 5, q15k BK190.out 6, q15k BK190.out 7, q15k BK190.out 8, q15k BK190.out 9, q15k BK190.out 10⟩ (fun hHeld => ?_)
        clear hK K
        refine norm_ (a' := ?_) ?_ ?_
        rotate_left
        ·show Act.put _ (some 65) _ = _
         simp only [Act.put, q15a, q15b, q15c, i64_w, i32_w]
         rfl
        refine q15p (i := 2) (N := some 66) (q15m 21 7) HT_.out ?_
        refine q15p (i := 3) (N := some 67) (q15m 21 15) HT_.out ?_
        refine q15p (i := 6) (N := some 70) (q15m 21 79) HT_.out ?_
        refine q15p (i := 8) (N := some 72) (q15m 21 335) HT_.out ?_
        refine take_ (i := 4) (N := some 68) (v := ?_) (a' := ?_) (q15m 21 351) rfl rfl (take_ofW HT_.out HW_.out (by kernel_rfl)) (fun _ _ _ h => h) (Or.inl ⟨by rfl, ?_⟩) hHeld ?_ ?_; rotate_left; (rintro w' ⟨s0, s1, s2, s3, s4, s5, s6, s7, s8, s9, s10⟩; go_simp; with_reducible rfl); rotate_left; (simp only [Act.put, q15a, q15b, q15c, i64_w, i32_w]; rfl)
        refine take_ (i := 7) (N := some 71) (v := ?_) (a' := ?_) (q15m 21 479) rfl rfl (take_ofW HT_.out HW_.out (by kernel_rfl)) (fun _ _ _ h => h) (Or.inl ⟨by rfl, ?_⟩) hHeld ?_ ?_; rotate_left; (rintro w' ⟨s0, s1, s2, s3, s4, s5, s6, s7, s8, s9, s10⟩; go_simp; with_reducible rfl); rotate_left; (simp only [Act.put, q15a, q15b, q15c, i64_w, i32_w]; rfl)
        refine take_ (i := 9) (N := some 73) (v := ?_) (a' := ?_) (q15m 21 991) rfl rfl (take_ofW HT_.out HW_.out (by kernel_rfl)) (fun _ _ _ h => h) (Or.inl ⟨by rfl, ?_⟩) hHeld ?_ ?_; rotate_left; (rintro w' ⟨s0, s1, s2, s3, s4, s5, s6, s7, s8, s9, s10⟩; go_simp; with_reducible rfl); rotate_left; (simp only [Act.put, q15a, q15b, q15c, i64_w, i32_w]; rfl)
        refine q15p (i := 10) (N := some 74) (q15m 21 2015) HT_.out ?_
        refine one_ (i := 5) (N := some 69) (q15m 21 2047) rfl rfl (one_of HT_.out (by kernel_rfl)) (by decide) (fun K hK => ?_)
        refine goes_ Tryd.func17 (by kernel_rfl) rfl #[.agg #[.int .u64 a0_0, .int .u64 a0_1, .int .u64 a0_2, .string a0_3, .string a0_4, .int .i64 a0_5, .int .i64 a0_6, .int .i64 a0_7, .slice A0_8 l0_8.length c0_8, .slice A0_9 l0_9.length c0_9, .slice A0_10 l0_10.length c0_10]] (by rfl) rfl rfl q15y1 ?_
        with_reducible refine (span_End.calls a0_0 a0_1 a0_2 a0_3 a0_4 a0_5 a0_6 a0_7 _ _ l0_8 _ _ l0_9 _ _ l0_10 t205 _ ?side1 ?side2 ?side3 ?side4 ?side5 ?side6 A55.out).mono ?_
        (case side1 => repeat (first | exact (Kd.C_below HR0_8.out HB.out) | (with_reducible refine Kd.C_alloc ?_ _) | (with_reducible refine Kd.C_drewN ?_ _) | (with_reducible refine Kd.C_drew ?_)))
        (case side2 => exact HC0_8.out)
        (case side3 => repeat (first | exact (Kd.C_below HR0_9.out HB.out) | (with_reducible refine Kd.C_alloc ?_ _) | (with_reducible refine Kd.C_drewN ?_ _) | (with_reducible refine Kd.C_drew ?_)))
        (case side4 => exact HC0_9.out)
        (case side5 => repeat (first | exact (Kd.C_below HR0_10.out HB.out) | (with_reducible refine Kd.C_alloc ?_ _) | (with_reducible refine Kd.C_drewN ?_ _) | (with_reducible refine Kd.C_drew ?_)))
        (case side6 => exact HC0_10.out)
        rintro e w60 ⟨rfl, hb⟩
        refine ⟨_, rfl, ?_⟩
        have n0_ := Aside0.mk (blk_below (g := gb190) (o := .cells #[.int .u64 a0_0, .int .u64 a0_1, .int .u64 a0_2, .string a0_3, .string a0_4, .int .i64 a0_5, .int .i64 a0_6, .int .i64 a0_7, .slice A0_8 l0_8.length c0_8, .slice A0_9 l0_9.length c0_9, .slice A0_10 l0_10.length c0_10] 36 (0, 0)) q15y2 hb)
        have n1_ := Aside0.mk (blk_below (g := gb198) (o := .cells #[.int .i64 t193, .string t194, .int .i64 t195, .bool t196] 23 (0, 0)) q15y4 hb)
        have n2_ := Aside0.mk (blk_below (g := gb199) (o := .cells #[.int .i64 x200000_2, .string x200001_2, .int .i64 x200002_2, .bool x200003_2] 23 (0, 0)) q15y3 hb)
        have n3_ := Aside0.mk (below_step q15y0 hb)
        clear BK190
        clear BK198
        clear BK199
        clear HB
        have BK190 := n0_
        have BK198 := n1_
        have BK199 := n2_
        have HB := n3_
        clear n0_ n1_ n2_ n3_
        (try clear hb)
        (try clear hb2)
        (try clear hk)
        (try clear hi)
        refine hK.out _ _ ⟨q15k BK190.out 0, q15k BK190.out 1, q15k BK190.out 2, q15k BK190.out 3, q15k BK190.out 4, q15k BK190.out 5, q15k BK190.out 6, q15k BK190.out 7, q15k BK190.out 8, q15k BK190.out 9, q15k BK190.out 10⟩ (fun hHeld => ?_)
        clear hK K
        refine norm_ (a' := ?_) ?_ ?_
        rotate_left
        ·show Act.put _ (some 69) _ = _
         simp only [Act.put, q15a, q15b, q15c, i64_w, i32_w]
         rfl
        refine q15p (i := 11) (N := some 75) (q15m 21 4095) HT_.out ?_
        refine q15p (i := 12) (N := some 76) (q15m 21 8191) HT_.out ?_
        refine q15p (i := 15) (N := some 79) (q15m 21 40959) HT_.out ?_
        refine take_ (i := 13) (N := some 77) (v := ?_) (a' := ?_) (q15m 21 49151) rfl rfl (take_ofW HT_.out HW_.out (by kernel_rfl)) (fun _ _ _ h => h) (Or.inl ⟨by rfl, ?_⟩) hHeld ?_ ?_; rotate_left; (rintro w' ⟨s0, s1, s2, s3, s4, s5, s6, s7, s8, s9, s10⟩; go_simp; with_reducible rfl); rotate_left; (simp only [Act.put, q15a, q15b, q15c, i64_w, i32_w]; rfl)
        refine take_ (i := 16) (N := some 80) (v := ?_) (a' := ?_) (q15m 21 114687) rfl rfl (take_ofW HT_.out HW_.out (by kernel_rfl)) (fun _ _ _ h => h) (Or.inl ⟨by rfl, ?_⟩) hHeld ?_ ?_; rotate_left; (rintro w' ⟨s0, s1, s2, s3, s4, s5, s6, s7, s8, s9, s10⟩; go_simp; with_reducible rfl); rotate_left; (simp only [Act.put, q15a, q15b, q15c, i64_w, i32_w]; rfl)
        refine one_ (i := 14) (N := some 78) (q15m 21 131071) rfl rfl (one_of HT_.out (by kernel_rfl)) (by decide) (fun K hK => ?_)
        refine goes_ Tryd.func17 (by kernel_rfl) rfl #[.agg #[.int .u64 a0_0, .int .u64 a0_1, .int .u64 a0_2, .string a0_3, .string a0_4, .int .i64 a0_5, .int .i64 a0_6, .int .i64 a0_7, .slice A0_8 l0_8.length c0_8, .slice A0_9 l0_9.length c0_9, .slice A0_10 l0_10.length c0_10]] (by rfl) rfl rfl q15y1 ?_
        with_reducible refine (span_End.calls a0_0 a0_1 a0_2 a0_3 a0_4 a0_5 a0_6 a0_7 _ _ l0_8 _ _ l0_9 _ _ l0_10 t206 _ ?side1 ?side2 ?side3 ?side4 ?side5 ?side6 A57.out).mono ?_
        (case side1 => repeat (first | exact (Kd.C_below HR0_8.out HB.out) | (with_reducible refine Kd.C_alloc ?_ _) | (with_reducible refine Kd.C_drewN ?_ _) | (with_reducible refine Kd.C_drew ?_)))
        (case side2 => exact HC0_8.out)
        (case side3 => repeat (first | exact (Kd.C_below HR0_9.out HB.out) | (with_reducible refine Kd.C_alloc ?_ _) | (with_reducible refine Kd.C_drewN ?_ _) | (with_reducible refine Kd.C_drew ?_)))
        (case side4 => exact HC0_9.out)
        (case side5 => repeat (first | exact (Kd.C_below HR0_10.out HB.out) | (with_reducible refine Kd.C_alloc ?_ _) | (with_reducible refine Kd.C_drewN ?_ _) | (with_reducible refine Kd.C_drew ?_)))
        (case side6 => exact HC0_10.out)
        rintro e w61 ⟨rfl, hb⟩
        refine ⟨_, rfl, ?_⟩
        have n0_ := Aside0.mk (blk_below (g := gb190) (o := .cells #[.int .u64 a0_0, .int .u64 a0_1, .int .u64 a0_2, .string a0_3, .string a0_4, .int .i64 a0_5, .int .i64 a0_6, .int .i64 a0_7, .slice A0_8 l0_8.length c0_8, .slice A0_9 l0_9.length c0_9, .slice A0_10 l0_10.length c0_10] 36 (0, 0)) q15y2 hb)
        have n1_ := Aside0.mk (blk_below (g := gb198) (o := .cells #[.int .i64 t193, .string t194, .int .i64 t195, .bool t196] 23 (0, 0)) q15y4 hb)
        have n2_ := Aside0.mk (blk_below (g := gb199) (o := .cells #[.int .i64 x200000_2, .string x200001_2, .int .i64 x200002_2, .bool x200003_2] 23 (0, 0)) q15y3 hb)
        have n3_ := Aside0.mk (below_step q15y0 hb)
        clear BK190
        clear BK198
        clear BK199
        clear HB
        have BK190 := n0_
        have BK198 := n1_
        have BK199 := n2_
        have HB := n3_
        clear n0_ n1_ n2_ n3_
        (try clear hb)
        (try clear hb2)
        (try clear hk)
        (try clear hi)
        refine hK.out _ _ ⟨q15k BK190.out 0, q15k BK190.out 1, q15k BK190.out 2, q15k BK190.out 3, q15k BK190.out 4, q15k BK190.out 5, q15k BK190.out 6, q15k BK190.out 7, q15k BK190.out 8, q15k BK190.out 9, q15k BK190.out 10⟩ (fun hHeld => ?_)
        clear hK K
        refine norm_ (a' := ?_) ?_ ?_
        rotate_left
        ·show Act.put _ (some 78) _ = _
         simp only [Act.put, q15a, q15b, q15c, i64_w, i32_w]
         rfl
        refine q15p (i := 17) (N := some 81) (q15m 21 262143) HT_.out ?_
        refine q15p (i := 18) (N := some 82) (q15m 21 524287) HT_.out ?_
        refine q15p (i := 19) (N := some 83) (q15m 21 1048575) HT_.out ?_
        refine q15p (i := 20) (N := some 4) (q15m 21 2097151) HT_.out ?_
        refine done_ (done_of HT_.out (by kernel_rfl)) ?_
        try go_wp2
        go_ret
        exact ⟨by first | rfl | (simp [errW_none, errW_some] <;> rfl) | (simp [*, errW_none, errW_some] <;> rfl), by repeat (first | (with_reducible first | exact HB.out | apply below_alloc | apply pw_below_drewN | apply below_drew1 | refine below_set ?_ GE190.out | refine below_set ?_ GE198.out | refine below_set ?_ GE199.out) | exact HB.out)⟩
end Go.Proofs.YtkeepnmlphbffaaDoor.PSp
