-- Written by a program: the kit's print.py, driven for several laws at once. Not trusted: Lean checks it.
import Derived.Test.YtkeepnmlphbffaaDoorPSpx0
import Derived.Test.YtkeepnmlphbffaaDoorPSpx12
import Derived.Test.YtkeepnmlphbffaaDoorConv
namespace Go.Proofs.YtkeepnmlphbffaaDoor.PSp
open Go.RowKit Go.Proofs.YtkeepnmlphbffaaDoorW.PrintWords Go.Proofs.YtkeepnmlphbffaaDoorW.PrintLast Go.Proofs.YtkeepnmlphbffaaDoorW.PrintMore
attribute [local go_sem] max2_int min2_int max_two min_two max_three min_three max_four min_four   -- for this text's walks alone
set_option linter.unusedVariables false
set_option linter.unusedSimpArgs false

/-! ### cambiumref16_Compare: function 10 -/
def q19m (n m : Nat) : Array Bool := ((List.range n).map (Nat.testBit m)).toArray
theorem q19a {α : Type} (xs : List α) (i : Nat) (x : α) : xs.toArray.setIfInBounds i x = (xs.set i x).toArray := List.setIfInBounds_toArray ..
theorem q19b {α : Type} (x y : α) (xs : List α) : (x :: xs).set 0 y = y :: xs := List.set_cons_zero ..
theorem q19c {α : Type} (x y : α) (xs : List α) (n : Nat) : (x :: xs).set (n + 1) y = x :: xs.set n y := List.set_cons_succ ..
theorem q19h {w w' : World} {p : Addr} {v : Value} (h : Below w.heap.size w w') (x : w.cell? p = some v) : w'.cell? p = some v := (h.cell (World.block_lt_of_cell? w _ x)).trans x
theorem q19p {P : Program} {md : Region.Mode} {ops : Array Oper} {Q : Exit → Act → World → Prop} {S : World → Prop} {ds : List Nat} {T : Bool × List (List Nat × List Nat)} {i : Nat} {N : Option Tmp} {oi : Oper} {v : Value} {fuel : Nat} {l : Array Bool} {a : Act} {w : World} (l' : Array Bool) (hT : rtab md ops = T) {a' : Act}
    (h : wpAnyLast P md ops Q S ds fuel l' a' w) (hi : ops[i]? = some oi := by rfl) (hN : oi.dst = N := by rfl) (hc : anyT T l.toList l'.toList i = true := by kernel_rfl) (hQ : ∀ c a w, Q (.panic c) (a.put oi.dst v) w → Q (.panic c) a w := by exact fun _ _ _ h => h)
    (hw : Region.wanted oi (yielded ops a.tmps) = true := by rfl) (hy : ∀ w', (execOp a.eval oi).run P w' = .ok (.value v) w' := by intro w'; go_simp; with_reducible rfl) (ha : a.put N v = a' := by simp only [Act.put, q19a, q19b, q19c, i64_w, i32_w]; rfl) :
    wpAnyLast P md ops Q S ds (fuel + 1) l a w := pure_ l' hi hN (any_of hT hc) hQ (Or.inl ⟨hw, hy⟩) ha h
theorem q19u {P : Program} {md : Region.Mode} {ops : Array Oper} {Q : Exit → Act → World → Prop} {S : World → Prop} {ds : List Nat} {T : Bool × List (List Nat × List Nat)} {i : Nat} {N : Option Tmp} {oi : Oper} {fuel : Nat} {l : Array Bool} {a : Act} {w : World} (l' : Array Bool) (hT : rtab md ops = T) {a' : Act}
    (h : wpAnyLast P md ops Q S ds fuel l' a' w) (hi : ops[i]? = some oi := by rfl) (hN : oi.dst = N := by rfl) (hc : anyT T l.toList l'.toList i = true := by kernel_rfl) (hQ : ∀ c a w, Q (.panic c) (a.put oi.dst undef) w → Q (.panic c) a w := by exact fun _ _ _ h => h)
    (hw : Region.wanted oi (yielded ops a.tmps) = false := by rfl) (ha : a.put N undef = a' := by simp only [Act.put, q19a, q19b, q19c, i64_w, i32_w]; rfl) :
    wpAnyLast P md ops Q S ds (fuel + 1) l a w := pure_ l' hi hN (any_of hT hc) hQ (Or.inr ⟨hw, rfl⟩) ha h
theorem q19k {w : World} {g : Nat} {cs : Array Value} {t : TypeId} (h : w.heap[g]? = some (.cells cs t (0, 0))) (i : Nat) {v : Value} (e : cs[i]? = some v := by rfl) : w.cell? ⟨g, i, none⟩ = some v := (blk_cell h i).trans e
theorem q19y0 {P : Prop} (h : P := by repeat (first | (with_reducible first | exact HB.out | apply below_alloc | apply pw_below_drewN | apply below_drew1 | refine below_set ?_ GE234.out | refine below_set ?_ GE235.out) | exact HB.out)) : P := h
theorem q19y1 {P : Prop} (h : P := by (with_reducible repeat (first | refine blk_drewN ?_ _ | refine blk_drew ?_ | refine blk_alloc ?_ _)); exact BK234.out) : P := h
theorem q19y2 {P : Prop} (h : P := by (with_reducible repeat (first | refine blk_drewN ?_ _ | refine blk_drew ?_ | refine blk_alloc ?_ _)); exact BK235.out) : P := h
theorem q19y3 {P : Prop} (h : P := by first | decide | exact of_decide_eq_true (by first | (with_reducible assumption) | assumption)) : P := h
theorem q19y4 {P : Prop} (h : P := by first | rfl | (simp; done) | (simp [*]; done)) : P := h
theorem q19y5 {P : Prop} (h : P := by (with_reducible repeat (first | apply Kd.V_alloc | apply Kd.V_drewN | apply Kd.V_drew)); exact HO245.out) : P := h
theorem q19y6 {P : Prop} (h : P := by (with_reducible repeat (first | apply Kd.V_alloc | apply Kd.V_drewN | apply Kd.V_drew)); exact HO238.out) : P := h
theorem q19y7 {P : Prop} (h : P := by repeat (first | (with_reducible first | exact HB.out | apply below_alloc | apply pw_below_drewN | apply below_drew1 | refine below_set ?_ GE234.out) | exact HB.out)) : P := h
theorem q19y8 {P : Prop} (h : P := by repeat (first | (with_reducible first | exact HB.out | apply below_alloc | apply pw_below_drewN | apply below_drew1) | exact HB.out)) : P := h

mutual
def cambiumref16_Compare.j0 : Nat → Bool → Int → ByteArray → Int → Bool → Int → ByteArray → Int → Bool → Option (Int × Bool)
 | 0, _, _, _, _, _, _, _, _, _ => none
 | k + 1, x22, x235000, x235001, x235002, x235003, x236000, x236001, x236002, x236003 => if x22 = true then (some (0, false)) else (if x235000 = 0 then (if (x235001.size : Int) ≤ 140737488355328 then (if (x236001.size : Int) ≤ 140737488355328 then ((cambiumref01_Less.f k (bytesOf x235001) (bytesOf x236001)).bind fun t242 => (if t242 = true then (cambiumref16_Compare.j1 k true x235000 x235001 x235002 x235003 x236000 x236001 x236002 x236003) else (if x235000 = 1 then (if x235002 < x236002 then (cambiumref16_Compare.j1 k true x235000 x235001 x235002 x235003 x236000 x236001 x236002 x236003) else (if x235000 = 2 then (if x235003 = true then (cambiumref16_Compare.j1 k false x235000 x235001 x235002 x235003 x236000 x236001 x236002 x236003) else (cambiumref16_Compare.j1 k x236003 x235000 x235001 x235002 x235003 x236000 x236001 x236002 x236003)) else (cambiumref16_Compare.j1 k false x235000 x235001 x235002 x235003 x236000 x236001 x236002 x236003))) else (if x235000 = 2 then (if x235003 = true then (cambiumref16_Compare.j1 k false x235000 x235001 x235002 x235003 x236000 x236001 x236002 x236003) else (cambiumref16_Compare.j1 k x236003 x235000 x235001 x235002 x235003 x236000 x236001 x236002 x236003)) else (cambiumref16_Compare.j1 k false x235000 x235001 x235002 x235003 x236000 x236001 x236002 x236003))))) else (none)) else (none)) else (if x235000 = 1 then (if x235002 < x236002 then (cambiumref16_Compare.j1 k true x235000 x235001 x235002 x235003 x236000 x236001 x236002 x236003) else (if x235000 = 2 then (if x235003 = true then (cambiumref16_Compare.j1 k false x235000 x235001 x235002 x235003 x236000 x236001 x236002 x236003) else (cambiumref16_Compare.j1 k x236003 x235000 x235001 x235002 x235003 x236000 x236001 x236002 x236003)) else (cambiumref16_Compare.j1 k false x235000 x235001 x235002 x235003 x236000 x236001 x236002 x236003))) else (if x235000 = 2 then (if x235003 = true then (cambiumref16_Compare.j1 k false x235000 x235001 x235002 x235003 x236000 x236001 x236002 x236003) else (cambiumref16_Compare.j1 k x236003 x235000 x235001 x235002 x235003 x236000 x236001 x236002 x236003)) else (cambiumref16_Compare.j1 k false x235000 x235001 x235002 x235003 x236000 x236001 x236002 x236003))))
def cambiumref16_Compare.j1 : Nat → Bool → Int → ByteArray → Int → Bool → Int → ByteArray → Int → Bool → Option (Int × Bool)
 | 0, _, _, _, _, _, _, _, _, _ => none
 | k + 1, x6, x235000, x235001, x235002, x235003, x236000, x236001, x236002, x236003 => if x235000 = 0 then (if (x236001.size : Int) ≤ 140737488355328 then (if (x235001.size : Int) ≤ 140737488355328 then ((cambiumref01_Less.f k (bytesOf x236001) (bytesOf x235001)).bind fun t249 => (if t249 = true then (cambiumref16_Compare.j2 k x6 true) else (if x235000 = 1 then (if x235002 > x236002 then (cambiumref16_Compare.j2 k x6 true) else (if x235000 = 2 then (if x235003 = true then (cambiumref16_Compare.j2 k x6 (!x236003)) else (cambiumref16_Compare.j2 k x6 false)) else (cambiumref16_Compare.j2 k x6 false))) else (if x235000 = 2 then (if x235003 = true then (cambiumref16_Compare.j2 k x6 (!x236003)) else (cambiumref16_Compare.j2 k x6 false)) else (cambiumref16_Compare.j2 k x6 false))))) else (none)) else (none)) else (if x235000 = 1 then (if x235002 > x236002 then (cambiumref16_Compare.j2 k x6 true) else (if x235000 = 2 then (if x235003 = true then (cambiumref16_Compare.j2 k x6 (!x236003)) else (cambiumref16_Compare.j2 k x6 false)) else (cambiumref16_Compare.j2 k x6 false))) else (if x235000 = 2 then (if x235003 = true then (cambiumref16_Compare.j2 k x6 (!x236003)) else (cambiumref16_Compare.j2 k x6 false)) else (cambiumref16_Compare.j2 k x6 false)))
def cambiumref16_Compare.j2 : Nat → Bool → Bool → Option (Int × Bool)
 | 0, _, _ => none
 | k + 1, x6, x7 => if x6 = true then (some ((-1), true)) else (if x7 = true then (some (1, true)) else (some (0, true)))
end
def cambiumref16_Compare.f (k : Nat) (a0_0 : Int) (a0_1 : ByteArray) (a0_2 : Int) (a0_3 : Bool) (a1_0 : Int) (a1_1 : ByteArray) (a1_2 : Int) (a1_3 : Bool) : Option (Int × Bool) := if a0_0 = a1_0 then (if a0_0 < 0 then (cambiumref16_Compare.j0 k true a0_0 a0_1 a0_2 a0_3 a1_0 a1_1 a1_2 a1_3) else (cambiumref16_Compare.j0 k (decide (a0_0 > 2)) a0_0 a0_1 a0_2 a0_3 a1_0 a1_1 a1_2 a1_3)) else (cambiumref16_Compare.j0 k true a0_0 a0_1 a0_2 a0_3 a1_0 a1_1 a1_2 a1_3)
theorem cambiumref16_Compare.mono_l : ∀ k, (∀ y0 y1 y2 y3 y4 y5 y6 y7 y8, LeO (cambiumref16_Compare.j0 k y0 y1 y2 y3 y4 y5 y6 y7 y8) (cambiumref16_Compare.j0 (k + 1) y0 y1 y2 y3 y4 y5 y6 y7 y8)) ∧ (∀ y0 y1 y2 y3 y4 y5 y6 y7 y8, LeO (cambiumref16_Compare.j1 k y0 y1 y2 y3 y4 y5 y6 y7 y8) (cambiumref16_Compare.j1 (k + 1) y0 y1 y2 y3 y4 y5 y6 y7 y8)) ∧ (∀ y0 y1, LeO (cambiumref16_Compare.j2 k y0 y1) (cambiumref16_Compare.j2 (k + 1) y0 y1))
 | 0 => ⟨fun _ _ _ _ _ _ _ _ _ r h => by simp [cambiumref16_Compare.j0] at h, fun _ _ _ _ _ _ _ _ _ r h => by simp [cambiumref16_Compare.j1] at h, fun _ _ r h => by simp [cambiumref16_Compare.j2] at h⟩
 | k + 1 => by
  obtain ⟨ih0, ih1, ih2⟩ := cambiumref16_Compare.mono_l k
  refine ⟨?_, ?_, ?_⟩
  ·intro y0 y1 y2 y3 y4 y5 y6 y7 y8
   unfold cambiumref16_Compare.j0
   repeat' first
   | (with_reducible exact ih0 _ _ _ _ _ _ _ _ _)
   | (with_reducible exact ih1 _ _ _ _ _ _ _ _ _)
   | (with_reducible exact ih2 _ _)
   | (with_reducible exact cambiumref01_Less.mono _ _ _)
   | (with_reducible exact LeO.refl _)
   | (with_reducible exact LeO.none _)
   | (with_reducible refine LeO.ite ?_ ?_)
   | (with_reducible refine LeO.bind ?_ (fun _ => ?_))
   | exact ih0 _ _ _ _ _ _ _ _ _
   | exact ih1 _ _ _ _ _ _ _ _ _
   | exact ih2 _ _
   | exact cambiumref01_Less.mono _ _ _
   | exact LeO.none _
   | refine LeO.ite ?_ ?_
   | refine LeO.bind ?_ (fun _ => ?_)
  ·intro y0 y1 y2 y3 y4 y5 y6 y7 y8
   unfold cambiumref16_Compare.j1
   repeat' first
   | (with_reducible exact ih0 _ _ _ _ _ _ _ _ _)
   | (with_reducible exact ih1 _ _ _ _ _ _ _ _ _)
   | (with_reducible exact ih2 _ _)
   | (with_reducible exact cambiumref01_Less.mono _ _ _)
   | (with_reducible exact LeO.refl _)
   | (with_reducible exact LeO.none _)
   | (with_reducible refine LeO.ite ?_ ?_)
   | (with_reducible refine LeO.bind ?_ (fun _ => ?_))
   | exact ih0 _ _ _ _ _ _ _ _ _
   | exact ih1 _ _ _ _ _ _ _ _ _
   | exact ih2 _ _
   | exact cambiumref01_Less.mono _ _ _
   | exact LeO.none _
   | refine LeO.ite ?_ ?_
   | refine LeO.bind ?_ (fun _ => ?_)
  ·intro y0 y1
   unfold cambiumref16_Compare.j2
   repeat' first
   | (with_reducible exact ih0 _ _ _ _ _ _ _ _ _)
   | (with_reducible exact ih1 _ _ _ _ _ _ _ _ _)
   | (with_reducible exact ih2 _ _)
   | (with_reducible exact cambiumref01_Less.mono _ _ _)
   | (with_reducible exact LeO.refl _)
   | (with_reducible exact LeO.none _)
   | (with_reducible refine LeO.ite ?_ ?_)
   | (with_reducible refine LeO.bind ?_ (fun _ => ?_))
   | exact ih0 _ _ _ _ _ _ _ _ _
   | exact ih1 _ _ _ _ _ _ _ _ _
   | exact ih2 _ _
   | exact cambiumref01_Less.mono _ _ _
   | exact LeO.none _
   | refine LeO.ite ?_ ?_
   | refine LeO.bind ?_ (fun _ => ?_)
theorem cambiumref16_Compare.mono : ∀ a0 a1 a2 a3 a4 a5 a6 a7 k, LeO (cambiumref16_Compare.f k a0 a1 a2 a3 a4 a5 a6 a7) (cambiumref16_Compare.f (k + 1) a0 a1 a2 a3 a4 a5 a6 a7) := by
 intro a0 a1 a2 a3 a4 a5 a6 a7 k
 obtain ⟨ih0, ih1, ih2⟩ := cambiumref16_Compare.mono_l k
 unfold cambiumref16_Compare.f
 repeat' first
   | (with_reducible exact ih0 _ _ _ _ _ _ _ _ _)
   | (with_reducible exact ih1 _ _ _ _ _ _ _ _ _)
   | (with_reducible exact ih2 _ _)
   | (with_reducible exact cambiumref01_Less.mono _ _ _)
   | (with_reducible exact LeO.refl _)
   | (with_reducible exact LeO.none _)
   | (with_reducible refine LeO.ite ?_ ?_)
   | (with_reducible refine LeO.bind ?_ (fun _ => ?_))
   | exact ih0 _ _ _ _ _ _ _ _ _
   | exact ih1 _ _ _ _ _ _ _ _ _
   | exact ih2 _ _
   | exact cambiumref01_Less.mono _ _ _
   | exact LeO.none _
   | refine LeO.ite ?_ ?_
   | refine LeO.bind ?_ (fun _ => ?_)
set_option maxHeartbeats 8000000 in
set_option maxRecDepth 100000 in
theorem cambiumref16_Compare.calls (k : Nat) (a0_0 : Int) (a0_1 : ByteArray) (a0_2 : Int) (a0_3 : Bool) (a1_0 : Int) (a1_1 : ByteArray) (a1_2 : Int) (a1_3 : Bool) (r1 : Int) (r2 : Bool) (w : World) (h : cambiumref16_Compare.f k a0_0 a0_1 a0_2 a0_3 a1_0 a1_1 a1_2 a1_3 = some (r1, r2)) :
  Calls Tryd.prog 10 #[.agg #[.int .i64 a0_0, .string a0_1, .int .i64 a0_2, .bool a0_3], .agg #[.int .i64 a1_0, .string a1_1, .int .i64 a1_2, .bool a1_3]] w fun e w' => e = .returned (.tuple #[.int .i64 r1, .bool r2]) ∧ Below w.heap.size w w' := by
 have hu23 := Tryd.underlying23
 have HB := Aside0.mk (Below.refl w.heap.size w)
 have H : (if a0_0 = a1_0 then (if a0_0 < 0 then (cambiumref16_Compare.j0 k true a0_0 a0_1 a0_2 a0_3 a1_0 a1_1 a1_2 a1_3) else (cambiumref16_Compare.j0 k (decide (a0_0 > 2)) a0_0 a0_1 a0_2 a0_3 a1_0 a1_1 a1_2 a1_3)) else (cambiumref16_Compare.j0 k true a0_0 a0_1 a0_2 a0_3 a1_0 a1_1 a1_2 a1_3)) = some (r1, r2) := h
 clear h
 have HC3 := Aside0.mk H
 clear H
 go_enter Tryd.func10, Tryd.ntmps10
 go_upto_region 1 with (first | ((with_reducible refine gate_dst (N := 2) rfl ?_); refine box_event ?hg (N := 2) ?hd (cs := #[.int .i64 a0_0, .string a0_1, .int .i64 a0_2, .bool a0_3]) (t := 23) ?hr ?_; (case hd => rfl); (case hg => rfl); (case hr => first | (go_simp; done) | (go_simp; rfl)); intro gb234 hg w4 hbox hb; have n0_ := Aside0.mk (below_step q19y8 hb); have n1_ := Aside0.mk (hbox); have n2_ := Aside0.mk ((by rw [hg]; exact (below_size q19y8) : w.heap.size ≤ gb234)); have n3_ := Aside0.mk ((by rw [hg]; exact (below_size q19y8) : w.heap.size ≤ gb234)); clear HB; have HB := n0_; have BK234 := n1_; have GW234 := n2_; have GE234 := n3_; clear n0_ n1_ n2_ n3_; clear hb hbox hg) | ((with_reducible refine gate_dst (N := 3) rfl ?_); refine box_event ?hg (N := 3) ?hd (cs := #[.int .i64 a1_0, .string a1_1, .int .i64 a1_2, .bool a1_3]) (t := 23) ?hr ?_; (case hd => rfl); (case hg => rfl); (case hr => first | (go_simp; done) | (go_simp; rfl)); intro gb235 hg w5 hbox hb; have n0_ := Aside0.mk (blk_below (g := gb234) (o := .cells #[.int .i64 a0_0, .string a0_1, .int .i64 a0_2, .bool a0_3] 23 (0, 0)) q19y1 hb); have n1_ := Aside0.mk (below_step q19y7 hb); have n2_ := Aside0.mk (hbox); have n3_ := Aside0.mk ((by rw [hg]; exact (below_size q19y7) : w.heap.size ≤ gb235)); have n4_ := Aside0.mk ((by rw [hg]; exact (below_size q19y7) : w.heap.size ≤ gb235)); have n5_ := Aside0.mk ((by rw [hg]; exact Nat.ne_of_lt (blk_lt (g := gb234) (o := .cells #[.int .i64 a0_0, .string a0_1, .int .i64 a0_2, .bool a0_3] 23 (0, 0)) q19y1) : gb234 ≠ gb235)); have n6_ := Aside0.mk ((by rw [hg]; exact Nat.ne_of_gt (blk_lt (g := gb234) (o := .cells #[.int .i64 a0_0, .string a0_1, .int .i64 a0_2, .bool a0_3] 23 (0, 0)) q19y1) : gb235 ≠ gb234)); clear BK234; clear HB; have BK234 := n0_; have HB := n1_; have BK235 := n2_; have GW235 := n3_; have GE235 := n4_; have NB234_235 := n5_; have NB235_234 := n6_; clear n0_ n1_ n2_ n3_ n4_ n5_ n6_; clear hb hbox hg))
 (try simp only [Act.put, q19a, q19b, q19c])
 go_cut [22] (fun v22 wc => ∃ (kq : Nat) (x22_2 : Bool), v22 = .bool x22_2 ∧ Aside0 (cambiumref16_Compare.j0 kq x22_2 a0_0 a0_1 a0_2 a0_3 a1_0 a1_1 a1_2 a1_3 = some (r1, r2)) ∧ Aside0 (kq ≤ k) ∧ Aside0 (wc.heap[gb234]? = some (.cells #[.int .i64 a0_0, .string a0_1, .int .i64 a0_2, .bool a0_3] 23 (0, 0))) ∧ Aside0 (wc.heap[gb235]? = some (.cells #[.int .i64 a1_0, .string a1_1, .int .i64 a1_2, .bool a1_3] 23 (0, 0))) ∧ Aside0 (Below w.heap.size w wc))
 case first =>
  have H := HC3.out
  clear HC3
  by_cases c6 : a0_0 = a1_0
  rotate_left
  ·rw [if_neg c6] at H
   have c6b0 : (a0_0 == a1_0) = false := beq_eq_false_iff_ne.mpr c6
   have c6b1 : (a0_0 != a1_0) = true := bne_iff_ne.mpr c6
   (first | rw [c6b0] | (simp only [i64_w, i32_w]; rw [c6b0]) | skip)
   have H' := Aside0.mk H
   clear H
   have hnb14 := NB234_235.out
   have hnc14 := NB235_234.out
   have hcz15_0 : w5.cell? ⟨gb234, 0, none⟩ = some (.int .i64 a0_0) := (blk_cell BK234.out 0).trans rfl
   have hcz15_1 : w5.cell? ⟨gb234, 1, none⟩ = some (.string a0_1) := (blk_cell BK234.out 1).trans rfl
   have hcz15_2 : w5.cell? ⟨gb234, 2, none⟩ = some (.int .i64 a0_2) := (blk_cell BK234.out 2).trans rfl
   have hcz15_3 : w5.cell? ⟨gb234, 3, none⟩ = some (.bool a0_3) := (blk_cell BK234.out 3).trans rfl
   have hfz15_0 := blk_frozen BK234.out 0
   have hfz15_1 := blk_frozen BK234.out 1
   have hfz15_2 := blk_frozen BK234.out 2
   have hfz15_3 := blk_frozen BK234.out 3
   have hcz16_0 : w5.cell? ⟨gb235, 0, none⟩ = some (.int .i64 a1_0) := (blk_cell BK235.out 0).trans rfl
   have hcz16_1 : w5.cell? ⟨gb235, 1, none⟩ = some (.string a1_1) := (blk_cell BK235.out 1).trans rfl
   have hcz16_2 : w5.cell? ⟨gb235, 2, none⟩ = some (.int .i64 a1_2) := (blk_cell BK235.out 2).trans rfl
   have hcz16_3 : w5.cell? ⟨gb235, 3, none⟩ = some (.bool a1_3) := (blk_cell BK235.out 3).trans rfl
   have hfz16_0 := blk_frozen BK235.out 0
   have hfz16_1 := blk_frozen BK235.out 1
   have hfz16_2 := blk_frozen BK235.out 2
   have hfz16_3 := blk_frozen BK235.out 3
   go_wp2
   go_meet
   case rel => exact ⟨_, (true), q19y4, H', ⟨by first | omega | exact Nat.le_refl _⟩, ⟨by (with_reducible repeat (first | refine blk_drewN ?_ _ | refine blk_drew ?_ | refine blk_alloc ?_ _)); exact BK234.out⟩, ⟨by (with_reducible repeat (first | refine blk_drewN ?_ _ | refine blk_drew ?_ | refine blk_alloc ?_ _)); exact BK235.out⟩, ⟨by repeat (first | (with_reducible first | exact HB.out | apply below_alloc | apply pw_below_drewN | apply below_drew1 | refine below_set ?_ GE234.out | refine below_set ?_ GE235.out) | exact HB.out)⟩⟩
  rw [if_pos c6] at H
  have c6b0 : (a0_0 == a1_0) = true := beq_iff_eq.mpr c6
  have c6b1 : (a0_0 != a1_0) = false := bne_eq_false_iff_eq.mpr c6
  clear c6
  (first | rw [c6b0] | (simp only [i64_w, i32_w]; rw [c6b0]) | skip)
  by_cases c7 : a0_0 < 0
  ·rw [if_pos c7] at H
   have c7b0 : decide (a0_0 < 0) = true := decide_eq_true c7
   clear c7
   have H' := Aside0.mk H
   clear H
   have hnb8 := NB234_235.out
   have hnc8 := NB235_234.out
   have hcz9_0 : w5.cell? ⟨gb234, 0, none⟩ = some (.int .i64 a0_0) := (blk_cell BK234.out 0).trans rfl
   have hcz9_1 : w5.cell? ⟨gb234, 1, none⟩ = some (.string a0_1) := (blk_cell BK234.out 1).trans rfl
   have hcz9_2 : w5.cell? ⟨gb234, 2, none⟩ = some (.int .i64 a0_2) := (blk_cell BK234.out 2).trans rfl
   have hcz9_3 : w5.cell? ⟨gb234, 3, none⟩ = some (.bool a0_3) := (blk_cell BK234.out 3).trans rfl
   have hfz9_0 := blk_frozen BK234.out 0
   have hfz9_1 := blk_frozen BK234.out 1
   have hfz9_2 := blk_frozen BK234.out 2
   have hfz9_3 := blk_frozen BK234.out 3
   have hcz10_0 : w5.cell? ⟨gb235, 0, none⟩ = some (.int .i64 a1_0) := (blk_cell BK235.out 0).trans rfl
   have hcz10_1 : w5.cell? ⟨gb235, 1, none⟩ = some (.string a1_1) := (blk_cell BK235.out 1).trans rfl
   have hcz10_2 : w5.cell? ⟨gb235, 2, none⟩ = some (.int .i64 a1_2) := (blk_cell BK235.out 2).trans rfl
   have hcz10_3 : w5.cell? ⟨gb235, 3, none⟩ = some (.bool a1_3) := (blk_cell BK235.out 3).trans rfl
   have hfz10_0 := blk_frozen BK235.out 0
   have hfz10_1 := blk_frozen BK235.out 1
   have hfz10_2 := blk_frozen BK235.out 2
   have hfz10_3 := blk_frozen BK235.out 3
   go_wp2
   go_meet
   case rel => exact ⟨_, (true), q19y4, H', ⟨by first | omega | exact Nat.le_refl _⟩, ⟨by (with_reducible repeat (first | refine blk_drewN ?_ _ | refine blk_drew ?_ | refine blk_alloc ?_ _)); exact BK234.out⟩, ⟨by (with_reducible repeat (first | refine blk_drewN ?_ _ | refine blk_drew ?_ | refine blk_alloc ?_ _)); exact BK235.out⟩, ⟨by repeat (first | (with_reducible first | exact HB.out | apply below_alloc | apply pw_below_drewN | apply below_drew1 | refine below_set ?_ GE234.out | refine below_set ?_ GE235.out) | exact HB.out)⟩⟩
  rw [if_neg c7] at H
  have c7b0 : decide (a0_0 < 0) = false := decide_eq_false c7
  clear c7
  have H' := Aside0.mk H
  clear H
  have hnb11 := NB234_235.out
  have hnc11 := NB235_234.out
  have hcz12_0 : w5.cell? ⟨gb234, 0, none⟩ = some (.int .i64 a0_0) := (blk_cell BK234.out 0).trans rfl
  have hcz12_1 : w5.cell? ⟨gb234, 1, none⟩ = some (.string a0_1) := (blk_cell BK234.out 1).trans rfl
  have hcz12_2 : w5.cell? ⟨gb234, 2, none⟩ = some (.int .i64 a0_2) := (blk_cell BK234.out 2).trans rfl
  have hcz12_3 : w5.cell? ⟨gb234, 3, none⟩ = some (.bool a0_3) := (blk_cell BK234.out 3).trans rfl
  have hfz12_0 := blk_frozen BK234.out 0
  have hfz12_1 := blk_frozen BK234.out 1
  have hfz12_2 := blk_frozen BK234.out 2
  have hfz12_3 := blk_frozen BK234.out 3
  have hcz13_0 : w5.cell? ⟨gb235, 0, none⟩ = some (.int .i64 a1_0) := (blk_cell BK235.out 0).trans rfl
  have hcz13_1 : w5.cell? ⟨gb235, 1, none⟩ = some (.string a1_1) := (blk_cell BK235.out 1).trans rfl
  have hcz13_2 : w5.cell? ⟨gb235, 2, none⟩ = some (.int .i64 a1_2) := (blk_cell BK235.out 2).trans rfl
  have hcz13_3 : w5.cell? ⟨gb235, 3, none⟩ = some (.bool a1_3) := (blk_cell BK235.out 3).trans rfl
  have hfz13_0 := blk_frozen BK235.out 0
  have hfz13_1 := blk_frozen BK235.out 1
  have hfz13_2 := blk_frozen BK235.out 2
  have hfz13_3 := blk_frozen BK235.out 3
  go_wp2
  go_meet
  case rel => exact ⟨_, (decide (a0_0 > 2)), q19y4, H', ⟨by first | omega | exact Nat.le_refl _⟩, ⟨by (with_reducible repeat (first | refine blk_drewN ?_ _ | refine blk_drew ?_ | refine blk_alloc ?_ _)); exact BK234.out⟩, ⟨by (with_reducible repeat (first | refine blk_drewN ?_ _ | refine blk_drew ?_ | refine blk_alloc ?_ _)); exact BK235.out⟩, ⟨by repeat (first | (with_reducible first | exact HB.out | apply below_alloc | apply pw_below_drewN | apply below_drew1 | refine below_set ?_ GE234.out | refine below_set ?_ GE235.out) | exact HB.out)⟩⟩
 case rest =>
  clear HC3
  try clear c1
  try clear p2
  try clear c6
  try clear c6b0
  try clear c6b1
  try clear c7
  try clear c7b0
  try clear c8
  try clear c10
  try clear c11
  try clear c14
  try clear hcz10_0 hcz10_1 hcz10_2 hcz10_3
  try clear hcz12_0 hcz12_1 hcz12_2 hcz12_3
  try clear hcz13_0 hcz13_1 hcz13_2 hcz13_3
  try clear hcz15_0 hcz15_1 hcz15_2 hcz15_3
  try clear hcz16_0 hcz16_1 hcz16_2 hcz16_3
  try clear hcz9_0 hcz9_1 hcz9_2 hcz9_3
  try clear hfz10_0 hfz10_1 hfz10_2 hfz10_3
  try clear hfz12_0 hfz12_1 hfz12_2 hfz12_3
  try clear hfz13_0 hfz13_1 hfz13_2 hfz13_3
  try clear hfz15_0 hfz15_1 hfz15_2 hfz15_3
  try clear hfz16_0 hfz16_1 hfz16_2 hfz16_3
  try clear hfz9_0 hfz9_1 hfz9_2 hfz9_3
  obtain ⟨kq, x22_2, rfl, HA, HJ2, BK234, BK235, HB⟩ := hcut
  cases kq with
  | zero => exact absurd HA.out (by simp [cambiumref16_Compare.j0])
  | succ kj2 =>
   have H := HA.out
   clear HA
   simp only [cambiumref16_Compare.j0] at H
   by_cases c17 : x22_2 = true
   ·subst c17
    have H1 : (some (0, false)) = some (r1, r2) := by rw [if_pos rfl] at H; exact H
    clear H
    have H := H1
    clear H1
    simp only [Option.some.injEq, Prod.mk.injEq] at H
    obtain ⟨rfl, rfl⟩ := H
    go_wp2
    go_ret2
    exact ⟨by first | rfl | (simp [errW_none, errW_some] <;> rfl) | (simp [*, errW_none, errW_some] <;> rfl), by repeat (first | (with_reducible first | exact HB.out | apply below_alloc | apply pw_below_drewN | apply below_drew1 | refine below_set ?_ GE234.out | refine below_set ?_ GE235.out) | exact HB.out)⟩
   replace c17 := Bool.eq_false_iff.mpr c17
   subst c17
   have H1 : (if a0_0 = 0 then (if (a0_1.size : Int) ≤ 140737488355328 then (if (a1_1.size : Int) ≤ 140737488355328 then ((cambiumref01_Less.f kj2 (bytesOf a0_1) (bytesOf a1_1)).bind fun t242 => (if t242 = true then (cambiumref16_Compare.j1 kj2 true a0_0 a0_1 a0_2 a0_3 a1_0 a1_1 a1_2 a1_3) else (if a0_0 = 1 then (if a0_2 < a1_2 then (cambiumref16_Compare.j1 kj2 true a0_0 a0_1 a0_2 a0_3 a1_0 a1_1 a1_2 a1_3) else (if a0_0 = 2 then (if a0_3 = true then (cambiumref16_Compare.j1 kj2 false a0_0 a0_1 a0_2 a0_3 a1_0 a1_1 a1_2 a1_3) else (cambiumref16_Compare.j1 kj2 a1_3 a0_0 a0_1 a0_2 a0_3 a1_0 a1_1 a1_2 a1_3)) else (cambiumref16_Compare.j1 kj2 false a0_0 a0_1 a0_2 a0_3 a1_0 a1_1 a1_2 a1_3))) else (if a0_0 = 2 then (if a0_3 = true then (cambiumref16_Compare.j1 kj2 false a0_0 a0_1 a0_2 a0_3 a1_0 a1_1 a1_2 a1_3) else (cambiumref16_Compare.j1 kj2 a1_3 a0_0 a0_1 a0_2 a0_3 a1_0 a1_1 a1_2 a1_3)) else (cambiumref16_Compare.j1 kj2 false a0_0 a0_1 a0_2 a0_3 a1_0 a1_1 a1_2 a1_3))))) else (none)) else (none)) else (if a0_0 = 1 then (if a0_2 < a1_2 then (cambiumref16_Compare.j1 kj2 true a0_0 a0_1 a0_2 a0_3 a1_0 a1_1 a1_2 a1_3) else (if a0_0 = 2 then (if a0_3 = true then (cambiumref16_Compare.j1 kj2 false a0_0 a0_1 a0_2 a0_3 a1_0 a1_1 a1_2 a1_3) else (cambiumref16_Compare.j1 kj2 a1_3 a0_0 a0_1 a0_2 a0_3 a1_0 a1_1 a1_2 a1_3)) else (cambiumref16_Compare.j1 kj2 false a0_0 a0_1 a0_2 a0_3 a1_0 a1_1 a1_2 a1_3))) else (if a0_0 = 2 then (if a0_3 = true then (cambiumref16_Compare.j1 kj2 false a0_0 a0_1 a0_2 a0_3 a1_0 a1_1 a1_2 a1_3) else (cambiumref16_Compare.j1 kj2 a1_3 a0_0 a0_1 a0_2 a0_3 a1_0 a1_1 a1_2 a1_3)) else (cambiumref16_Compare.j1 kj2 false a0_0 a0_1 a0_2 a0_3 a1_0 a1_1 a1_2 a1_3)))) = some (r1, r2) := by rw [if_neg (show ¬ (false = true) by decide)] at H; exact H
   clear H
   have H := H1
   clear H1
   have HC18 := Aside0.mk H
   clear H
   go_upto_region 3 with (fail)
   go_cut [6] (fun v6 wc => ∃ (kq : Nat) (x6_17 : Bool), v6 = .bool x6_17 ∧ Aside0 (cambiumref16_Compare.j1 kq x6_17 a0_0 a0_1 a0_2 a0_3 a1_0 a1_1 a1_2 a1_3 = some (r1, r2)) ∧ Aside0 (kq ≤ kj2) ∧ Aside0 (wc.heap[gb234]? = some (.cells #[.int .i64 a0_0, .string a0_1, .int .i64 a0_2, .bool a0_3] 23 (0, 0))) ∧ Aside0 (wc.heap[gb235]? = some (.cells #[.int .i64 a1_0, .string a1_1, .int .i64 a1_2, .bool a1_3] 23 (0, 0))) ∧ Aside0 (Below w.heap.size w wc))
   case first =>
    have H := HC18.out
    clear HC18
    by_cases c19 : a0_0 = 0
    rotate_left
    ·rw [if_neg c19] at H
     have c19b0 : (a0_0 == 0) = false := beq_eq_false_iff_ne.mpr c19
     have c19b1 : (a0_0 != 0) = true := bne_iff_ne.mpr c19
     (first | rw [c19b0] | (simp only [i64_w, i32_w]; rw [c19b0]) | skip)
     by_cases c114 : a0_0 = 1
     rotate_left
     ·rw [if_neg c114] at H
      have c114b0 : (a0_0 == 1) = false := beq_eq_false_iff_ne.mpr c114
      have c114b1 : (a0_0 != 1) = true := bne_iff_ne.mpr c114
      by_cases c130 : a0_0 = 2
      rotate_left
      ·rw [if_neg c130] at H
       have c130b0 : (a0_0 == 2) = false := beq_eq_false_iff_ne.mpr c130
       have c130b1 : (a0_0 != 2) = true := bne_iff_ne.mpr c130
       have H' := Aside0.mk H
       clear H
       have hnb137 := NB234_235.out
       have hnc137 := NB235_234.out
       have hcz138_0 : wc.cell? ⟨gb234, 0, none⟩ = some (.int .i64 a0_0) := (blk_cell BK234.out 0).trans rfl
       have hcz138_1 : wc.cell? ⟨gb234, 1, none⟩ = some (.string a0_1) := (blk_cell BK234.out 1).trans rfl
       have hcz138_2 : wc.cell? ⟨gb234, 2, none⟩ = some (.int .i64 a0_2) := (blk_cell BK234.out 2).trans rfl
       have hcz138_3 : wc.cell? ⟨gb234, 3, none⟩ = some (.bool a0_3) := (blk_cell BK234.out 3).trans rfl
       have hfz138_0 := blk_frozen BK234.out 0
       have hfz138_1 := blk_frozen BK234.out 1
       have hfz138_2 := blk_frozen BK234.out 2
       have hfz138_3 := blk_frozen BK234.out 3
       go_wp2
       go_meet
       case rel => exact ⟨_, (false), q19y4, H', ⟨by have := HJ2.out; first | omega | exact Nat.le_refl _⟩, ⟨by (with_reducible repeat (first | refine blk_drewN ?_ _ | refine blk_drew ?_ | refine blk_alloc ?_ _)); exact BK234.out⟩, ⟨by (with_reducible repeat (first | refine blk_drewN ?_ _ | refine blk_drew ?_ | refine blk_alloc ?_ _)); exact BK235.out⟩, ⟨by repeat (first | (with_reducible first | exact HB.out | apply below_alloc | apply pw_below_drewN | apply below_drew1 | refine below_set ?_ GE234.out | refine below_set ?_ GE235.out) | exact HB.out)⟩⟩
      rw [if_pos c130] at H
      have c130b0 : (a0_0 == 2) = true := beq_iff_eq.mpr c130
      have c130b1 : (a0_0 != 2) = false := bne_eq_false_iff_eq.mpr c130
      clear c130
      by_cases c131 : a0_3 = true
      ·subst c131
       have H1 : (cambiumref16_Compare.j1 kj2 false a0_0 a0_1 a0_2 true a1_0 a1_1 a1_2 a1_3) = some (r1, r2) := by rw [if_pos rfl] at H; exact H
       clear H
       have H := H1
       clear H1
       have H' := Aside0.mk H
       clear H
       have hnb132 := NB234_235.out
       have hnc132 := NB235_234.out
       have hcz133_0 : wc.cell? ⟨gb234, 0, none⟩ = some (.int .i64 a0_0) := (blk_cell BK234.out 0).trans rfl
       have hcz133_1 : wc.cell? ⟨gb234, 1, none⟩ = some (.string a0_1) := (blk_cell BK234.out 1).trans rfl
       have hcz133_2 : wc.cell? ⟨gb234, 2, none⟩ = some (.int .i64 a0_2) := (blk_cell BK234.out 2).trans rfl
       have hcz133_3 : wc.cell? ⟨gb234, 3, none⟩ = some (.bool true) := (blk_cell BK234.out 3).trans rfl
       have hfz133_0 := blk_frozen BK234.out 0
       have hfz133_1 := blk_frozen BK234.out 1
       have hfz133_2 := blk_frozen BK234.out 2
       have hfz133_3 := blk_frozen BK234.out 3
       go_wp2
       go_meet
       case rel => exact ⟨_, (false), q19y4, H', ⟨by have := HJ2.out; first | omega | exact Nat.le_refl _⟩, ⟨by (with_reducible repeat (first | refine blk_drewN ?_ _ | refine blk_drew ?_ | refine blk_alloc ?_ _)); exact BK234.out⟩, ⟨by (with_reducible repeat (first | refine blk_drewN ?_ _ | refine blk_drew ?_ | refine blk_alloc ?_ _)); exact BK235.out⟩, ⟨by repeat (first | (with_reducible first | exact HB.out | apply below_alloc | apply pw_below_drewN | apply below_drew1 | refine below_set ?_ GE234.out | refine below_set ?_ GE235.out) | exact HB.out)⟩⟩
      replace c131 := Bool.eq_false_iff.mpr c131
      subst c131
      have H1 : (cambiumref16_Compare.j1 kj2 a1_3 a0_0 a0_1 a0_2 false a1_0 a1_1 a1_2 a1_3) = some (r1, r2) := by rw [if_neg (show ¬ (false = true) by decide)] at H; exact H
      clear H
      have H := H1
      clear H1
      have H' := Aside0.mk H
      clear H
      have hnb134 := NB234_235.out
      have hnc134 := NB235_234.out
      have hcz135_0 : wc.cell? ⟨gb234, 0, none⟩ = some (.int .i64 a0_0) := (blk_cell BK234.out 0).trans rfl
      have hcz135_1 : wc.cell? ⟨gb234, 1, none⟩ = some (.string a0_1) := (blk_cell BK234.out 1).trans rfl
      have hcz135_2 : wc.cell? ⟨gb234, 2, none⟩ = some (.int .i64 a0_2) := (blk_cell BK234.out 2).trans rfl
      have hcz135_3 : wc.cell? ⟨gb234, 3, none⟩ = some (.bool false) := (blk_cell BK234.out 3).trans rfl
      have hfz135_0 := blk_frozen BK234.out 0
      have hfz135_1 := blk_frozen BK234.out 1
      have hfz135_2 := blk_frozen BK234.out 2
      have hfz135_3 := blk_frozen BK234.out 3
      have hcz136_0 : wc.cell? ⟨gb235, 0, none⟩ = some (.int .i64 a1_0) := (blk_cell BK235.out 0).trans rfl
      have hcz136_1 : wc.cell? ⟨gb235, 1, none⟩ = some (.string a1_1) := (blk_cell BK235.out 1).trans rfl
      have hcz136_2 : wc.cell? ⟨gb235, 2, none⟩ = some (.int .i64 a1_2) := (blk_cell BK235.out 2).trans rfl
      have hcz136_3 : wc.cell? ⟨gb235, 3, none⟩ = some (.bool a1_3) := (blk_cell BK235.out 3).trans rfl
      have hfz136_0 := blk_frozen BK235.out 0
      have hfz136_1 := blk_frozen BK235.out 1
      have hfz136_2 := blk_frozen BK235.out 2
      have hfz136_3 := blk_frozen BK235.out 3
      go_wp2
      go_meet
      case rel => exact ⟨_, (a1_3), q19y4, H', ⟨by have := HJ2.out; first | omega | exact Nat.le_refl _⟩, ⟨by (with_reducible repeat (first | refine blk_drewN ?_ _ | refine blk_drew ?_ | refine blk_alloc ?_ _)); exact BK234.out⟩, ⟨by (with_reducible repeat (first | refine blk_drewN ?_ _ | refine blk_drew ?_ | refine blk_alloc ?_ _)); exact BK235.out⟩, ⟨by repeat (first | (with_reducible first | exact HB.out | apply below_alloc | apply pw_below_drewN | apply below_drew1 | refine below_set ?_ GE234.out | refine below_set ?_ GE235.out) | exact HB.out)⟩⟩
     rw [if_pos c114] at H
     have c114b0 : (a0_0 == 1) = true := beq_iff_eq.mpr c114
     have c114b1 : (a0_0 != 1) = false := bne_eq_false_iff_eq.mpr c114
     clear c114
     by_cases c115 : a0_2 < a1_2
     ·rw [if_pos c115] at H
      have c115b0 : decide (a0_2 < a1_2) = true := decide_eq_true c115
      clear c115
      have H' := Aside0.mk H
      clear H
      have hnb116 := NB234_235.out
      have hnc116 := NB235_234.out
      have hcz117_0 : wc.cell? ⟨gb234, 0, none⟩ = some (.int .i64 a0_0) := (blk_cell BK234.out 0).trans rfl
      have hcz117_1 : wc.cell? ⟨gb234, 1, none⟩ = some (.string a0_1) := (blk_cell BK234.out 1).trans rfl
      have hcz117_2 : wc.cell? ⟨gb234, 2, none⟩ = some (.int .i64 a0_2) := (blk_cell BK234.out 2).trans rfl
      have hcz117_3 : wc.cell? ⟨gb234, 3, none⟩ = some (.bool a0_3) := (blk_cell BK234.out 3).trans rfl
      have hfz117_0 := blk_frozen BK234.out 0
      have hfz117_1 := blk_frozen BK234.out 1
      have hfz117_2 := blk_frozen BK234.out 2
      have hfz117_3 := blk_frozen BK234.out 3
      have hcz118_0 : wc.cell? ⟨gb235, 0, none⟩ = some (.int .i64 a1_0) := (blk_cell BK235.out 0).trans rfl
      have hcz118_1 : wc.cell? ⟨gb235, 1, none⟩ = some (.string a1_1) := (blk_cell BK235.out 1).trans rfl
      have hcz118_2 : wc.cell? ⟨gb235, 2, none⟩ = some (.int .i64 a1_2) := (blk_cell BK235.out 2).trans rfl
      have hcz118_3 : wc.cell? ⟨gb235, 3, none⟩ = some (.bool a1_3) := (blk_cell BK235.out 3).trans rfl
      have hfz118_0 := blk_frozen BK235.out 0
      have hfz118_1 := blk_frozen BK235.out 1
      have hfz118_2 := blk_frozen BK235.out 2
      have hfz118_3 := blk_frozen BK235.out 3
      go_wp2
      go_meet
      case rel => exact ⟨_, (true), q19y4, H', ⟨by have := HJ2.out; first | omega | exact Nat.le_refl _⟩, ⟨by (with_reducible repeat (first | refine blk_drewN ?_ _ | refine blk_drew ?_ | refine blk_alloc ?_ _)); exact BK234.out⟩, ⟨by (with_reducible repeat (first | refine blk_drewN ?_ _ | refine blk_drew ?_ | refine blk_alloc ?_ _)); exact BK235.out⟩, ⟨by repeat (first | (with_reducible first | exact HB.out | apply below_alloc | apply pw_below_drewN | apply below_drew1 | refine below_set ?_ GE234.out | refine below_set ?_ GE235.out) | exact HB.out)⟩⟩
     rw [if_neg c115] at H
     have c115b0 : decide (a0_2 < a1_2) = false := decide_eq_false c115
     clear c115
     by_cases c119 : a0_0 = 2
     rotate_left
     ·rw [if_neg c119] at H
      have c119b0 : (a0_0 == 2) = false := beq_eq_false_iff_ne.mpr c119
      have c119b1 : (a0_0 != 2) = true := bne_iff_ne.mpr c119
      have H' := Aside0.mk H
      clear H
      have hnb127 := NB234_235.out
      have hnc127 := NB235_234.out
      have hcz128_0 : wc.cell? ⟨gb234, 0, none⟩ = some (.int .i64 a0_0) := (blk_cell BK234.out 0).trans rfl
      have hcz128_1 : wc.cell? ⟨gb234, 1, none⟩ = some (.string a0_1) := (blk_cell BK234.out 1).trans rfl
      have hcz128_2 : wc.cell? ⟨gb234, 2, none⟩ = some (.int .i64 a0_2) := (blk_cell BK234.out 2).trans rfl
      have hcz128_3 : wc.cell? ⟨gb234, 3, none⟩ = some (.bool a0_3) := (blk_cell BK234.out 3).trans rfl
      have hfz128_0 := blk_frozen BK234.out 0
      have hfz128_1 := blk_frozen BK234.out 1
      have hfz128_2 := blk_frozen BK234.out 2
      have hfz128_3 := blk_frozen BK234.out 3
      have hcz129_0 : wc.cell? ⟨gb235, 0, none⟩ = some (.int .i64 a1_0) := (blk_cell BK235.out 0).trans rfl
      have hcz129_1 : wc.cell? ⟨gb235, 1, none⟩ = some (.string a1_1) := (blk_cell BK235.out 1).trans rfl
      have hcz129_2 : wc.cell? ⟨gb235, 2, none⟩ = some (.int .i64 a1_2) := (blk_cell BK235.out 2).trans rfl
      have hcz129_3 : wc.cell? ⟨gb235, 3, none⟩ = some (.bool a1_3) := (blk_cell BK235.out 3).trans rfl
      have hfz129_0 := blk_frozen BK235.out 0
      have hfz129_1 := blk_frozen BK235.out 1
      have hfz129_2 := blk_frozen BK235.out 2
      have hfz129_3 := blk_frozen BK235.out 3
      go_wp2
      go_meet
      case rel => exact ⟨_, (false), q19y4, H', ⟨by have := HJ2.out; first | omega | exact Nat.le_refl _⟩, ⟨by (with_reducible repeat (first | refine blk_drewN ?_ _ | refine blk_drew ?_ | refine blk_alloc ?_ _)); exact BK234.out⟩, ⟨by (with_reducible repeat (first | refine blk_drewN ?_ _ | refine blk_drew ?_ | refine blk_alloc ?_ _)); exact BK235.out⟩, ⟨by repeat (first | (with_reducible first | exact HB.out | apply below_alloc | apply pw_below_drewN | apply below_drew1 | refine below_set ?_ GE234.out | refine below_set ?_ GE235.out) | exact HB.out)⟩⟩
     rw [if_pos c119] at H
     have c119b0 : (a0_0 == 2) = true := beq_iff_eq.mpr c119
     have c119b1 : (a0_0 != 2) = false := bne_eq_false_iff_eq.mpr c119
     clear c119
     by_cases c120 : a0_3 = true
     ·subst c120
      have H1 : (cambiumref16_Compare.j1 kj2 false a0_0 a0_1 a0_2 true a1_0 a1_1 a1_2 a1_3) = some (r1, r2) := by rw [if_pos rfl] at H; exact H
      clear H
      have H := H1
      clear H1
      have H' := Aside0.mk H
      clear H
      have hnb121 := NB234_235.out
      have hnc121 := NB235_234.out
      have hcz122_0 : wc.cell? ⟨gb234, 0, none⟩ = some (.int .i64 a0_0) := (blk_cell BK234.out 0).trans rfl
      have hcz122_1 : wc.cell? ⟨gb234, 1, none⟩ = some (.string a0_1) := (blk_cell BK234.out 1).trans rfl
      have hcz122_2 : wc.cell? ⟨gb234, 2, none⟩ = some (.int .i64 a0_2) := (blk_cell BK234.out 2).trans rfl
      have hcz122_3 : wc.cell? ⟨gb234, 3, none⟩ = some (.bool true) := (blk_cell BK234.out 3).trans rfl
      have hfz122_0 := blk_frozen BK234.out 0
      have hfz122_1 := blk_frozen BK234.out 1
      have hfz122_2 := blk_frozen BK234.out 2
      have hfz122_3 := blk_frozen BK234.out 3
      have hcz123_0 : wc.cell? ⟨gb235, 0, none⟩ = some (.int .i64 a1_0) := (blk_cell BK235.out 0).trans rfl
      have hcz123_1 : wc.cell? ⟨gb235, 1, none⟩ = some (.string a1_1) := (blk_cell BK235.out 1).trans rfl
      have hcz123_2 : wc.cell? ⟨gb235, 2, none⟩ = some (.int .i64 a1_2) := (blk_cell BK235.out 2).trans rfl
      have hcz123_3 : wc.cell? ⟨gb235, 3, none⟩ = some (.bool a1_3) := (blk_cell BK235.out 3).trans rfl
      have hfz123_0 := blk_frozen BK235.out 0
      have hfz123_1 := blk_frozen BK235.out 1
      have hfz123_2 := blk_frozen BK235.out 2
      have hfz123_3 := blk_frozen BK235.out 3
      go_wp2
      go_meet
      case rel => exact ⟨_, (false), q19y4, H', ⟨by have := HJ2.out; first | omega | exact Nat.le_refl _⟩, ⟨by (with_reducible repeat (first | refine blk_drewN ?_ _ | refine blk_drew ?_ | refine blk_alloc ?_ _)); exact BK234.out⟩, ⟨by (with_reducible repeat (first | refine blk_drewN ?_ _ | refine blk_drew ?_ | refine blk_alloc ?_ _)); exact BK235.out⟩, ⟨by repeat (first | (with_reducible first | exact HB.out | apply below_alloc | apply pw_below_drewN | apply below_drew1 | refine below_set ?_ GE234.out | refine below_set ?_ GE235.out) | exact HB.out)⟩⟩
     replace c120 := Bool.eq_false_iff.mpr c120
     subst c120
     have H1 : (cambiumref16_Compare.j1 kj2 a1_3 a0_0 a0_1 a0_2 false a1_0 a1_1 a1_2 a1_3) = some (r1, r2) := by rw [if_neg (show ¬ (false = true) by decide)] at H; exact H
     clear H
     have H := H1
     clear H1
     have H' := Aside0.mk H
     clear H
     have hnb124 := NB234_235.out
     have hnc124 := NB235_234.out
     have hcz125_0 : wc.cell? ⟨gb234, 0, none⟩ = some (.int .i64 a0_0) := (blk_cell BK234.out 0).trans rfl
     have hcz125_1 : wc.cell? ⟨gb234, 1, none⟩ = some (.string a0_1) := (blk_cell BK234.out 1).trans rfl
     have hcz125_2 : wc.cell? ⟨gb234, 2, none⟩ = some (.int .i64 a0_2) := (blk_cell BK234.out 2).trans rfl
     have hcz125_3 : wc.cell? ⟨gb234, 3, none⟩ = some (.bool false) := (blk_cell BK234.out 3).trans rfl
     have hfz125_0 := blk_frozen BK234.out 0
     have hfz125_1 := blk_frozen BK234.out 1
     have hfz125_2 := blk_frozen BK234.out 2
     have hfz125_3 := blk_frozen BK234.out 3
     have hcz126_0 : wc.cell? ⟨gb235, 0, none⟩ = some (.int .i64 a1_0) := (blk_cell BK235.out 0).trans rfl
     have hcz126_1 : wc.cell? ⟨gb235, 1, none⟩ = some (.string a1_1) := (blk_cell BK235.out 1).trans rfl
     have hcz126_2 : wc.cell? ⟨gb235, 2, none⟩ = some (.int .i64 a1_2) := (blk_cell BK235.out 2).trans rfl
     have hcz126_3 : wc.cell? ⟨gb235, 3, none⟩ = some (.bool a1_3) := (blk_cell BK235.out 3).trans rfl
     have hfz126_0 := blk_frozen BK235.out 0
     have hfz126_1 := blk_frozen BK235.out 1
     have hfz126_2 := blk_frozen BK235.out 2
     have hfz126_3 := blk_frozen BK235.out 3
     go_wp2
     go_meet
     case rel => exact ⟨_, (a1_3), q19y4, H', ⟨by have := HJ2.out; first | omega | exact Nat.le_refl _⟩, ⟨by (with_reducible repeat (first | refine blk_drewN ?_ _ | refine blk_drew ?_ | refine blk_alloc ?_ _)); exact BK234.out⟩, ⟨by (with_reducible repeat (first | refine blk_drewN ?_ _ | refine blk_drew ?_ | refine blk_alloc ?_ _)); exact BK235.out⟩, ⟨by repeat (first | (with_reducible first | exact HB.out | apply below_alloc | apply pw_below_drewN | apply below_drew1 | refine below_set ?_ GE234.out | refine below_set ?_ GE235.out) | exact HB.out)⟩⟩
    rw [if_pos c19] at H
    have c19b0 : (a0_0 == 0) = true := beq_iff_eq.mpr c19
    have c19b1 : (a0_0 != 0) = false := bne_eq_false_iff_eq.mpr c19
    clear c19
    (first | rw [c19b0] | (simp only [i64_w, i32_w]; rw [c19b0]) | skip)
    by_cases c20 : (a0_1.size : Int) ≤ 140737488355328
    rotate_left
    ·rw [if_neg c20] at H
     exact absurd H (by simp)
    rw [if_pos c20] at H
    have c20b0 := eq_true c20
    have c20b1 : decide ((a0_1.size : Int) ≤ 140737488355328) = true := decide_eq_true c20
    clear c20
    obtain ⟨y236, hy236⟩ : ∃ y_ : List Int, y_ = (bytesOf a0_1) := ⟨_, rfl⟩
    replace H : (if (a1_1.size : Int) ≤ 140737488355328 then ((cambiumref01_Less.f kj2 y236 (bytesOf a1_1)).bind fun t242 => (if t242 = true then (cambiumref16_Compare.j1 kj2 true a0_0 a0_1 a0_2 a0_3 a1_0 a1_1 a1_2 a1_3) else (if a0_0 = 1 then (if a0_2 < a1_2 then (cambiumref16_Compare.j1 kj2 true a0_0 a0_1 a0_2 a0_3 a1_0 a1_1 a1_2 a1_3) else (if a0_0 = 2 then (if a0_3 = true then (cambiumref16_Compare.j1 kj2 false a0_0 a0_1 a0_2 a0_3 a1_0 a1_1 a1_2 a1_3) else (cambiumref16_Compare.j1 kj2 a1_3 a0_0 a0_1 a0_2 a0_3 a1_0 a1_1 a1_2 a1_3)) else (cambiumref16_Compare.j1 kj2 false a0_0 a0_1 a0_2 a0_3 a1_0 a1_1 a1_2 a1_3))) else (if a0_0 = 2 then (if a0_3 = true then (cambiumref16_Compare.j1 kj2 false a0_0 a0_1 a0_2 a0_3 a1_0 a1_1 a1_2 a1_3) else (cambiumref16_Compare.j1 kj2 a1_3 a0_0 a0_1 a0_2 a0_3 a1_0 a1_1 a1_2 a1_3)) else (cambiumref16_Compare.j1 kj2 false a0_0 a0_1 a0_2 a0_3 a1_0 a1_1 a1_2 a1_3))))) else (none)) = some (r1, r2) := by first | (rw [hy236]; with_reducible exact H) | (have H2_ := (Option.bind_some _ _).symm.trans H; rw [hy236]; with_reducible exact H2_) | (have H2_ := (Option.bind_some _ _).symm.trans H; with_reducible exact H2_) | with_reducible exact H | (rw [hy236]; exact H) | exact H
    have Ny236 := Aside0.mk hy236
    clear hy236
    by_cases c21 : (a1_1.size : Int) ≤ 140737488355328
    rotate_left
    ·rw [if_neg c21] at H
     exact absurd H (by simp)
    rw [if_pos c21] at H
    have c21b0 := eq_true c21
    have c21b1 : decide ((a1_1.size : Int) ≤ 140737488355328) = true := decide_eq_true c21
    clear c21
    obtain ⟨y239, hy239⟩ : ∃ y_ : List Int, y_ = (bytesOf a1_1) := ⟨_, rfl⟩
    replace H : ((cambiumref01_Less.f kj2 y236 y239).bind fun t242 => (if t242 = true then (cambiumref16_Compare.j1 kj2 true a0_0 a0_1 a0_2 a0_3 a1_0 a1_1 a1_2 a1_3) else (if a0_0 = 1 then (if a0_2 < a1_2 then (cambiumref16_Compare.j1 kj2 true a0_0 a0_1 a0_2 a0_3 a1_0 a1_1 a1_2 a1_3) else (if a0_0 = 2 then (if a0_3 = true then (cambiumref16_Compare.j1 kj2 false a0_0 a0_1 a0_2 a0_3 a1_0 a1_1 a1_2 a1_3) else (cambiumref16_Compare.j1 kj2 a1_3 a0_0 a0_1 a0_2 a0_3 a1_0 a1_1 a1_2 a1_3)) else (cambiumref16_Compare.j1 kj2 false a0_0 a0_1 a0_2 a0_3 a1_0 a1_1 a1_2 a1_3))) else (if a0_0 = 2 then (if a0_3 = true then (cambiumref16_Compare.j1 kj2 false a0_0 a0_1 a0_2 a0_3 a1_0 a1_1 a1_2 a1_3) else (cambiumref16_Compare.j1 kj2 a1_3 a0_0 a0_1 a0_2 a0_3 a1_0 a1_1 a1_2 a1_3)) else (cambiumref16_Compare.j1 kj2 false a0_0 a0_1 a0_2 a0_3 a1_0 a1_1 a1_2 a1_3))))) = some (r1, r2) := by first | (rw [hy239]; with_reducible exact H) | (have H2_ := (Option.bind_some _ _).symm.trans H; rw [hy239]; with_reducible exact H2_) | (have H2_ := (Option.bind_some _ _).symm.trans H; with_reducible exact H2_) | with_reducible exact H | (rw [hy239]; exact H) | exact H
    have Ny239 := Aside0.mk hy239
    clear hy239
    replace H := Option.bind_eq_some_iff.mp H
    obtain ⟨t242, A220, H⟩ := H
    replace H : (if t242 = true then (cambiumref16_Compare.j1 kj2 true a0_0 a0_1 a0_2 a0_3 a1_0 a1_1 a1_2 a1_3) else (if a0_0 = 1 then (if a0_2 < a1_2 then (cambiumref16_Compare.j1 kj2 true a0_0 a0_1 a0_2 a0_3 a1_0 a1_1 a1_2 a1_3) else (if a0_0 = 2 then (if a0_3 = true then (cambiumref16_Compare.j1 kj2 false a0_0 a0_1 a0_2 a0_3 a1_0 a1_1 a1_2 a1_3) else (cambiumref16_Compare.j1 kj2 a1_3 a0_0 a0_1 a0_2 a0_3 a1_0 a1_1 a1_2 a1_3)) else (cambiumref16_Compare.j1 kj2 false a0_0 a0_1 a0_2 a0_3 a1_0 a1_1 a1_2 a1_3))) else (if a0_0 = 2 then (if a0_3 = true then (cambiumref16_Compare.j1 kj2 false a0_0 a0_1 a0_2 a0_3 a1_0 a1_1 a1_2 a1_3) else (cambiumref16_Compare.j1 kj2 a1_3 a0_0 a0_1 a0_2 a0_3 a1_0 a1_1 a1_2 a1_3)) else (cambiumref16_Compare.j1 kj2 false a0_0 a0_1 a0_2 a0_3 a1_0 a1_1 a1_2 a1_3)))) = some (r1, r2) := H
    have A22 := Aside0.mk A220
    clear A220
    by_cases c23 : t242 = true
    ·subst c23
     have H1 : (cambiumref16_Compare.j1 kj2 true a0_0 a0_1 a0_2 a0_3 a1_0 a1_1 a1_2 a1_3) = some (r1, r2) := by rw [if_pos rfl] at H; exact H
     clear H
     have H := H1
     clear H1
     have H' := Aside0.mk H
     clear H
     have hnb24 := NB234_235.out
     have hnc24 := NB235_234.out
     have hcz25_0 : wc.cell? ⟨gb234, 0, none⟩ = some (.int .i64 a0_0) := (blk_cell BK234.out 0).trans rfl
     have hcz25_1 : wc.cell? ⟨gb234, 1, none⟩ = some (.string a0_1) := (blk_cell BK234.out 1).trans rfl
     have hcz25_2 : wc.cell? ⟨gb234, 2, none⟩ = some (.int .i64 a0_2) := (blk_cell BK234.out 2).trans rfl
     have hcz25_3 : wc.cell? ⟨gb234, 3, none⟩ = some (.bool a0_3) := (blk_cell BK234.out 3).trans rfl
     have hfz25_0 := blk_frozen BK234.out 0
     have hfz25_1 := blk_frozen BK234.out 1
     have hfz25_2 := blk_frozen BK234.out 2
     have hfz25_3 := blk_frozen BK234.out 3
     go_wp2_with (first | ((with_reducible refine gate_dst (N := 29) rfl ?_); (first | refine Go.Proofs.YtkeepnmlphbffaaDoor.Conv.V_conv _ 5 rfl (N' := 29) rfl 9 56 _ rfl Tryd.underlying9 Tryd.underlying56 Tryd.underlying5 a0_1 rfl q19y3 (Below.refl _ _) (Nat.le_refl _) ?_ | refine Go.Proofs.YtkeepnmlphbffaaDoor.Conv.V_conv_on _ 5 (by rfl) (N' := 29) rfl 9 56 _ rfl Tryd.underlying9 Tryd.underlying56 Tryd.underlying5 a0_1 rfl q19y3 (Below.refl _ _) (Nat.le_refl _) ?_); intro v237 w26 ho27 hb hg_ hnew_; clear hg_ hnew_; (first | rw [← Ny236.out] at ho27 | (simp only [Int.reduceToNat] at ho27; rw [← Ny236.out] at ho27)); have n0_ := Aside0.mk (Kd.V_lower (Kd.V_mono (ok' := fun k_ => k_ ≠ gb234 ∧ k_ ≠ gb235) ho27 (fun k_ hk_ => ⟨(Kd.freshB (g := gb234) (o := .cells #[.int .i64 a0_0, .string a0_1, .int .i64 a0_2, .bool a0_3] 23 (0, 0)) q19y1 k_ hk_), (Kd.freshB (g := gb235) (o := .cells #[.int .i64 a1_0, .string a1_1, .int .i64 a1_2, .bool a1_3] 23 (0, 0)) q19y2 k_ hk_)⟩)) (below_size q19y0)); have n1_ := Aside0.mk (blk_below (g := gb234) (o := .cells #[.int .i64 a0_0, .string a0_1, .int .i64 a0_2, .bool a0_3] 23 (0, 0)) q19y1 hb); have n2_ := Aside0.mk (blk_below (g := gb235) (o := .cells #[.int .i64 a1_0, .string a1_1, .int .i64 a1_2, .bool a1_3] 23 (0, 0)) q19y2 hb); have n3_ := Aside0.mk (below_step q19y0 hb); clear BK234; clear BK235; clear HB; have HO238 := n0_; have BK234 := n1_; have BK235 := n2_; have HB := n3_; clear n0_ n1_ n2_ n3_; clear hb ho27; have hcz28_0 : w26.cell? ⟨gb235, 0, none⟩ = some (.int .i64 a1_0) := (blk_cell BK235.out 0).trans rfl; have hcz28_1 : w26.cell? ⟨gb235, 1, none⟩ = some (.string a1_1) := (blk_cell BK235.out 1).trans rfl; have hcz28_2 : w26.cell? ⟨gb235, 2, none⟩ = some (.int .i64 a1_2) := (blk_cell BK235.out 2).trans rfl; have hcz28_3 : w26.cell? ⟨gb235, 3, none⟩ = some (.bool a1_3) := (blk_cell BK235.out 3).trans rfl; have hfz28_0 := blk_frozen BK235.out 0; have hfz28_1 := blk_frozen BK235.out 1; have hfz28_2 := blk_frozen BK235.out 2; have hfz28_3 := blk_frozen BK235.out 3) | ((with_reducible refine gate_dst (N := 32) rfl ?_); (first | refine Go.Proofs.YtkeepnmlphbffaaDoor.Conv.V_conv _ 5 rfl (N' := 32) rfl 9 56 _ rfl Tryd.underlying9 Tryd.underlying56 Tryd.underlying5 a1_1 rfl q19y3 (Below.refl _ _) (Nat.le_refl _) ?_ | refine Go.Proofs.YtkeepnmlphbffaaDoor.Conv.V_conv_on _ 5 (by rfl) (N' := 32) rfl 9 56 _ rfl Tryd.underlying9 Tryd.underlying56 Tryd.underlying5 a1_1 rfl q19y3 (Below.refl _ _) (Nat.le_refl _) ?_); intro v240 w29 ho30 hb hg_ hnew_; clear hg_ hnew_; (first | rw [← Ny239.out] at ho30 | (simp only [Int.reduceToNat] at ho30; rw [← Ny239.out] at ho30)); have n0_ := Aside0.mk (Kd.V_below q19y6 hb); have n1_ := Aside0.mk (Kd.V_lower (Kd.V_mono (ok' := fun k_ => k_ ≠ gb234 ∧ k_ ≠ gb235) ho30 (fun k_ hk_ => ⟨(Kd.freshB (g := gb234) (o := .cells #[.int .i64 a0_0, .string a0_1, .int .i64 a0_2, .bool a0_3] 23 (0, 0)) q19y1 k_ hk_), (Kd.freshB (g := gb235) (o := .cells #[.int .i64 a1_0, .string a1_1, .int .i64 a1_2, .bool a1_3] 23 (0, 0)) q19y2 k_ hk_)⟩)) (below_size q19y0)); have n2_ := Aside0.mk (blk_below (g := gb234) (o := .cells #[.int .i64 a0_0, .string a0_1, .int .i64 a0_2, .bool a0_3] 23 (0, 0)) q19y1 hb); have n3_ := Aside0.mk (blk_below (g := gb235) (o := .cells #[.int .i64 a1_0, .string a1_1, .int .i64 a1_2, .bool a1_3] 23 (0, 0)) q19y2 hb); have n4_ := Aside0.mk (below_step q19y0 hb); clear HO238; clear BK234; clear BK235; clear HB; have HO238 := n0_; have HO241 := n1_; have BK234 := n2_; have BK235 := n3_; have HB := n4_; clear n0_ n1_ n2_ n3_ n4_; clear hb ho30; obtain ⟨Ao31, co31, eo31⟩ := Kd.V_slice HO238.out; subst eo31; obtain ⟨Ao32, co32, eo32⟩ := Kd.V_slice HO241.out; subst eo32) | (go_at_call 25; (with_reducible refine (cambiumref01_Less.calls kj2 _ _ y236 _ _ y239 true _ ?side1 ?side2 ?side3 ?side4 A22.out).mono ?_); (case side1 => repeat (first | exact (Kd.V_reads' HO238.out).2.2 | (with_reducible refine Kd.C_alloc ?_ _) | (with_reducible refine Kd.C_drewN ?_ _) | (with_reducible refine Kd.C_drew ?_))); (case side2 => exact (Kd.V_reads' HO238.out).2.1); (case side3 => repeat (first | exact (Kd.V_reads' HO241.out).2.2 | (with_reducible refine Kd.C_alloc ?_ _) | (with_reducible refine Kd.C_drewN ?_ _) | (with_reducible refine Kd.C_drew ?_))); (case side4 => exact (Kd.V_reads' HO241.out).2.1); rintro e w' ⟨rfl, ⟨nd, rfl⟩⟩))
     go_meet
     case rel => exact ⟨_, (true), q19y4, H', ⟨by have := HJ2.out; first | omega | exact Nat.le_refl _⟩, ⟨by (with_reducible repeat (first | refine blk_drewN ?_ _ | refine blk_drew ?_ | refine blk_alloc ?_ _)); exact BK234.out⟩, ⟨by (with_reducible repeat (first | refine blk_drewN ?_ _ | refine blk_drew ?_ | refine blk_alloc ?_ _)); exact BK235.out⟩, ⟨by repeat (first | (with_reducible first | exact HB.out | apply below_alloc | apply pw_below_drewN | apply below_drew1 | refine below_set ?_ GE234.out | refine below_set ?_ GE235.out) | exact HB.out)⟩⟩
    replace c23 := Bool.eq_false_iff.mpr c23
    subst c23
    have H1 : (if a0_0 = 1 then (if a0_2 < a1_2 then (cambiumref16_Compare.j1 kj2 true a0_0 a0_1 a0_2 a0_3 a1_0 a1_1 a1_2 a1_3) else (if a0_0 = 2 then (if a0_3 = true then (cambiumref16_Compare.j1 kj2 false a0_0 a0_1 a0_2 a0_3 a1_0 a1_1 a1_2 a1_3) else (cambiumref16_Compare.j1 kj2 a1_3 a0_0 a0_1 a0_2 a0_3 a1_0 a1_1 a1_2 a1_3)) else (cambiumref16_Compare.j1 kj2 false a0_0 a0_1 a0_2 a0_3 a1_0 a1_1 a1_2 a1_3))) else (if a0_0 = 2 then (if a0_3 = true then (cambiumref16_Compare.j1 kj2 false a0_0 a0_1 a0_2 a0_3 a1_0 a1_1 a1_2 a1_3) else (cambiumref16_Compare.j1 kj2 a1_3 a0_0 a0_1 a0_2 a0_3 a1_0 a1_1 a1_2 a1_3)) else (cambiumref16_Compare.j1 kj2 false a0_0 a0_1 a0_2 a0_3 a1_0 a1_1 a1_2 a1_3))) = some (r1, r2) := by rw [if_neg (show ¬ (false = true) by decide)] at H; exact H
    clear H
    have H := H1
    clear H1
    by_cases c33 : a0_0 = 1
    rotate_left
    ·rw [if_neg c33] at H
     have c33b0 : (a0_0 == 1) = false := beq_eq_false_iff_ne.mpr c33
     have c33b1 : (a0_0 != 1) = true := bne_iff_ne.mpr c33
     by_cases c81 : a0_0 = 2
     rotate_left
     ·rw [if_neg c81] at H
      have c81b0 : (a0_0 == 2) = false := beq_eq_false_iff_ne.mpr c81
      have c81b1 : (a0_0 != 2) = true := bne_iff_ne.mpr c81
      have H' := Aside0.mk H
      clear H
      have hnb104 := NB234_235.out
      have hnc104 := NB235_234.out
      have hcz105_0 : wc.cell? ⟨gb234, 0, none⟩ = some (.int .i64 a0_0) := (blk_cell BK234.out 0).trans rfl
      have hcz105_1 : wc.cell? ⟨gb234, 1, none⟩ = some (.string a0_1) := (blk_cell BK234.out 1).trans rfl
      have hcz105_2 : wc.cell? ⟨gb234, 2, none⟩ = some (.int .i64 a0_2) := (blk_cell BK234.out 2).trans rfl
      have hcz105_3 : wc.cell? ⟨gb234, 3, none⟩ = some (.bool a0_3) := (blk_cell BK234.out 3).trans rfl
      have hfz105_0 := blk_frozen BK234.out 0
      have hfz105_1 := blk_frozen BK234.out 1
      have hfz105_2 := blk_frozen BK234.out 2
      have hfz105_3 := blk_frozen BK234.out 3
      go_wp2_with (first | ((with_reducible refine gate_dst (N := 29) rfl ?_); (first | refine Go.Proofs.YtkeepnmlphbffaaDoor.Conv.V_conv _ 5 rfl (N' := 29) rfl 9 56 _ rfl Tryd.underlying9 Tryd.underlying56 Tryd.underlying5 a0_1 rfl q19y3 (Below.refl _ _) (Nat.le_refl _) ?_ | refine Go.Proofs.YtkeepnmlphbffaaDoor.Conv.V_conv_on _ 5 (by rfl) (N' := 29) rfl 9 56 _ rfl Tryd.underlying9 Tryd.underlying56 Tryd.underlying5 a0_1 rfl q19y3 (Below.refl _ _) (Nat.le_refl _) ?_); intro v237 w106 ho107 hb hg_ hnew_; clear hg_ hnew_; (first | rw [← Ny236.out] at ho107 | (simp only [Int.reduceToNat] at ho107; rw [← Ny236.out] at ho107)); have n0_ := Aside0.mk (Kd.V_lower (Kd.V_mono (ok' := fun k_ => k_ ≠ gb234 ∧ k_ ≠ gb235) ho107 (fun k_ hk_ => ⟨(Kd.freshB (g := gb234) (o := .cells #[.int .i64 a0_0, .string a0_1, .int .i64 a0_2, .bool a0_3] 23 (0, 0)) q19y1 k_ hk_), (Kd.freshB (g := gb235) (o := .cells #[.int .i64 a1_0, .string a1_1, .int .i64 a1_2, .bool a1_3] 23 (0, 0)) q19y2 k_ hk_)⟩)) (below_size q19y0)); have n1_ := Aside0.mk (blk_below (g := gb234) (o := .cells #[.int .i64 a0_0, .string a0_1, .int .i64 a0_2, .bool a0_3] 23 (0, 0)) q19y1 hb); have n2_ := Aside0.mk (blk_below (g := gb235) (o := .cells #[.int .i64 a1_0, .string a1_1, .int .i64 a1_2, .bool a1_3] 23 (0, 0)) q19y2 hb); have n3_ := Aside0.mk (below_step q19y0 hb); clear BK234; clear BK235; clear HB; have HO238 := n0_; have BK234 := n1_; have BK235 := n2_; have HB := n3_; clear n0_ n1_ n2_ n3_; clear hb ho107; have hcz108_0 : w106.cell? ⟨gb235, 0, none⟩ = some (.int .i64 a1_0) := (blk_cell BK235.out 0).trans rfl; have hcz108_1 : w106.cell? ⟨gb235, 1, none⟩ = some (.string a1_1) := (blk_cell BK235.out 1).trans rfl; have hcz108_2 : w106.cell? ⟨gb235, 2, none⟩ = some (.int .i64 a1_2) := (blk_cell BK235.out 2).trans rfl; have hcz108_3 : w106.cell? ⟨gb235, 3, none⟩ = some (.bool a1_3) := (blk_cell BK235.out 3).trans rfl; have hfz108_0 := blk_frozen BK235.out 0; have hfz108_1 := blk_frozen BK235.out 1; have hfz108_2 := blk_frozen BK235.out 2; have hfz108_3 := blk_frozen BK235.out 3) | ((with_reducible refine gate_dst (N := 32) rfl ?_); (first | refine Go.Proofs.YtkeepnmlphbffaaDoor.Conv.V_conv _ 5 rfl (N' := 32) rfl 9 56 _ rfl Tryd.underlying9 Tryd.underlying56 Tryd.underlying5 a1_1 rfl q19y3 (Below.refl _ _) (Nat.le_refl _) ?_ | refine Go.Proofs.YtkeepnmlphbffaaDoor.Conv.V_conv_on _ 5 (by rfl) (N' := 32) rfl 9 56 _ rfl Tryd.underlying9 Tryd.underlying56 Tryd.underlying5 a1_1 rfl q19y3 (Below.refl _ _) (Nat.le_refl _) ?_); intro v240 w109 ho110 hb hg_ hnew_; clear hg_ hnew_; (first | rw [← Ny239.out] at ho110 | (simp only [Int.reduceToNat] at ho110; rw [← Ny239.out] at ho110)); have n0_ := Aside0.mk (Kd.V_below q19y6 hb); have n1_ := Aside0.mk (Kd.V_lower (Kd.V_mono (ok' := fun k_ => k_ ≠ gb234 ∧ k_ ≠ gb235) ho110 (fun k_ hk_ => ⟨(Kd.freshB (g := gb234) (o := .cells #[.int .i64 a0_0, .string a0_1, .int .i64 a0_2, .bool a0_3] 23 (0, 0)) q19y1 k_ hk_), (Kd.freshB (g := gb235) (o := .cells #[.int .i64 a1_0, .string a1_1, .int .i64 a1_2, .bool a1_3] 23 (0, 0)) q19y2 k_ hk_)⟩)) (below_size q19y0)); have n2_ := Aside0.mk (blk_below (g := gb234) (o := .cells #[.int .i64 a0_0, .string a0_1, .int .i64 a0_2, .bool a0_3] 23 (0, 0)) q19y1 hb); have n3_ := Aside0.mk (blk_below (g := gb235) (o := .cells #[.int .i64 a1_0, .string a1_1, .int .i64 a1_2, .bool a1_3] 23 (0, 0)) q19y2 hb); have n4_ := Aside0.mk (below_step q19y0 hb); clear HO238; clear BK234; clear BK235; clear HB; have HO238 := n0_; have HO241 := n1_; have BK234 := n2_; have BK235 := n3_; have HB := n4_; clear n0_ n1_ n2_ n3_ n4_; clear hb ho110; obtain ⟨Ao111, co111, eo111⟩ := Kd.V_slice HO238.out; subst eo111; obtain ⟨Ao112, co112, eo112⟩ := Kd.V_slice HO241.out; subst eo112) | (go_at_call 25; (with_reducible refine (cambiumref01_Less.calls kj2 _ _ y236 _ _ y239 false _ ?side1 ?side2 ?side3 ?side4 A22.out).mono ?_); (case side1 => repeat (first | exact (Kd.V_reads' HO238.out).2.2 | (with_reducible refine Kd.C_alloc ?_ _) | (with_reducible refine Kd.C_drewN ?_ _) | (with_reducible refine Kd.C_drew ?_))); (case side2 => exact (Kd.V_reads' HO238.out).2.1); (case side3 => repeat (first | exact (Kd.V_reads' HO241.out).2.2 | (with_reducible refine Kd.C_alloc ?_ _) | (with_reducible refine Kd.C_drewN ?_ _) | (with_reducible refine Kd.C_drew ?_))); (case side4 => exact (Kd.V_reads' HO241.out).2.1); rintro e w' ⟨rfl, ⟨nd, rfl⟩⟩; have hcz113_0 : w109.cell? ⟨gb234, 0, none⟩ = some (.int .i64 a0_0) := (blk_cell BK234.out 0).trans rfl; have hcz113_1 : w109.cell? ⟨gb234, 1, none⟩ = some (.string a0_1) := (blk_cell BK234.out 1).trans rfl; have hcz113_2 : w109.cell? ⟨gb234, 2, none⟩ = some (.int .i64 a0_2) := (blk_cell BK234.out 2).trans rfl; have hcz113_3 : w109.cell? ⟨gb234, 3, none⟩ = some (.bool a0_3) := (blk_cell BK234.out 3).trans rfl; have hfz113_0 := blk_frozen BK234.out 0; have hfz113_1 := blk_frozen BK234.out 1; have hfz113_2 := blk_frozen BK234.out 2; have hfz113_3 := blk_frozen BK234.out 3))
      go_meet
      case rel => exact ⟨_, (false), q19y4, H', ⟨by have := HJ2.out; first | omega | exact Nat.le_refl _⟩, ⟨by (with_reducible repeat (first | refine blk_drewN ?_ _ | refine blk_drew ?_ | refine blk_alloc ?_ _)); exact BK234.out⟩, ⟨by (with_reducible repeat (first | refine blk_drewN ?_ _ | refine blk_drew ?_ | refine blk_alloc ?_ _)); exact BK235.out⟩, ⟨by repeat (first | (with_reducible first | exact HB.out | apply below_alloc | apply pw_below_drewN | apply below_drew1 | refine below_set ?_ GE234.out | refine below_set ?_ GE235.out) | exact HB.out)⟩⟩
     rw [if_pos c81] at H
     have c81b0 : (a0_0 == 2) = true := beq_iff_eq.mpr c81
     have c81b1 : (a0_0 != 2) = false := bne_eq_false_iff_eq.mpr c81
     clear c81
     by_cases c82 : a0_3 = true
     ·subst c82
      have H1 : (cambiumref16_Compare.j1 kj2 false a0_0 a0_1 a0_2 true a1_0 a1_1 a1_2 a1_3) = some (r1, r2) := by rw [if_pos rfl] at H; exact H
      clear H
      have H := H1
      clear H1
      have H' := Aside0.mk H
      clear H
      have hnb83 := NB234_235.out
      have hnc83 := NB235_234.out
      have hcz84_0 : wc.cell? ⟨gb234, 0, none⟩ = some (.int .i64 a0_0) := (blk_cell BK234.out 0).trans rfl
      have hcz84_1 : wc.cell? ⟨gb234, 1, none⟩ = some (.string a0_1) := (blk_cell BK234.out 1).trans rfl
      have hcz84_2 : wc.cell? ⟨gb234, 2, none⟩ = some (.int .i64 a0_2) := (blk_cell BK234.out 2).trans rfl
      have hcz84_3 : wc.cell? ⟨gb234, 3, none⟩ = some (.bool true) := (blk_cell BK234.out 3).trans rfl
      have hfz84_0 := blk_frozen BK234.out 0
      have hfz84_1 := blk_frozen BK234.out 1
      have hfz84_2 := blk_frozen BK234.out 2
      have hfz84_3 := blk_frozen BK234.out 3
      go_wp2_with (first | ((with_reducible refine gate_dst (N := 29) rfl ?_); (first | refine Go.Proofs.YtkeepnmlphbffaaDoor.Conv.V_conv _ 5 rfl (N' := 29) rfl 9 56 _ rfl Tryd.underlying9 Tryd.underlying56 Tryd.underlying5 a0_1 rfl q19y3 (Below.refl _ _) (Nat.le_refl _) ?_ | refine Go.Proofs.YtkeepnmlphbffaaDoor.Conv.V_conv_on _ 5 (by rfl) (N' := 29) rfl 9 56 _ rfl Tryd.underlying9 Tryd.underlying56 Tryd.underlying5 a0_1 rfl q19y3 (Below.refl _ _) (Nat.le_refl _) ?_); intro v237 w85 ho86 hb hg_ hnew_; clear hg_ hnew_; (first | rw [← Ny236.out] at ho86 | (simp only [Int.reduceToNat] at ho86; rw [← Ny236.out] at ho86)); have n0_ := Aside0.mk (Kd.V_lower (Kd.V_mono (ok' := fun k_ => k_ ≠ gb234 ∧ k_ ≠ gb235) ho86 (fun k_ hk_ => ⟨(Kd.freshB (g := gb234) (o := .cells #[.int .i64 a0_0, .string a0_1, .int .i64 a0_2, .bool true] 23 (0, 0)) q19y1 k_ hk_), (Kd.freshB (g := gb235) (o := .cells #[.int .i64 a1_0, .string a1_1, .int .i64 a1_2, .bool a1_3] 23 (0, 0)) q19y2 k_ hk_)⟩)) (below_size q19y0)); have n1_ := Aside0.mk (blk_below (g := gb234) (o := .cells #[.int .i64 a0_0, .string a0_1, .int .i64 a0_2, .bool true] 23 (0, 0)) q19y1 hb); have n2_ := Aside0.mk (blk_below (g := gb235) (o := .cells #[.int .i64 a1_0, .string a1_1, .int .i64 a1_2, .bool a1_3] 23 (0, 0)) q19y2 hb); have n3_ := Aside0.mk (below_step q19y0 hb); clear BK234; clear BK235; clear HB; have HO238 := n0_; have BK234 := n1_; have BK235 := n2_; have HB := n3_; clear n0_ n1_ n2_ n3_; clear hb ho86; have hcz87_0 : w85.cell? ⟨gb235, 0, none⟩ = some (.int .i64 a1_0) := (blk_cell BK235.out 0).trans rfl; have hcz87_1 : w85.cell? ⟨gb235, 1, none⟩ = some (.string a1_1) := (blk_cell BK235.out 1).trans rfl; have hcz87_2 : w85.cell? ⟨gb235, 2, none⟩ = some (.int .i64 a1_2) := (blk_cell BK235.out 2).trans rfl; have hcz87_3 : w85.cell? ⟨gb235, 3, none⟩ = some (.bool a1_3) := (blk_cell BK235.out 3).trans rfl; have hfz87_0 := blk_frozen BK235.out 0; have hfz87_1 := blk_frozen BK235.out 1; have hfz87_2 := blk_frozen BK235.out 2; have hfz87_3 := blk_frozen BK235.out 3) | ((with_reducible refine gate_dst (N := 32) rfl ?_); (first | refine Go.Proofs.YtkeepnmlphbffaaDoor.Conv.V_conv _ 5 rfl (N' := 32) rfl 9 56 _ rfl Tryd.underlying9 Tryd.underlying56 Tryd.underlying5 a1_1 rfl q19y3 (Below.refl _ _) (Nat.le_refl _) ?_ | refine Go.Proofs.YtkeepnmlphbffaaDoor.Conv.V_conv_on _ 5 (by rfl) (N' := 32) rfl 9 56 _ rfl Tryd.underlying9 Tryd.underlying56 Tryd.underlying5 a1_1 rfl q19y3 (Below.refl _ _) (Nat.le_refl _) ?_); intro v240 w88 ho89 hb hg_ hnew_; clear hg_ hnew_; (first | rw [← Ny239.out] at ho89 | (simp only [Int.reduceToNat] at ho89; rw [← Ny239.out] at ho89)); have n0_ := Aside0.mk (Kd.V_below q19y6 hb); have n1_ := Aside0.mk (Kd.V_lower (Kd.V_mono (ok' := fun k_ => k_ ≠ gb234 ∧ k_ ≠ gb235) ho89 (fun k_ hk_ => ⟨(Kd.freshB (g := gb234) (o := .cells #[.int .i64 a0_0, .string a0_1, .int .i64 a0_2, .bool true] 23 (0, 0)) q19y1 k_ hk_), (Kd.freshB (g := gb235) (o := .cells #[.int .i64 a1_0, .string a1_1, .int .i64 a1_2, .bool a1_3] 23 (0, 0)) q19y2 k_ hk_)⟩)) (below_size q19y0)); have n2_ := Aside0.mk (blk_below (g := gb234) (o := .cells #[.int .i64 a0_0, .string a0_1, .int .i64 a0_2, .bool true] 23 (0, 0)) q19y1 hb); have n3_ := Aside0.mk (blk_below (g := gb235) (o := .cells #[.int .i64 a1_0, .string a1_1, .int .i64 a1_2, .bool a1_3] 23 (0, 0)) q19y2 hb); have n4_ := Aside0.mk (below_step q19y0 hb); clear HO238; clear BK234; clear BK235; clear HB; have HO238 := n0_; have HO241 := n1_; have BK234 := n2_; have BK235 := n3_; have HB := n4_; clear n0_ n1_ n2_ n3_ n4_; clear hb ho89; obtain ⟨Ao90, co90, eo90⟩ := Kd.V_slice HO238.out; subst eo90; obtain ⟨Ao91, co91, eo91⟩ := Kd.V_slice HO241.out; subst eo91) | (go_at_call 25; (with_reducible refine (cambiumref01_Less.calls kj2 _ _ y236 _ _ y239 false _ ?side1 ?side2 ?side3 ?side4 A22.out).mono ?_); (case side1 => repeat (first | exact (Kd.V_reads' HO238.out).2.2 | (with_reducible refine Kd.C_alloc ?_ _) | (with_reducible refine Kd.C_drewN ?_ _) | (with_reducible refine Kd.C_drew ?_))); (case side2 => exact (Kd.V_reads' HO238.out).2.1); (case side3 => repeat (first | exact (Kd.V_reads' HO241.out).2.2 | (with_reducible refine Kd.C_alloc ?_ _) | (with_reducible refine Kd.C_drewN ?_ _) | (with_reducible refine Kd.C_drew ?_))); (case side4 => exact (Kd.V_reads' HO241.out).2.1); rintro e w' ⟨rfl, ⟨nd, rfl⟩⟩; have hcz92_0 : w88.cell? ⟨gb234, 0, none⟩ = some (.int .i64 a0_0) := (blk_cell BK234.out 0).trans rfl; have hcz92_1 : w88.cell? ⟨gb234, 1, none⟩ = some (.string a0_1) := (blk_cell BK234.out 1).trans rfl; have hcz92_2 : w88.cell? ⟨gb234, 2, none⟩ = some (.int .i64 a0_2) := (blk_cell BK234.out 2).trans rfl; have hcz92_3 : w88.cell? ⟨gb234, 3, none⟩ = some (.bool true) := (blk_cell BK234.out 3).trans rfl; have hfz92_0 := blk_frozen BK234.out 0; have hfz92_1 := blk_frozen BK234.out 1; have hfz92_2 := blk_frozen BK234.out 2; have hfz92_3 := blk_frozen BK234.out 3))
      go_meet
      case rel => exact ⟨_, (false), q19y4, H', ⟨by have := HJ2.out; first | omega | exact Nat.le_refl _⟩, ⟨by (with_reducible repeat (first | refine blk_drewN ?_ _ | refine blk_drew ?_ | refine blk_alloc ?_ _)); exact BK234.out⟩, ⟨by (with_reducible repeat (first | refine blk_drewN ?_ _ | refine blk_drew ?_ | refine blk_alloc ?_ _)); exact BK235.out⟩, ⟨by repeat (first | (with_reducible first | exact HB.out | apply below_alloc | apply pw_below_drewN | apply below_drew1 | refine below_set ?_ GE234.out | refine below_set ?_ GE235.out) | exact HB.out)⟩⟩
     replace c82 := Bool.eq_false_iff.mpr c82
     subst c82
     have H1 : (cambiumref16_Compare.j1 kj2 a1_3 a0_0 a0_1 a0_2 false a1_0 a1_1 a1_2 a1_3) = some (r1, r2) := by rw [if_neg (show ¬ (false = true) by decide)] at H; exact H
     clear H
     have H := H1
     clear H1
     have H' := Aside0.mk H
     clear H
     have hnb93 := NB234_235.out
     have hnc93 := NB235_234.out
     have hcz94_0 : wc.cell? ⟨gb234, 0, none⟩ = some (.int .i64 a0_0) := (blk_cell BK234.out 0).trans rfl
     have hcz94_1 : wc.cell? ⟨gb234, 1, none⟩ = some (.string a0_1) := (blk_cell BK234.out 1).trans rfl
     have hcz94_2 : wc.cell? ⟨gb234, 2, none⟩ = some (.int .i64 a0_2) := (blk_cell BK234.out 2).trans rfl
     have hcz94_3 : wc.cell? ⟨gb234, 3, none⟩ = some (.bool false) := (blk_cell BK234.out 3).trans rfl
     have hfz94_0 := blk_frozen BK234.out 0
     have hfz94_1 := blk_frozen BK234.out 1
     have hfz94_2 := blk_frozen BK234.out 2
     have hfz94_3 := blk_frozen BK234.out 3
     go_wp2_with (first | ((with_reducible refine gate_dst (N := 29) rfl ?_); (first | refine Go.Proofs.YtkeepnmlphbffaaDoor.Conv.V_conv _ 5 rfl (N' := 29) rfl 9 56 _ rfl Tryd.underlying9 Tryd.underlying56 Tryd.underlying5 a0_1 rfl q19y3 (Below.refl _ _) (Nat.le_refl _) ?_ | refine Go.Proofs.YtkeepnmlphbffaaDoor.Conv.V_conv_on _ 5 (by rfl) (N' := 29) rfl 9 56 _ rfl Tryd.underlying9 Tryd.underlying56 Tryd.underlying5 a0_1 rfl q19y3 (Below.refl _ _) (Nat.le_refl _) ?_); intro v237 w95 ho96 hb hg_ hnew_; clear hg_ hnew_; (first | rw [← Ny236.out] at ho96 | (simp only [Int.reduceToNat] at ho96; rw [← Ny236.out] at ho96)); have n0_ := Aside0.mk (Kd.V_lower (Kd.V_mono (ok' := fun k_ => k_ ≠ gb234 ∧ k_ ≠ gb235) ho96 (fun k_ hk_ => ⟨(Kd.freshB (g := gb234) (o := .cells #[.int .i64 a0_0, .string a0_1, .int .i64 a0_2, .bool false] 23 (0, 0)) q19y1 k_ hk_), (Kd.freshB (g := gb235) (o := .cells #[.int .i64 a1_0, .string a1_1, .int .i64 a1_2, .bool a1_3] 23 (0, 0)) q19y2 k_ hk_)⟩)) (below_size q19y0)); have n1_ := Aside0.mk (blk_below (g := gb234) (o := .cells #[.int .i64 a0_0, .string a0_1, .int .i64 a0_2, .bool false] 23 (0, 0)) q19y1 hb); have n2_ := Aside0.mk (blk_below (g := gb235) (o := .cells #[.int .i64 a1_0, .string a1_1, .int .i64 a1_2, .bool a1_3] 23 (0, 0)) q19y2 hb); have n3_ := Aside0.mk (below_step q19y0 hb); clear BK234; clear BK235; clear HB; have HO238 := n0_; have BK234 := n1_; have BK235 := n2_; have HB := n3_; clear n0_ n1_ n2_ n3_; clear hb ho96; have hcz97_0 : w95.cell? ⟨gb235, 0, none⟩ = some (.int .i64 a1_0) := (blk_cell BK235.out 0).trans rfl; have hcz97_1 : w95.cell? ⟨gb235, 1, none⟩ = some (.string a1_1) := (blk_cell BK235.out 1).trans rfl; have hcz97_2 : w95.cell? ⟨gb235, 2, none⟩ = some (.int .i64 a1_2) := (blk_cell BK235.out 2).trans rfl; have hcz97_3 : w95.cell? ⟨gb235, 3, none⟩ = some (.bool a1_3) := (blk_cell BK235.out 3).trans rfl; have hfz97_0 := blk_frozen BK235.out 0; have hfz97_1 := blk_frozen BK235.out 1; have hfz97_2 := blk_frozen BK235.out 2; have hfz97_3 := blk_frozen BK235.out 3) | ((with_reducible refine gate_dst (N := 32) rfl ?_); (first | refine Go.Proofs.YtkeepnmlphbffaaDoor.Conv.V_conv _ 5 rfl (N' := 32) rfl 9 56 _ rfl Tryd.underlying9 Tryd.underlying56 Tryd.underlying5 a1_1 rfl q19y3 (Below.refl _ _) (Nat.le_refl _) ?_ | refine Go.Proofs.YtkeepnmlphbffaaDoor.Conv.V_conv_on _ 5 (by rfl) (N' := 32) rfl 9 56 _ rfl Tryd.underlying9 Tryd.underlying56 Tryd.underlying5 a1_1 rfl q19y3 (Below.refl _ _) (Nat.le_refl _) ?_); intro v240 w98 ho99 hb hg_ hnew_; clear hg_ hnew_; (first | rw [← Ny239.out] at ho99 | (simp only [Int.reduceToNat] at ho99; rw [← Ny239.out] at ho99)); have n0_ := Aside0.mk (Kd.V_below q19y6 hb); have n1_ := Aside0.mk (Kd.V_lower (Kd.V_mono (ok' := fun k_ => k_ ≠ gb234 ∧ k_ ≠ gb235) ho99 (fun k_ hk_ => ⟨(Kd.freshB (g := gb234) (o := .cells #[.int .i64 a0_0, .string a0_1, .int .i64 a0_2, .bool false] 23 (0, 0)) q19y1 k_ hk_), (Kd.freshB (g := gb235) (o := .cells #[.int .i64 a1_0, .string a1_1, .int .i64 a1_2, .bool a1_3] 23 (0, 0)) q19y2 k_ hk_)⟩)) (below_size q19y0)); have n2_ := Aside0.mk (blk_below (g := gb234) (o := .cells #[.int .i64 a0_0, .string a0_1, .int .i64 a0_2, .bool false] 23 (0, 0)) q19y1 hb); have n3_ := Aside0.mk (blk_below (g := gb235) (o := .cells #[.int .i64 a1_0, .string a1_1, .int .i64 a1_2, .bool a1_3] 23 (0, 0)) q19y2 hb); have n4_ := Aside0.mk (below_step q19y0 hb); clear HO238; clear BK234; clear BK235; clear HB; have HO238 := n0_; have HO241 := n1_; have BK234 := n2_; have BK235 := n3_; have HB := n4_; clear n0_ n1_ n2_ n3_ n4_; clear hb ho99; obtain ⟨Ao100, co100, eo100⟩ := Kd.V_slice HO238.out; subst eo100; obtain ⟨Ao101, co101, eo101⟩ := Kd.V_slice HO241.out; subst eo101) | (go_at_call 25; (with_reducible refine (cambiumref01_Less.calls kj2 _ _ y236 _ _ y239 false _ ?side1 ?side2 ?side3 ?side4 A22.out).mono ?_); (case side1 => repeat (first | exact (Kd.V_reads' HO238.out).2.2 | (with_reducible refine Kd.C_alloc ?_ _) | (with_reducible refine Kd.C_drewN ?_ _) | (with_reducible refine Kd.C_drew ?_))); (case side2 => exact (Kd.V_reads' HO238.out).2.1); (case side3 => repeat (first | exact (Kd.V_reads' HO241.out).2.2 | (with_reducible refine Kd.C_alloc ?_ _) | (with_reducible refine Kd.C_drewN ?_ _) | (with_reducible refine Kd.C_drew ?_))); (case side4 => exact (Kd.V_reads' HO241.out).2.1); rintro e w' ⟨rfl, ⟨nd, rfl⟩⟩; have hcz102_0 : w98.cell? ⟨gb234, 0, none⟩ = some (.int .i64 a0_0) := (blk_cell BK234.out 0).trans rfl; have hcz102_1 : w98.cell? ⟨gb234, 1, none⟩ = some (.string a0_1) := (blk_cell BK234.out 1).trans rfl; have hcz102_2 : w98.cell? ⟨gb234, 2, none⟩ = some (.int .i64 a0_2) := (blk_cell BK234.out 2).trans rfl; have hcz102_3 : w98.cell? ⟨gb234, 3, none⟩ = some (.bool false) := (blk_cell BK234.out 3).trans rfl; have hfz102_0 := blk_frozen BK234.out 0; have hfz102_1 := blk_frozen BK234.out 1; have hfz102_2 := blk_frozen BK234.out 2; have hfz102_3 := blk_frozen BK234.out 3; have hcz103_0 : w98.cell? ⟨gb235, 0, none⟩ = some (.int .i64 a1_0) := (blk_cell BK235.out 0).trans rfl; have hcz103_1 : w98.cell? ⟨gb235, 1, none⟩ = some (.string a1_1) := (blk_cell BK235.out 1).trans rfl; have hcz103_2 : w98.cell? ⟨gb235, 2, none⟩ = some (.int .i64 a1_2) := (blk_cell BK235.out 2).trans rfl; have hcz103_3 : w98.cell? ⟨gb235, 3, none⟩ = some (.bool a1_3) := (blk_cell BK235.out 3).trans rfl; have hfz103_0 := blk_frozen BK235.out 0; have hfz103_1 := blk_frozen BK235.out 1; have hfz103_2 := blk_frozen BK235.out 2; have hfz103_3 := blk_frozen BK235.out 3))
     go_meet
     case rel => exact ⟨_, (a1_3), q19y4, H', ⟨by have := HJ2.out; first | omega | exact Nat.le_refl _⟩, ⟨by (with_reducible repeat (first | refine blk_drewN ?_ _ | refine blk_drew ?_ | refine blk_alloc ?_ _)); exact BK234.out⟩, ⟨by (with_reducible repeat (first | refine blk_drewN ?_ _ | refine blk_drew ?_ | refine blk_alloc ?_ _)); exact BK235.out⟩, ⟨by repeat (first | (with_reducible first | exact HB.out | apply below_alloc | apply pw_below_drewN | apply below_drew1 | refine below_set ?_ GE234.out | refine below_set ?_ GE235.out) | exact HB.out)⟩⟩
    rw [if_pos c33] at H
    have c33b0 : (a0_0 == 1) = true := beq_iff_eq.mpr c33
    have c33b1 : (a0_0 != 1) = false := bne_eq_false_iff_eq.mpr c33
    clear c33
    by_cases c34 : a0_2 < a1_2
    ·rw [if_pos c34] at H
     have c34b0 : decide (a0_2 < a1_2) = true := decide_eq_true c34
     clear c34
     have H' := Aside0.mk H
     clear H
     have hnb35 := NB234_235.out
     have hnc35 := NB235_234.out
     have hcz36_0 : wc.cell? ⟨gb234, 0, none⟩ = some (.int .i64 a0_0) := (blk_cell BK234.out 0).trans rfl
     have hcz36_1 : wc.cell? ⟨gb234, 1, none⟩ = some (.string a0_1) := (blk_cell BK234.out 1).trans rfl
     have hcz36_2 : wc.cell? ⟨gb234, 2, none⟩ = some (.int .i64 a0_2) := (blk_cell BK234.out 2).trans rfl
     have hcz36_3 : wc.cell? ⟨gb234, 3, none⟩ = some (.bool a0_3) := (blk_cell BK234.out 3).trans rfl
     have hfz36_0 := blk_frozen BK234.out 0
     have hfz36_1 := blk_frozen BK234.out 1
     have hfz36_2 := blk_frozen BK234.out 2
     have hfz36_3 := blk_frozen BK234.out 3
     go_wp2_with (first | ((with_reducible refine gate_dst (N := 29) rfl ?_); (first | refine Go.Proofs.YtkeepnmlphbffaaDoor.Conv.V_conv _ 5 rfl (N' := 29) rfl 9 56 _ rfl Tryd.underlying9 Tryd.underlying56 Tryd.underlying5 a0_1 rfl q19y3 (Below.refl _ _) (Nat.le_refl _) ?_ | refine Go.Proofs.YtkeepnmlphbffaaDoor.Conv.V_conv_on _ 5 (by rfl) (N' := 29) rfl 9 56 _ rfl Tryd.underlying9 Tryd.underlying56 Tryd.underlying5 a0_1 rfl q19y3 (Below.refl _ _) (Nat.le_refl _) ?_); intro v237 w37 ho38 hb hg_ hnew_; clear hg_ hnew_; (first | rw [← Ny236.out] at ho38 | (simp only [Int.reduceToNat] at ho38; rw [← Ny236.out] at ho38)); have n0_ := Aside0.mk (Kd.V_lower (Kd.V_mono (ok' := fun k_ => k_ ≠ gb234 ∧ k_ ≠ gb235) ho38 (fun k_ hk_ => ⟨(Kd.freshB (g := gb234) (o := .cells #[.int .i64 a0_0, .string a0_1, .int .i64 a0_2, .bool a0_3] 23 (0, 0)) q19y1 k_ hk_), (Kd.freshB (g := gb235) (o := .cells #[.int .i64 a1_0, .string a1_1, .int .i64 a1_2, .bool a1_3] 23 (0, 0)) q19y2 k_ hk_)⟩)) (below_size q19y0)); have n1_ := Aside0.mk (blk_below (g := gb234) (o := .cells #[.int .i64 a0_0, .string a0_1, .int .i64 a0_2, .bool a0_3] 23 (0, 0)) q19y1 hb); have n2_ := Aside0.mk (blk_below (g := gb235) (o := .cells #[.int .i64 a1_0, .string a1_1, .int .i64 a1_2, .bool a1_3] 23 (0, 0)) q19y2 hb); have n3_ := Aside0.mk (below_step q19y0 hb); clear BK234; clear BK235; clear HB; have HO238 := n0_; have BK234 := n1_; have BK235 := n2_; have HB := n3_; clear n0_ n1_ n2_ n3_; clear hb ho38; have hcz39_0 : w37.cell? ⟨gb235, 0, none⟩ = some (.int .i64 a1_0) := (blk_cell BK235.out 0).trans rfl; have hcz39_1 : w37.cell? ⟨gb235, 1, none⟩ = some (.string a1_1) := (blk_cell BK235.out 1).trans rfl; have hcz39_2 : w37.cell? ⟨gb235, 2, none⟩ = some (.int .i64 a1_2) := (blk_cell BK235.out 2).trans rfl; have hcz39_3 : w37.cell? ⟨gb235, 3, none⟩ = some (.bool a1_3) := (blk_cell BK235.out 3).trans rfl; have hfz39_0 := blk_frozen BK235.out 0; have hfz39_1 := blk_frozen BK235.out 1; have hfz39_2 := blk_frozen BK235.out 2; have hfz39_3 := blk_frozen BK235.out 3) | ((with_reducible refine gate_dst (N := 32) rfl ?_); (first | refine Go.Proofs.YtkeepnmlphbffaaDoor.Conv.V_conv _ 5 rfl (N' := 32) rfl 9 56 _ rfl Tryd.underlying9 Tryd.underlying56 Tryd.underlying5 a1_1 rfl q19y3 (Below.refl _ _) (Nat.le_refl _) ?_ | refine Go.Proofs.YtkeepnmlphbffaaDoor.Conv.V_conv_on _ 5 (by rfl) (N' := 32) rfl 9 56 _ rfl Tryd.underlying9 Tryd.underlying56 Tryd.underlying5 a1_1 rfl q19y3 (Below.refl _ _) (Nat.le_refl _) ?_); intro v240 w40 ho41 hb hg_ hnew_; clear hg_ hnew_; (first | rw [← Ny239.out] at ho41 | (simp only [Int.reduceToNat] at ho41; rw [← Ny239.out] at ho41)); have n0_ := Aside0.mk (Kd.V_below q19y6 hb); have n1_ := Aside0.mk (Kd.V_lower (Kd.V_mono (ok' := fun k_ => k_ ≠ gb234 ∧ k_ ≠ gb235) ho41 (fun k_ hk_ => ⟨(Kd.freshB (g := gb234) (o := .cells #[.int .i64 a0_0, .string a0_1, .int .i64 a0_2, .bool a0_3] 23 (0, 0)) q19y1 k_ hk_), (Kd.freshB (g := gb235) (o := .cells #[.int .i64 a1_0, .string a1_1, .int .i64 a1_2, .bool a1_3] 23 (0, 0)) q19y2 k_ hk_)⟩)) (below_size q19y0)); have n2_ := Aside0.mk (blk_below (g := gb234) (o := .cells #[.int .i64 a0_0, .string a0_1, .int .i64 a0_2, .bool a0_3] 23 (0, 0)) q19y1 hb); have n3_ := Aside0.mk (blk_below (g := gb235) (o := .cells #[.int .i64 a1_0, .string a1_1, .int .i64 a1_2, .bool a1_3] 23 (0, 0)) q19y2 hb); have n4_ := Aside0.mk (below_step q19y0 hb); clear HO238; clear BK234; clear BK235; clear HB; have HO238 := n0_; have HO241 := n1_; have BK234 := n2_; have BK235 := n3_; have HB := n4_; clear n0_ n1_ n2_ n3_ n4_; clear hb ho41; obtain ⟨Ao42, co42, eo42⟩ := Kd.V_slice HO238.out; subst eo42; obtain ⟨Ao43, co43, eo43⟩ := Kd.V_slice HO241.out; subst eo43) | (go_at_call 25; (with_reducible refine (cambiumref01_Less.calls kj2 _ _ y236 _ _ y239 false _ ?side1 ?side2 ?side3 ?side4 A22.out).mono ?_); (case side1 => repeat (first | exact (Kd.V_reads' HO238.out).2.2 | (with_reducible refine Kd.C_alloc ?_ _) | (with_reducible refine Kd.C_drewN ?_ _) | (with_reducible refine Kd.C_drew ?_))); (case side2 => exact (Kd.V_reads' HO238.out).2.1); (case side3 => repeat (first | exact (Kd.V_reads' HO241.out).2.2 | (with_reducible refine Kd.C_alloc ?_ _) | (with_reducible refine Kd.C_drewN ?_ _) | (with_reducible refine Kd.C_drew ?_))); (case side4 => exact (Kd.V_reads' HO241.out).2.1); rintro e w' ⟨rfl, ⟨nd, rfl⟩⟩; have hcz44_0 : w40.cell? ⟨gb234, 0, none⟩ = some (.int .i64 a0_0) := (blk_cell BK234.out 0).trans rfl; have hcz44_1 : w40.cell? ⟨gb234, 1, none⟩ = some (.string a0_1) := (blk_cell BK234.out 1).trans rfl; have hcz44_2 : w40.cell? ⟨gb234, 2, none⟩ = some (.int .i64 a0_2) := (blk_cell BK234.out 2).trans rfl; have hcz44_3 : w40.cell? ⟨gb234, 3, none⟩ = some (.bool a0_3) := (blk_cell BK234.out 3).trans rfl; have hfz44_0 := blk_frozen BK234.out 0; have hfz44_1 := blk_frozen BK234.out 1; have hfz44_2 := blk_frozen BK234.out 2; have hfz44_3 := blk_frozen BK234.out 3; have hcz45_0 : w40.cell? ⟨gb235, 0, none⟩ = some (.int .i64 a1_0) := (blk_cell BK235.out 0).trans rfl; have hcz45_1 : w40.cell? ⟨gb235, 1, none⟩ = some (.string a1_1) := (blk_cell BK235.out 1).trans rfl; have hcz45_2 : w40.cell? ⟨gb235, 2, none⟩ = some (.int .i64 a1_2) := (blk_cell BK235.out 2).trans rfl; have hcz45_3 : w40.cell? ⟨gb235, 3, none⟩ = some (.bool a1_3) := (blk_cell BK235.out 3).trans rfl; have hfz45_0 := blk_frozen BK235.out 0; have hfz45_1 := blk_frozen BK235.out 1; have hfz45_2 := blk_frozen BK235.out 2; have hfz45_3 := blk_frozen BK235.out 3))
     go_meet
     case rel => exact ⟨_, (true), q19y4, H', ⟨by have := HJ2.out; first | omega | exact Nat.le_refl _⟩, ⟨by (with_reducible repeat (first | refine blk_drewN ?_ _ | refine blk_drew ?_ | refine blk_alloc ?_ _)); exact BK234.out⟩, ⟨by (with_reducible repeat (first | refine blk_drewN ?_ _ | refine blk_drew ?_ | refine blk_alloc ?_ _)); exact BK235.out⟩, ⟨by repeat (first | (with_reducible first | exact HB.out | apply below_alloc | apply pw_below_drewN | apply below_drew1 | refine below_set ?_ GE234.out | refine below_set ?_ GE235.out) | exact HB.out)⟩⟩
    rw [if_neg c34] at H
    have c34b0 : decide (a0_2 < a1_2) = false := decide_eq_false c34
    clear c34
    by_cases c46 : a0_0 = 2
    rotate_left
    ·rw [if_neg c46] at H
     have c46b0 : (a0_0 == 2) = false := beq_eq_false_iff_ne.mpr c46
     have c46b1 : (a0_0 != 2) = true := bne_iff_ne.mpr c46
     have H' := Aside0.mk H
     clear H
     have hnb70 := NB234_235.out
     have hnc70 := NB235_234.out
     have hcz71_0 : wc.cell? ⟨gb234, 0, none⟩ = some (.int .i64 a0_0) := (blk_cell BK234.out 0).trans rfl
     have hcz71_1 : wc.cell? ⟨gb234, 1, none⟩ = some (.string a0_1) := (blk_cell BK234.out 1).trans rfl
     have hcz71_2 : wc.cell? ⟨gb234, 2, none⟩ = some (.int .i64 a0_2) := (blk_cell BK234.out 2).trans rfl
     have hcz71_3 : wc.cell? ⟨gb234, 3, none⟩ = some (.bool a0_3) := (blk_cell BK234.out 3).trans rfl
     have hfz71_0 := blk_frozen BK234.out 0
     have hfz71_1 := blk_frozen BK234.out 1
     have hfz71_2 := blk_frozen BK234.out 2
     have hfz71_3 := blk_frozen BK234.out 3
     go_wp2_with (first | ((with_reducible refine gate_dst (N := 29) rfl ?_); (first | refine Go.Proofs.YtkeepnmlphbffaaDoor.Conv.V_conv _ 5 rfl (N' := 29) rfl 9 56 _ rfl Tryd.underlying9 Tryd.underlying56 Tryd.underlying5 a0_1 rfl q19y3 (Below.refl _ _) (Nat.le_refl _) ?_ | refine Go.Proofs.YtkeepnmlphbffaaDoor.Conv.V_conv_on _ 5 (by rfl) (N' := 29) rfl 9 56 _ rfl Tryd.underlying9 Tryd.underlying56 Tryd.underlying5 a0_1 rfl q19y3 (Below.refl _ _) (Nat.le_refl _) ?_); intro v237 w72 ho73 hb hg_ hnew_; clear hg_ hnew_; (first | rw [← Ny236.out] at ho73 | (simp only [Int.reduceToNat] at ho73; rw [← Ny236.out] at ho73)); have n0_ := Aside0.mk (Kd.V_lower (Kd.V_mono (ok' := fun k_ => k_ ≠ gb234 ∧ k_ ≠ gb235) ho73 (fun k_ hk_ => ⟨(Kd.freshB (g := gb234) (o := .cells #[.int .i64 a0_0, .string a0_1, .int .i64 a0_2, .bool a0_3] 23 (0, 0)) q19y1 k_ hk_), (Kd.freshB (g := gb235) (o := .cells #[.int .i64 a1_0, .string a1_1, .int .i64 a1_2, .bool a1_3] 23 (0, 0)) q19y2 k_ hk_)⟩)) (below_size q19y0)); have n1_ := Aside0.mk (blk_below (g := gb234) (o := .cells #[.int .i64 a0_0, .string a0_1, .int .i64 a0_2, .bool a0_3] 23 (0, 0)) q19y1 hb); have n2_ := Aside0.mk (blk_below (g := gb235) (o := .cells #[.int .i64 a1_0, .string a1_1, .int .i64 a1_2, .bool a1_3] 23 (0, 0)) q19y2 hb); have n3_ := Aside0.mk (below_step q19y0 hb); clear BK234; clear BK235; clear HB; have HO238 := n0_; have BK234 := n1_; have BK235 := n2_; have HB := n3_; clear n0_ n1_ n2_ n3_; clear hb ho73; have hcz74_0 : w72.cell? ⟨gb235, 0, none⟩ = some (.int .i64 a1_0) := (blk_cell BK235.out 0).trans rfl; have hcz74_1 : w72.cell? ⟨gb235, 1, none⟩ = some (.string a1_1) := (blk_cell BK235.out 1).trans rfl; have hcz74_2 : w72.cell? ⟨gb235, 2, none⟩ = some (.int .i64 a1_2) := (blk_cell BK235.out 2).trans rfl; have hcz74_3 : w72.cell? ⟨gb235, 3, none⟩ = some (.bool a1_3) := (blk_cell BK235.out 3).trans rfl; have hfz74_0 := blk_frozen BK235.out 0; have hfz74_1 := blk_frozen BK235.out 1; have hfz74_2 := blk_frozen BK235.out 2; have hfz74_3 := blk_frozen BK235.out 3) | ((with_reducible refine gate_dst (N := 32) rfl ?_); (first | refine Go.Proofs.YtkeepnmlphbffaaDoor.Conv.V_conv _ 5 rfl (N' := 32) rfl 9 56 _ rfl Tryd.underlying9 Tryd.underlying56 Tryd.underlying5 a1_1 rfl q19y3 (Below.refl _ _) (Nat.le_refl _) ?_ | refine Go.Proofs.YtkeepnmlphbffaaDoor.Conv.V_conv_on _ 5 (by rfl) (N' := 32) rfl 9 56 _ rfl Tryd.underlying9 Tryd.underlying56 Tryd.underlying5 a1_1 rfl q19y3 (Below.refl _ _) (Nat.le_refl _) ?_); intro v240 w75 ho76 hb hg_ hnew_; clear hg_ hnew_; (first | rw [← Ny239.out] at ho76 | (simp only [Int.reduceToNat] at ho76; rw [← Ny239.out] at ho76)); have n0_ := Aside0.mk (Kd.V_below q19y6 hb); have n1_ := Aside0.mk (Kd.V_lower (Kd.V_mono (ok' := fun k_ => k_ ≠ gb234 ∧ k_ ≠ gb235) ho76 (fun k_ hk_ => ⟨(Kd.freshB (g := gb234) (o := .cells #[.int .i64 a0_0, .string a0_1, .int .i64 a0_2, .bool a0_3] 23 (0, 0)) q19y1 k_ hk_), (Kd.freshB (g := gb235) (o := .cells #[.int .i64 a1_0, .string a1_1, .int .i64 a1_2, .bool a1_3] 23 (0, 0)) q19y2 k_ hk_)⟩)) (below_size q19y0)); have n2_ := Aside0.mk (blk_below (g := gb234) (o := .cells #[.int .i64 a0_0, .string a0_1, .int .i64 a0_2, .bool a0_3] 23 (0, 0)) q19y1 hb); have n3_ := Aside0.mk (blk_below (g := gb235) (o := .cells #[.int .i64 a1_0, .string a1_1, .int .i64 a1_2, .bool a1_3] 23 (0, 0)) q19y2 hb); have n4_ := Aside0.mk (below_step q19y0 hb); clear HO238; clear BK234; clear BK235; clear HB; have HO238 := n0_; have HO241 := n1_; have BK234 := n2_; have BK235 := n3_; have HB := n4_; clear n0_ n1_ n2_ n3_ n4_; clear hb ho76; obtain ⟨Ao77, co77, eo77⟩ := Kd.V_slice HO238.out; subst eo77; obtain ⟨Ao78, co78, eo78⟩ := Kd.V_slice HO241.out; subst eo78) | (go_at_call 25; (with_reducible refine (cambiumref01_Less.calls kj2 _ _ y236 _ _ y239 false _ ?side1 ?side2 ?side3 ?side4 A22.out).mono ?_); (case side1 => repeat (first | exact (Kd.V_reads' HO238.out).2.2 | (with_reducible refine Kd.C_alloc ?_ _) | (with_reducible refine Kd.C_drewN ?_ _) | (with_reducible refine Kd.C_drew ?_))); (case side2 => exact (Kd.V_reads' HO238.out).2.1); (case side3 => repeat (first | exact (Kd.V_reads' HO241.out).2.2 | (with_reducible refine Kd.C_alloc ?_ _) | (with_reducible refine Kd.C_drewN ?_ _) | (with_reducible refine Kd.C_drew ?_))); (case side4 => exact (Kd.V_reads' HO241.out).2.1); rintro e w' ⟨rfl, ⟨nd, rfl⟩⟩; have hcz79_0 : w75.cell? ⟨gb234, 0, none⟩ = some (.int .i64 a0_0) := (blk_cell BK234.out 0).trans rfl; have hcz79_1 : w75.cell? ⟨gb234, 1, none⟩ = some (.string a0_1) := (blk_cell BK234.out 1).trans rfl; have hcz79_2 : w75.cell? ⟨gb234, 2, none⟩ = some (.int .i64 a0_2) := (blk_cell BK234.out 2).trans rfl; have hcz79_3 : w75.cell? ⟨gb234, 3, none⟩ = some (.bool a0_3) := (blk_cell BK234.out 3).trans rfl; have hfz79_0 := blk_frozen BK234.out 0; have hfz79_1 := blk_frozen BK234.out 1; have hfz79_2 := blk_frozen BK234.out 2; have hfz79_3 := blk_frozen BK234.out 3; have hcz80_0 : w75.cell? ⟨gb235, 0, none⟩ = some (.int .i64 a1_0) := (blk_cell BK235.out 0).trans rfl; have hcz80_1 : w75.cell? ⟨gb235, 1, none⟩ = some (.string a1_1) := (blk_cell BK235.out 1).trans rfl; have hcz80_2 : w75.cell? ⟨gb235, 2, none⟩ = some (.int .i64 a1_2) := (blk_cell BK235.out 2).trans rfl; have hcz80_3 : w75.cell? ⟨gb235, 3, none⟩ = some (.bool a1_3) := (blk_cell BK235.out 3).trans rfl; have hfz80_0 := blk_frozen BK235.out 0; have hfz80_1 := blk_frozen BK235.out 1; have hfz80_2 := blk_frozen BK235.out 2; have hfz80_3 := blk_frozen BK235.out 3))
     go_meet
     case rel => exact ⟨_, (false), q19y4, H', ⟨by have := HJ2.out; first | omega | exact Nat.le_refl _⟩, ⟨by (with_reducible repeat (first | refine blk_drewN ?_ _ | refine blk_drew ?_ | refine blk_alloc ?_ _)); exact BK234.out⟩, ⟨by (with_reducible repeat (first | refine blk_drewN ?_ _ | refine blk_drew ?_ | refine blk_alloc ?_ _)); exact BK235.out⟩, ⟨by repeat (first | (with_reducible first | exact HB.out | apply below_alloc | apply pw_below_drewN | apply below_drew1 | refine below_set ?_ GE234.out | refine below_set ?_ GE235.out) | exact HB.out)⟩⟩
    rw [if_pos c46] at H
    have c46b0 : (a0_0 == 2) = true := beq_iff_eq.mpr c46
    have c46b1 : (a0_0 != 2) = false := bne_eq_false_iff_eq.mpr c46
    clear c46
    by_cases c47 : a0_3 = true
    ·subst c47
     have H1 : (cambiumref16_Compare.j1 kj2 false a0_0 a0_1 a0_2 true a1_0 a1_1 a1_2 a1_3) = some (r1, r2) := by rw [if_pos rfl] at H; exact H
     clear H
     have H := H1
     clear H1
     have H' := Aside0.mk H
     clear H
     have hnb48 := NB234_235.out
     have hnc48 := NB235_234.out
     have hcz49_0 : wc.cell? ⟨gb234, 0, none⟩ = some (.int .i64 a0_0) := (blk_cell BK234.out 0).trans rfl
     have hcz49_1 : wc.cell? ⟨gb234, 1, none⟩ = some (.string a0_1) := (blk_cell BK234.out 1).trans rfl
     have hcz49_2 : wc.cell? ⟨gb234, 2, none⟩ = some (.int .i64 a0_2) := (blk_cell BK234.out 2).trans rfl
     have hcz49_3 : wc.cell? ⟨gb234, 3, none⟩ = some (.bool true) := (blk_cell BK234.out 3).trans rfl
     have hfz49_0 := blk_frozen BK234.out 0
     have hfz49_1 := blk_frozen BK234.out 1
     have hfz49_2 := blk_frozen BK234.out 2
     have hfz49_3 := blk_frozen BK234.out 3
     go_wp2_with (first | ((with_reducible refine gate_dst (N := 29) rfl ?_); (first | refine Go.Proofs.YtkeepnmlphbffaaDoor.Conv.V_conv _ 5 rfl (N' := 29) rfl 9 56 _ rfl Tryd.underlying9 Tryd.underlying56 Tryd.underlying5 a0_1 rfl q19y3 (Below.refl _ _) (Nat.le_refl _) ?_ | refine Go.Proofs.YtkeepnmlphbffaaDoor.Conv.V_conv_on _ 5 (by rfl) (N' := 29) rfl 9 56 _ rfl Tryd.underlying9 Tryd.underlying56 Tryd.underlying5 a0_1 rfl q19y3 (Below.refl _ _) (Nat.le_refl _) ?_); intro v237 w50 ho51 hb hg_ hnew_; clear hg_ hnew_; (first | rw [← Ny236.out] at ho51 | (simp only [Int.reduceToNat] at ho51; rw [← Ny236.out] at ho51)); have n0_ := Aside0.mk (Kd.V_lower (Kd.V_mono (ok' := fun k_ => k_ ≠ gb234 ∧ k_ ≠ gb235) ho51 (fun k_ hk_ => ⟨(Kd.freshB (g := gb234) (o := .cells #[.int .i64 a0_0, .string a0_1, .int .i64 a0_2, .bool true] 23 (0, 0)) q19y1 k_ hk_), (Kd.freshB (g := gb235) (o := .cells #[.int .i64 a1_0, .string a1_1, .int .i64 a1_2, .bool a1_3] 23 (0, 0)) q19y2 k_ hk_)⟩)) (below_size q19y0)); have n1_ := Aside0.mk (blk_below (g := gb234) (o := .cells #[.int .i64 a0_0, .string a0_1, .int .i64 a0_2, .bool true] 23 (0, 0)) q19y1 hb); have n2_ := Aside0.mk (blk_below (g := gb235) (o := .cells #[.int .i64 a1_0, .string a1_1, .int .i64 a1_2, .bool a1_3] 23 (0, 0)) q19y2 hb); have n3_ := Aside0.mk (below_step q19y0 hb); clear BK234; clear BK235; clear HB; have HO238 := n0_; have BK234 := n1_; have BK235 := n2_; have HB := n3_; clear n0_ n1_ n2_ n3_; clear hb ho51; have hcz52_0 : w50.cell? ⟨gb235, 0, none⟩ = some (.int .i64 a1_0) := (blk_cell BK235.out 0).trans rfl; have hcz52_1 : w50.cell? ⟨gb235, 1, none⟩ = some (.string a1_1) := (blk_cell BK235.out 1).trans rfl; have hcz52_2 : w50.cell? ⟨gb235, 2, none⟩ = some (.int .i64 a1_2) := (blk_cell BK235.out 2).trans rfl; have hcz52_3 : w50.cell? ⟨gb235, 3, none⟩ = some (.bool a1_3) := (blk_cell BK235.out 3).trans rfl; have hfz52_0 := blk_frozen BK235.out 0; have hfz52_1 := blk_frozen BK235.out 1; have hfz52_2 := blk_frozen BK235.out 2; have hfz52_3 := blk_frozen BK235.out 3) | ((with_reducible refine gate_dst (N := 32) rfl ?_); (first | refine Go.Proofs.YtkeepnmlphbffaaDoor.Conv.V_conv _ 5 rfl (N' := 32) rfl 9 56 _ rfl Tryd.underlying9 Tryd.underlying56 Tryd.underlying5 a1_1 rfl q19y3 (Below.refl _ _) (Nat.le_refl _) ?_ | refine Go.Proofs.YtkeepnmlphbffaaDoor.Conv.V_conv_on _ 5 (by rfl) (N' := 32) rfl 9 56 _ rfl Tryd.underlying9 Tryd.underlying56 Tryd.underlying5 a1_1 rfl q19y3 (Below.refl _ _) (Nat.le_refl _) ?_); intro v240 w53 ho54 hb hg_ hnew_; clear hg_ hnew_; (first | rw [← Ny239.out] at ho54 | (simp only [Int.reduceToNat] at ho54; rw [← Ny239.out] at ho54)); have n0_ := Aside0.mk (Kd.V_below q19y6 hb); have n1_ := Aside0.mk (Kd.V_lower (Kd.V_mono (ok' := fun k_ => k_ ≠ gb234 ∧ k_ ≠ gb235) ho54 (fun k_ hk_ => ⟨(Kd.freshB (g := gb234) (o := .cells #[.int .i64 a0_0, .string a0_1, .int .i64 a0_2, .bool true] 23 (0, 0)) q19y1 k_ hk_), (Kd.freshB (g := gb235) (o := .cells #[.int .i64 a1_0, .string a1_1, .int .i64 a1_2, .bool a1_3] 23 (0, 0)) q19y2 k_ hk_)⟩)) (below_size q19y0)); have n2_ := Aside0.mk (blk_below (g := gb234) (o := .cells #[.int .i64 a0_0, .string a0_1, .int .i64 a0_2, .bool true] 23 (0, 0)) q19y1 hb); have n3_ := Aside0.mk (blk_below (g := gb235) (o := .cells #[.int .i64 a1_0, .string a1_1, .int .i64 a1_2, .bool a1_3] 23 (0, 0)) q19y2 hb); have n4_ := Aside0.mk (below_step q19y0 hb); clear HO238; clear BK234; clear BK235; clear HB; have HO238 := n0_; have HO241 := n1_; have BK234 := n2_; have BK235 := n3_; have HB := n4_; clear n0_ n1_ n2_ n3_ n4_; clear hb ho54; obtain ⟨Ao55, co55, eo55⟩ := Kd.V_slice HO238.out; subst eo55; obtain ⟨Ao56, co56, eo56⟩ := Kd.V_slice HO241.out; subst eo56) | (go_at_call 25; (with_reducible refine (cambiumref01_Less.calls kj2 _ _ y236 _ _ y239 false _ ?side1 ?side2 ?side3 ?side4 A22.out).mono ?_); (case side1 => repeat (first | exact (Kd.V_reads' HO238.out).2.2 | (with_reducible refine Kd.C_alloc ?_ _) | (with_reducible refine Kd.C_drewN ?_ _) | (with_reducible refine Kd.C_drew ?_))); (case side2 => exact (Kd.V_reads' HO238.out).2.1); (case side3 => repeat (first | exact (Kd.V_reads' HO241.out).2.2 | (with_reducible refine Kd.C_alloc ?_ _) | (with_reducible refine Kd.C_drewN ?_ _) | (with_reducible refine Kd.C_drew ?_))); (case side4 => exact (Kd.V_reads' HO241.out).2.1); rintro e w' ⟨rfl, ⟨nd, rfl⟩⟩; have hcz57_0 : w53.cell? ⟨gb234, 0, none⟩ = some (.int .i64 a0_0) := (blk_cell BK234.out 0).trans rfl; have hcz57_1 : w53.cell? ⟨gb234, 1, none⟩ = some (.string a0_1) := (blk_cell BK234.out 1).trans rfl; have hcz57_2 : w53.cell? ⟨gb234, 2, none⟩ = some (.int .i64 a0_2) := (blk_cell BK234.out 2).trans rfl; have hcz57_3 : w53.cell? ⟨gb234, 3, none⟩ = some (.bool true) := (blk_cell BK234.out 3).trans rfl; have hfz57_0 := blk_frozen BK234.out 0; have hfz57_1 := blk_frozen BK234.out 1; have hfz57_2 := blk_frozen BK234.out 2; have hfz57_3 := blk_frozen BK234.out 3; have hcz58_0 : w53.cell? ⟨gb235, 0, none⟩ = some (.int .i64 a1_0) := (blk_cell BK235.out 0).trans rfl; have hcz58_1 : w53.cell? ⟨gb235, 1, none⟩ = some (.string a1_1) := (blk_cell BK235.out 1).trans rfl; have hcz58_2 : w53.cell? ⟨gb235, 2, none⟩ = some (.int .i64 a1_2) := (blk_cell BK235.out 2).trans rfl; have hcz58_3 : w53.cell? ⟨gb235, 3, none⟩ = some (.bool a1_3) := (blk_cell BK235.out 3).trans rfl; have hfz58_0 := blk_frozen BK235.out 0; have hfz58_1 := blk_frozen BK235.out 1; have hfz58_2 := blk_frozen BK235.out 2; have hfz58_3 := blk_frozen BK235.out 3))
     go_meet
     case rel => exact ⟨_, (false), q19y4, H', ⟨by have := HJ2.out; first | omega | exact Nat.le_refl _⟩, ⟨by (with_reducible repeat (first | refine blk_drewN ?_ _ | refine blk_drew ?_ | refine blk_alloc ?_ _)); exact BK234.out⟩, ⟨by (with_reducible repeat (first | refine blk_drewN ?_ _ | refine blk_drew ?_ | refine blk_alloc ?_ _)); exact BK235.out⟩, ⟨by repeat (first | (with_reducible first | exact HB.out | apply below_alloc | apply pw_below_drewN | apply below_drew1 | refine below_set ?_ GE234.out | refine below_set ?_ GE235.out) | exact HB.out)⟩⟩
    replace c47 := Bool.eq_false_iff.mpr c47
    subst c47
    have H1 : (cambiumref16_Compare.j1 kj2 a1_3 a0_0 a0_1 a0_2 false a1_0 a1_1 a1_2 a1_3) = some (r1, r2) := by rw [if_neg (show ¬ (false = true) by decide)] at H; exact H
    clear H
    have H := H1
    clear H1
    have H' := Aside0.mk H
    clear H
    have hnb59 := NB234_235.out
    have hnc59 := NB235_234.out
    have hcz60_0 : wc.cell? ⟨gb234, 0, none⟩ = some (.int .i64 a0_0) := (blk_cell BK234.out 0).trans rfl
    have hcz60_1 : wc.cell? ⟨gb234, 1, none⟩ = some (.string a0_1) := (blk_cell BK234.out 1).trans rfl
    have hcz60_2 : wc.cell? ⟨gb234, 2, none⟩ = some (.int .i64 a0_2) := (blk_cell BK234.out 2).trans rfl
    have hcz60_3 : wc.cell? ⟨gb234, 3, none⟩ = some (.bool false) := (blk_cell BK234.out 3).trans rfl
    have hfz60_0 := blk_frozen BK234.out 0
    have hfz60_1 := blk_frozen BK234.out 1
    have hfz60_2 := blk_frozen BK234.out 2
    have hfz60_3 := blk_frozen BK234.out 3
    go_wp2_with (first | ((with_reducible refine gate_dst (N := 29) rfl ?_); (first | refine Go.Proofs.YtkeepnmlphbffaaDoor.Conv.V_conv _ 5 rfl (N' := 29) rfl 9 56 _ rfl Tryd.underlying9 Tryd.underlying56 Tryd.underlying5 a0_1 rfl q19y3 (Below.refl _ _) (Nat.le_refl _) ?_ | refine Go.Proofs.YtkeepnmlphbffaaDoor.Conv.V_conv_on _ 5 (by rfl) (N' := 29) rfl 9 56 _ rfl Tryd.underlying9 Tryd.underlying56 Tryd.underlying5 a0_1 rfl q19y3 (Below.refl _ _) (Nat.le_refl _) ?_); intro v237 w61 ho62 hb hg_ hnew_; clear hg_ hnew_; (first | rw [← Ny236.out] at ho62 | (simp only [Int.reduceToNat] at ho62; rw [← Ny236.out] at ho62)); have n0_ := Aside0.mk (Kd.V_lower (Kd.V_mono (ok' := fun k_ => k_ ≠ gb234 ∧ k_ ≠ gb235) ho62 (fun k_ hk_ => ⟨(Kd.freshB (g := gb234) (o := .cells #[.int .i64 a0_0, .string a0_1, .int .i64 a0_2, .bool false] 23 (0, 0)) q19y1 k_ hk_), (Kd.freshB (g := gb235) (o := .cells #[.int .i64 a1_0, .string a1_1, .int .i64 a1_2, .bool a1_3] 23 (0, 0)) q19y2 k_ hk_)⟩)) (below_size q19y0)); have n1_ := Aside0.mk (blk_below (g := gb234) (o := .cells #[.int .i64 a0_0, .string a0_1, .int .i64 a0_2, .bool false] 23 (0, 0)) q19y1 hb); have n2_ := Aside0.mk (blk_below (g := gb235) (o := .cells #[.int .i64 a1_0, .string a1_1, .int .i64 a1_2, .bool a1_3] 23 (0, 0)) q19y2 hb); have n3_ := Aside0.mk (below_step q19y0 hb); clear BK234; clear BK235; clear HB; have HO238 := n0_; have BK234 := n1_; have BK235 := n2_; have HB := n3_; clear n0_ n1_ n2_ n3_; clear hb ho62; have hcz63_0 : w61.cell? ⟨gb235, 0, none⟩ = some (.int .i64 a1_0) := (blk_cell BK235.out 0).trans rfl; have hcz63_1 : w61.cell? ⟨gb235, 1, none⟩ = some (.string a1_1) := (blk_cell BK235.out 1).trans rfl; have hcz63_2 : w61.cell? ⟨gb235, 2, none⟩ = some (.int .i64 a1_2) := (blk_cell BK235.out 2).trans rfl; have hcz63_3 : w61.cell? ⟨gb235, 3, none⟩ = some (.bool a1_3) := (blk_cell BK235.out 3).trans rfl; have hfz63_0 := blk_frozen BK235.out 0; have hfz63_1 := blk_frozen BK235.out 1; have hfz63_2 := blk_frozen BK235.out 2; have hfz63_3 := blk_frozen BK235.out 3) | ((with_reducible refine gate_dst (N := 32) rfl ?_); (first | refine Go.Proofs.YtkeepnmlphbffaaDoor.Conv.V_conv _ 5 rfl (N' := 32) rfl 9 56 _ rfl Tryd.underlying9 Tryd.underlying56 Tryd.underlying5 a1_1 rfl q19y3 (Below.refl _ _) (Nat.le_refl _) ?_ | refine Go.Proofs.YtkeepnmlphbffaaDoor.Conv.V_conv_on _ 5 (by rfl) (N' := 32) rfl 9 56 _ rfl Tryd.underlying9 Tryd.underlying56 Tryd.underlying5 a1_1 rfl q19y3 (Below.refl _ _) (Nat.le_refl _) ?_); intro v240 w64 ho65 hb hg_ hnew_; clear hg_ hnew_; (first | rw [← Ny239.out] at ho65 | (simp only [Int.reduceToNat] at ho65; rw [← Ny239.out] at ho65)); have n0_ := Aside0.mk (Kd.V_below q19y6 hb); have n1_ := Aside0.mk (Kd.V_lower (Kd.V_mono (ok' := fun k_ => k_ ≠ gb234 ∧ k_ ≠ gb235) ho65 (fun k_ hk_ => ⟨(Kd.freshB (g := gb234) (o := .cells #[.int .i64 a0_0, .string a0_1, .int .i64 a0_2, .bool false] 23 (0, 0)) q19y1 k_ hk_), (Kd.freshB (g := gb235) (o := .cells #[.int .i64 a1_0, .string a1_1, .int .i64 a1_2, .bool a1_3] 23 (0, 0)) q19y2 k_ hk_)⟩)) (below_size q19y0)); have n2_ := Aside0.mk (blk_below (g := gb234) (o := .cells #[.int .i64 a0_0, .string a0_1, .int .i64 a0_2, .bool false] 23 (0, 0)) q19y1 hb); have n3_ := Aside0.mk (blk_below (g := gb235) (o := .cells #[.int .i64 a1_0, .string a1_1, .int .i64 a1_2, .bool a1_3] 23 (0, 0)) q19y2 hb); have n4_ := Aside0.mk (below_step q19y0 hb); clear HO238; clear BK234; clear BK235; clear HB; have HO238 := n0_; have HO241 := n1_; have BK234 := n2_; have BK235 := n3_; have HB := n4_; clear n0_ n1_ n2_ n3_ n4_; clear hb ho65; obtain ⟨Ao66, co66, eo66⟩ := Kd.V_slice HO238.out; subst eo66; obtain ⟨Ao67, co67, eo67⟩ := Kd.V_slice HO241.out; subst eo67) | (go_at_call 25; (with_reducible refine (cambiumref01_Less.calls kj2 _ _ y236 _ _ y239 false _ ?side1 ?side2 ?side3 ?side4 A22.out).mono ?_); (case side1 => repeat (first | exact (Kd.V_reads' HO238.out).2.2 | (with_reducible refine Kd.C_alloc ?_ _) | (with_reducible refine Kd.C_drewN ?_ _) | (with_reducible refine Kd.C_drew ?_))); (case side2 => exact (Kd.V_reads' HO238.out).2.1); (case side3 => repeat (first | exact (Kd.V_reads' HO241.out).2.2 | (with_reducible refine Kd.C_alloc ?_ _) | (with_reducible refine Kd.C_drewN ?_ _) | (with_reducible refine Kd.C_drew ?_))); (case side4 => exact (Kd.V_reads' HO241.out).2.1); rintro e w' ⟨rfl, ⟨nd, rfl⟩⟩; have hcz68_0 : w64.cell? ⟨gb234, 0, none⟩ = some (.int .i64 a0_0) := (blk_cell BK234.out 0).trans rfl; have hcz68_1 : w64.cell? ⟨gb234, 1, none⟩ = some (.string a0_1) := (blk_cell BK234.out 1).trans rfl; have hcz68_2 : w64.cell? ⟨gb234, 2, none⟩ = some (.int .i64 a0_2) := (blk_cell BK234.out 2).trans rfl; have hcz68_3 : w64.cell? ⟨gb234, 3, none⟩ = some (.bool false) := (blk_cell BK234.out 3).trans rfl; have hfz68_0 := blk_frozen BK234.out 0; have hfz68_1 := blk_frozen BK234.out 1; have hfz68_2 := blk_frozen BK234.out 2; have hfz68_3 := blk_frozen BK234.out 3; have hcz69_0 : w64.cell? ⟨gb235, 0, none⟩ = some (.int .i64 a1_0) := (blk_cell BK235.out 0).trans rfl; have hcz69_1 : w64.cell? ⟨gb235, 1, none⟩ = some (.string a1_1) := (blk_cell BK235.out 1).trans rfl; have hcz69_2 : w64.cell? ⟨gb235, 2, none⟩ = some (.int .i64 a1_2) := (blk_cell BK235.out 2).trans rfl; have hcz69_3 : w64.cell? ⟨gb235, 3, none⟩ = some (.bool a1_3) := (blk_cell BK235.out 3).trans rfl; have hfz69_0 := blk_frozen BK235.out 0; have hfz69_1 := blk_frozen BK235.out 1; have hfz69_2 := blk_frozen BK235.out 2; have hfz69_3 := blk_frozen BK235.out 3))
    go_meet
    case rel => exact ⟨_, (a1_3), q19y4, H', ⟨by have := HJ2.out; first | omega | exact Nat.le_refl _⟩, ⟨by (with_reducible repeat (first | refine blk_drewN ?_ _ | refine blk_drew ?_ | refine blk_alloc ?_ _)); exact BK234.out⟩, ⟨by (with_reducible repeat (first | refine blk_drewN ?_ _ | refine blk_drew ?_ | refine blk_alloc ?_ _)); exact BK235.out⟩, ⟨by repeat (first | (with_reducible first | exact HB.out | apply below_alloc | apply pw_below_drewN | apply below_drew1 | refine below_set ?_ GE234.out | refine below_set ?_ GE235.out) | exact HB.out)⟩⟩
   case rest =>
    clear HC18
    try clear c1
    try clear c2
    try clear p2
    try clear c3
    try clear c4
    try clear c5
    try clear c6
    try clear c6b0
    try clear c6b1
    try clear c7
    try clear c7b0
    try clear c8
    try clear c9
    try clear c10
    try clear c11
    try clear c12
    try clear c13
    try clear c14
    try clear c17
    try clear c19
    try clear c19b0
    try clear c19b1
    try clear c20
    try clear c20b0
    try clear c20b1
    try clear c21
    try clear c21b0
    try clear c21b1
    try clear c23
    try clear c24
    try clear c33
    try clear c33b0
    try clear c33b1
    try clear c34
    try clear c34b0
    try clear c35
    try clear c46
    try clear c46b0
    try clear c46b1
    try clear c47
    try clear c48
    try clear c59
    try clear c70
    try clear c81
    try clear c81b0
    try clear c81b1
    try clear c82
    try clear c83
    try clear c93
    try clear c104
    try clear c114
    try clear c114b0
    try clear c114b1
    try clear c115
    try clear c115b0
    try clear c116
    try clear c119
    try clear c119b0
    try clear c119b1
    try clear c120
    try clear c121
    try clear c124
    try clear c127
    try clear c130
    try clear c130b0
    try clear c130b1
    try clear c131
    try clear c132
    try clear c134
    try clear c137
    try clear hcz102_0 hcz102_1 hcz102_2 hcz102_3
    try clear hcz103_0 hcz103_1 hcz103_2 hcz103_3
    try clear hcz105_0 hcz105_1 hcz105_2 hcz105_3
    try clear hcz108_0 hcz108_1 hcz108_2 hcz108_3
    try clear hcz10_0 hcz10_1 hcz10_2 hcz10_3
    try clear hcz113_0 hcz113_1 hcz113_2 hcz113_3
    try clear hcz117_0 hcz117_1 hcz117_2 hcz117_3
    try clear hcz118_0 hcz118_1 hcz118_2 hcz118_3
    try clear hcz122_0 hcz122_1 hcz122_2 hcz122_3
    try clear hcz123_0 hcz123_1 hcz123_2 hcz123_3
    try clear hcz125_0 hcz125_1 hcz125_2 hcz125_3
    try clear hcz126_0 hcz126_1 hcz126_2 hcz126_3
    try clear hcz128_0 hcz128_1 hcz128_2 hcz128_3
    try clear hcz129_0 hcz129_1 hcz129_2 hcz129_3
    try clear hcz12_0 hcz12_1 hcz12_2 hcz12_3
    try clear hcz133_0 hcz133_1 hcz133_2 hcz133_3
    try clear hcz135_0 hcz135_1 hcz135_2 hcz135_3
    try clear hcz136_0 hcz136_1 hcz136_2 hcz136_3
    try clear hcz138_0 hcz138_1 hcz138_2 hcz138_3
    try clear hcz13_0 hcz13_1 hcz13_2 hcz13_3
    try clear hcz15_0 hcz15_1 hcz15_2 hcz15_3
    try clear hcz16_0 hcz16_1 hcz16_2 hcz16_3
    try clear hcz25_0 hcz25_1 hcz25_2 hcz25_3
    try clear hcz28_0 hcz28_1 hcz28_2 hcz28_3
    try clear hcz36_0 hcz36_1 hcz36_2 hcz36_3
    try clear hcz39_0 hcz39_1 hcz39_2 hcz39_3
    try clear hcz44_0 hcz44_1 hcz44_2 hcz44_3
    try clear hcz45_0 hcz45_1 hcz45_2 hcz45_3
    try clear hcz49_0 hcz49_1 hcz49_2 hcz49_3
    try clear hcz52_0 hcz52_1 hcz52_2 hcz52_3
    try clear hcz57_0 hcz57_1 hcz57_2 hcz57_3
    try clear hcz58_0 hcz58_1 hcz58_2 hcz58_3
    try clear hcz60_0 hcz60_1 hcz60_2 hcz60_3
    try clear hcz63_0 hcz63_1 hcz63_2 hcz63_3
    try clear hcz68_0 hcz68_1 hcz68_2 hcz68_3
    try clear hcz69_0 hcz69_1 hcz69_2 hcz69_3
    try clear hcz71_0 hcz71_1 hcz71_2 hcz71_3
    try clear hcz74_0 hcz74_1 hcz74_2 hcz74_3
    try clear hcz79_0 hcz79_1 hcz79_2 hcz79_3
    try clear hcz80_0 hcz80_1 hcz80_2 hcz80_3
    try clear hcz84_0 hcz84_1 hcz84_2 hcz84_3
    try clear hcz87_0 hcz87_1 hcz87_2 hcz87_3
    try clear hcz92_0 hcz92_1 hcz92_2 hcz92_3
    try clear hcz94_0 hcz94_1 hcz94_2 hcz94_3
    try clear hcz97_0 hcz97_1 hcz97_2 hcz97_3
    try clear hcz9_0 hcz9_1 hcz9_2 hcz9_3
    try clear hfz102_0 hfz102_1 hfz102_2 hfz102_3
    try clear hfz103_0 hfz103_1 hfz103_2 hfz103_3
    try clear hfz105_0 hfz105_1 hfz105_2 hfz105_3
    try clear hfz108_0 hfz108_1 hfz108_2 hfz108_3
    try clear hfz10_0 hfz10_1 hfz10_2 hfz10_3
    try clear hfz113_0 hfz113_1 hfz113_2 hfz113_3
    try clear hfz117_0 hfz117_1 hfz117_2 hfz117_3
    try clear hfz118_0 hfz118_1 hfz118_2 hfz118_3
    try clear hfz122_0 hfz122_1 hfz122_2 hfz122_3
    try clear hfz123_0 hfz123_1 hfz123_2 hfz123_3
    try clear hfz125_0 hfz125_1 hfz125_2 hfz125_3
    try clear hfz126_0 hfz126_1 hfz126_2 hfz126_3
    try clear hfz128_0 hfz128_1 hfz128_2 hfz128_3
    try clear hfz129_0 hfz129_1 hfz129_2 hfz129_3
    try clear hfz12_0 hfz12_1 hfz12_2 hfz12_3
    try clear hfz133_0 hfz133_1 hfz133_2 hfz133_3
    try clear hfz135_0 hfz135_1 hfz135_2 hfz135_3
    try clear hfz136_0 hfz136_1 hfz136_2 hfz136_3
    try clear hfz138_0 hfz138_1 hfz138_2 hfz138_3
    try clear hfz13_0 hfz13_1 hfz13_2 hfz13_3
    try clear hfz15_0 hfz15_1 hfz15_2 hfz15_3
    try clear hfz16_0 hfz16_1 hfz16_2 hfz16_3
    try clear hfz25_0 hfz25_1 hfz25_2 hfz25_3
    try clear hfz28_0 hfz28_1 hfz28_2 hfz28_3
    try clear hfz36_0 hfz36_1 hfz36_2 hfz36_3
    try clear hfz39_0 hfz39_1 hfz39_2 hfz39_3
    try clear hfz44_0 hfz44_1 hfz44_2 hfz44_3
    try clear hfz45_0 hfz45_1 hfz45_2 hfz45_3
    try clear hfz49_0 hfz49_1 hfz49_2 hfz49_3
    try clear hfz52_0 hfz52_1 hfz52_2 hfz52_3
    try clear hfz57_0 hfz57_1 hfz57_2 hfz57_3
    try clear hfz58_0 hfz58_1 hfz58_2 hfz58_3
    try clear hfz60_0 hfz60_1 hfz60_2 hfz60_3
    try clear hfz63_0 hfz63_1 hfz63_2 hfz63_3
    try clear hfz68_0 hfz68_1 hfz68_2 hfz68_3
    try clear hfz69_0 hfz69_1 hfz69_2 hfz69_3
    try clear hfz71_0 hfz71_1 hfz71_2 hfz71_3
    try clear hfz74_0 hfz74_1 hfz74_2 hfz74_3
    try clear hfz79_0 hfz79_1 hfz79_2 hfz79_3
    try clear hfz80_0 hfz80_1 hfz80_2 hfz80_3
    try clear hfz84_0 hfz84_1 hfz84_2 hfz84_3
    try clear hfz87_0 hfz87_1 hfz87_2 hfz87_3
    try clear hfz92_0 hfz92_1 hfz92_2 hfz92_3
    try clear hfz94_0 hfz94_1 hfz94_2 hfz94_3
    try clear hfz97_0 hfz97_1 hfz97_2 hfz97_3
    try clear hfz9_0 hfz9_1 hfz9_2 hfz9_3
    try clear p2
    obtain ⟨kq, x6_17, rfl, HA, HJ17, BK234, BK235, HB⟩ := hcut
    cases kq with
    | zero => exact absurd HA.out (by simp [cambiumref16_Compare.j1])
    | succ kj17 =>
     have H := HA.out
     clear HA
     simp only [cambiumref16_Compare.j1] at H
     have HC139 := Aside0.mk H
     clear H
     go_upto_region 4 with (fail)
     go_cut [7] (fun v7 wc => ∃ (kq : Nat) (x7_138 : Bool), v7 = .bool x7_138 ∧ Aside0 (cambiumref16_Compare.j2 kq x6_17 x7_138 = some (r1, r2)) ∧ Aside0 (kq ≤ kj17) ∧ Aside0 (wc.heap[gb234]? = some (.cells #[.int .i64 a0_0, .string a0_1, .int .i64 a0_2, .bool a0_3] 23 (0, 0))) ∧ Aside0 (wc.heap[gb235]? = some (.cells #[.int .i64 a1_0, .string a1_1, .int .i64 a1_2, .bool a1_3] 23 (0, 0))) ∧ Aside0 (Below w.heap.size w wc))
     case first =>
      have H := HC139.out
      clear HC139
      by_cases c140 : a0_0 = 0
      rotate_left
      ·rw [if_neg c140] at H
       have c140b0 : (a0_0 == 0) = false := beq_eq_false_iff_ne.mpr c140
       have c140b1 : (a0_0 != 0) = true := bne_iff_ne.mpr c140
       (first | rw [c140b0] | (simp only [i64_w, i32_w]; rw [c140b0]) | skip)
       by_cases c243 : a0_0 = 1
       rotate_left
       ·rw [if_neg c243] at H
        have c243b0 : (a0_0 == 1) = false := beq_eq_false_iff_ne.mpr c243
        have c243b1 : (a0_0 != 1) = true := bne_iff_ne.mpr c243
        by_cases c259 : a0_0 = 2
        rotate_left
        ·rw [if_neg c259] at H
         have c259b0 : (a0_0 == 2) = false := beq_eq_false_iff_ne.mpr c259
         have c259b1 : (a0_0 != 2) = true := bne_iff_ne.mpr c259
         have H' := Aside0.mk H
         clear H
         have hnb266 := NB234_235.out
         have hnc266 := NB235_234.out
         have hcz267_0 : wc.cell? ⟨gb234, 0, none⟩ = some (.int .i64 a0_0) := (blk_cell BK234.out 0).trans rfl
         have hcz267_1 : wc.cell? ⟨gb234, 1, none⟩ = some (.string a0_1) := (blk_cell BK234.out 1).trans rfl
         have hcz267_2 : wc.cell? ⟨gb234, 2, none⟩ = some (.int .i64 a0_2) := (blk_cell BK234.out 2).trans rfl
         have hcz267_3 : wc.cell? ⟨gb234, 3, none⟩ = some (.bool a0_3) := (blk_cell BK234.out 3).trans rfl
         have hfz267_0 := blk_frozen BK234.out 0
         have hfz267_1 := blk_frozen BK234.out 1
         have hfz267_2 := blk_frozen BK234.out 2
         have hfz267_3 := blk_frozen BK234.out 3
         go_wp2
         go_meet
         case rel => exact ⟨_, (false), q19y4, H', ⟨by have := HJ2.out; have := HJ17.out; first | omega | exact Nat.le_refl _⟩, ⟨by (with_reducible repeat (first | refine blk_drewN ?_ _ | refine blk_drew ?_ | refine blk_alloc ?_ _)); exact BK234.out⟩, ⟨by (with_reducible repeat (first | refine blk_drewN ?_ _ | refine blk_drew ?_ | refine blk_alloc ?_ _)); exact BK235.out⟩, ⟨by repeat (first | (with_reducible first | exact HB.out | apply below_alloc | apply pw_below_drewN | apply below_drew1 | refine below_set ?_ GE234.out | refine below_set ?_ GE235.out) | exact HB.out)⟩⟩
        rw [if_pos c259] at H
        have c259b0 : (a0_0 == 2) = true := beq_iff_eq.mpr c259
        have c259b1 : (a0_0 != 2) = false := bne_eq_false_iff_eq.mpr c259
        clear c259
        by_cases c260 : a0_3 = true
        rotate_left
        ·replace c260 := Bool.eq_false_iff.mpr c260
         subst c260
         have H1 : (cambiumref16_Compare.j2 kj17 x6_17 false) = some (r1, r2) := by rw [if_neg (show ¬ (false = true) by decide)] at H; exact H
         clear H
         have H := H1
         clear H1
         have H' := Aside0.mk H
         clear H
         have hnb264 := NB234_235.out
         have hnc264 := NB235_234.out
         have hcz265_0 : wc.cell? ⟨gb234, 0, none⟩ = some (.int .i64 a0_0) := (blk_cell BK234.out 0).trans rfl
         have hcz265_1 : wc.cell? ⟨gb234, 1, none⟩ = some (.string a0_1) := (blk_cell BK234.out 1).trans rfl
         have hcz265_2 : wc.cell? ⟨gb234, 2, none⟩ = some (.int .i64 a0_2) := (blk_cell BK234.out 2).trans rfl
         have hcz265_3 : wc.cell? ⟨gb234, 3, none⟩ = some (.bool false) := (blk_cell BK234.out 3).trans rfl
         have hfz265_0 := blk_frozen BK234.out 0
         have hfz265_1 := blk_frozen BK234.out 1
         have hfz265_2 := blk_frozen BK234.out 2
         have hfz265_3 := blk_frozen BK234.out 3
         go_wp2
         go_meet
         case rel => exact ⟨_, (false), q19y4, H', ⟨by have := HJ2.out; have := HJ17.out; first | omega | exact Nat.le_refl _⟩, ⟨by (with_reducible repeat (first | refine blk_drewN ?_ _ | refine blk_drew ?_ | refine blk_alloc ?_ _)); exact BK234.out⟩, ⟨by (with_reducible repeat (first | refine blk_drewN ?_ _ | refine blk_drew ?_ | refine blk_alloc ?_ _)); exact BK235.out⟩, ⟨by repeat (first | (with_reducible first | exact HB.out | apply below_alloc | apply pw_below_drewN | apply below_drew1 | refine below_set ?_ GE234.out | refine below_set ?_ GE235.out) | exact HB.out)⟩⟩
        subst c260
        have H1 : (cambiumref16_Compare.j2 kj17 x6_17 (!a1_3)) = some (r1, r2) := by rw [if_pos rfl] at H; exact H
        clear H
        have H := H1
        clear H1
        have H' := Aside0.mk H
        clear H
        have hnb261 := NB234_235.out
        have hnc261 := NB235_234.out
        have hcz262_0 : wc.cell? ⟨gb234, 0, none⟩ = some (.int .i64 a0_0) := (blk_cell BK234.out 0).trans rfl
        have hcz262_1 : wc.cell? ⟨gb234, 1, none⟩ = some (.string a0_1) := (blk_cell BK234.out 1).trans rfl
        have hcz262_2 : wc.cell? ⟨gb234, 2, none⟩ = some (.int .i64 a0_2) := (blk_cell BK234.out 2).trans rfl
        have hcz262_3 : wc.cell? ⟨gb234, 3, none⟩ = some (.bool true) := (blk_cell BK234.out 3).trans rfl
        have hfz262_0 := blk_frozen BK234.out 0
        have hfz262_1 := blk_frozen BK234.out 1
        have hfz262_2 := blk_frozen BK234.out 2
        have hfz262_3 := blk_frozen BK234.out 3
        have hcz263_0 : wc.cell? ⟨gb235, 0, none⟩ = some (.int .i64 a1_0) := (blk_cell BK235.out 0).trans rfl
        have hcz263_1 : wc.cell? ⟨gb235, 1, none⟩ = some (.string a1_1) := (blk_cell BK235.out 1).trans rfl
        have hcz263_2 : wc.cell? ⟨gb235, 2, none⟩ = some (.int .i64 a1_2) := (blk_cell BK235.out 2).trans rfl
        have hcz263_3 : wc.cell? ⟨gb235, 3, none⟩ = some (.bool a1_3) := (blk_cell BK235.out 3).trans rfl
        have hfz263_0 := blk_frozen BK235.out 0
        have hfz263_1 := blk_frozen BK235.out 1
        have hfz263_2 := blk_frozen BK235.out 2
        have hfz263_3 := blk_frozen BK235.out 3
        go_wp2
        go_meet
        case rel => exact ⟨_, (!a1_3), q19y4, H', ⟨by have := HJ2.out; have := HJ17.out; first | omega | exact Nat.le_refl _⟩, ⟨by (with_reducible repeat (first | refine blk_drewN ?_ _ | refine blk_drew ?_ | refine blk_alloc ?_ _)); exact BK234.out⟩, ⟨by (with_reducible repeat (first | refine blk_drewN ?_ _ | refine blk_drew ?_ | refine blk_alloc ?_ _)); exact BK235.out⟩, ⟨by repeat (first | (with_reducible first | exact HB.out | apply below_alloc | apply pw_below_drewN | apply below_drew1 | refine below_set ?_ GE234.out | refine below_set ?_ GE235.out) | exact HB.out)⟩⟩
       rw [if_pos c243] at H
       have c243b0 : (a0_0 == 1) = true := beq_iff_eq.mpr c243
       have c243b1 : (a0_0 != 1) = false := bne_eq_false_iff_eq.mpr c243
       clear c243
       by_cases c244 : a0_2 > a1_2
       ·rw [if_pos c244] at H
        have c244b0 : decide (a1_2 < a0_2) = true := decide_eq_true c244
        clear c244
        have H' := Aside0.mk H
        clear H
        have hnb245 := NB234_235.out
        have hnc245 := NB235_234.out
        have hcz246_0 : wc.cell? ⟨gb234, 0, none⟩ = some (.int .i64 a0_0) := (blk_cell BK234.out 0).trans rfl
        have hcz246_1 : wc.cell? ⟨gb234, 1, none⟩ = some (.string a0_1) := (blk_cell BK234.out 1).trans rfl
        have hcz246_2 : wc.cell? ⟨gb234, 2, none⟩ = some (.int .i64 a0_2) := (blk_cell BK234.out 2).trans rfl
        have hcz246_3 : wc.cell? ⟨gb234, 3, none⟩ = some (.bool a0_3) := (blk_cell BK234.out 3).trans rfl
        have hfz246_0 := blk_frozen BK234.out 0
        have hfz246_1 := blk_frozen BK234.out 1
        have hfz246_2 := blk_frozen BK234.out 2
        have hfz246_3 := blk_frozen BK234.out 3
        have hcz247_0 : wc.cell? ⟨gb235, 0, none⟩ = some (.int .i64 a1_0) := (blk_cell BK235.out 0).trans rfl
        have hcz247_1 : wc.cell? ⟨gb235, 1, none⟩ = some (.string a1_1) := (blk_cell BK235.out 1).trans rfl
        have hcz247_2 : wc.cell? ⟨gb235, 2, none⟩ = some (.int .i64 a1_2) := (blk_cell BK235.out 2).trans rfl
        have hcz247_3 : wc.cell? ⟨gb235, 3, none⟩ = some (.bool a1_3) := (blk_cell BK235.out 3).trans rfl
        have hfz247_0 := blk_frozen BK235.out 0
        have hfz247_1 := blk_frozen BK235.out 1
        have hfz247_2 := blk_frozen BK235.out 2
        have hfz247_3 := blk_frozen BK235.out 3
        go_wp2
        go_meet
        case rel => exact ⟨_, (true), q19y4, H', ⟨by have := HJ2.out; have := HJ17.out; first | omega | exact Nat.le_refl _⟩, ⟨by (with_reducible repeat (first | refine blk_drewN ?_ _ | refine blk_drew ?_ | refine blk_alloc ?_ _)); exact BK234.out⟩, ⟨by (with_reducible repeat (first | refine blk_drewN ?_ _ | refine blk_drew ?_ | refine blk_alloc ?_ _)); exact BK235.out⟩, ⟨by repeat (first | (with_reducible first | exact HB.out | apply below_alloc | apply pw_below_drewN | apply below_drew1 | refine below_set ?_ GE234.out | refine below_set ?_ GE235.out) | exact HB.out)⟩⟩
       rw [if_neg c244] at H
       have c244b0 : decide (a1_2 < a0_2) = false := decide_eq_false c244
       clear c244
       by_cases c248 : a0_0 = 2
       rotate_left
       ·rw [if_neg c248] at H
        have c248b0 : (a0_0 == 2) = false := beq_eq_false_iff_ne.mpr c248
        have c248b1 : (a0_0 != 2) = true := bne_iff_ne.mpr c248
        have H' := Aside0.mk H
        clear H
        have hnb256 := NB234_235.out
        have hnc256 := NB235_234.out
        have hcz257_0 : wc.cell? ⟨gb234, 0, none⟩ = some (.int .i64 a0_0) := (blk_cell BK234.out 0).trans rfl
        have hcz257_1 : wc.cell? ⟨gb234, 1, none⟩ = some (.string a0_1) := (blk_cell BK234.out 1).trans rfl
        have hcz257_2 : wc.cell? ⟨gb234, 2, none⟩ = some (.int .i64 a0_2) := (blk_cell BK234.out 2).trans rfl
        have hcz257_3 : wc.cell? ⟨gb234, 3, none⟩ = some (.bool a0_3) := (blk_cell BK234.out 3).trans rfl
        have hfz257_0 := blk_frozen BK234.out 0
        have hfz257_1 := blk_frozen BK234.out 1
        have hfz257_2 := blk_frozen BK234.out 2
        have hfz257_3 := blk_frozen BK234.out 3
        have hcz258_0 : wc.cell? ⟨gb235, 0, none⟩ = some (.int .i64 a1_0) := (blk_cell BK235.out 0).trans rfl
        have hcz258_1 : wc.cell? ⟨gb235, 1, none⟩ = some (.string a1_1) := (blk_cell BK235.out 1).trans rfl
        have hcz258_2 : wc.cell? ⟨gb235, 2, none⟩ = some (.int .i64 a1_2) := (blk_cell BK235.out 2).trans rfl
        have hcz258_3 : wc.cell? ⟨gb235, 3, none⟩ = some (.bool a1_3) := (blk_cell BK235.out 3).trans rfl
        have hfz258_0 := blk_frozen BK235.out 0
        have hfz258_1 := blk_frozen BK235.out 1
        have hfz258_2 := blk_frozen BK235.out 2
        have hfz258_3 := blk_frozen BK235.out 3
        go_wp2
        go_meet
        case rel => exact ⟨_, (false), q19y4, H', ⟨by have := HJ2.out; have := HJ17.out; first | omega | exact Nat.le_refl _⟩, ⟨by (with_reducible repeat (first | refine blk_drewN ?_ _ | refine blk_drew ?_ | refine blk_alloc ?_ _)); exact BK234.out⟩, ⟨by (with_reducible repeat (first | refine blk_drewN ?_ _ | refine blk_drew ?_ | refine blk_alloc ?_ _)); exact BK235.out⟩, ⟨by repeat (first | (with_reducible first | exact HB.out | apply below_alloc | apply pw_below_drewN | apply below_drew1 | refine below_set ?_ GE234.out | refine below_set ?_ GE235.out) | exact HB.out)⟩⟩
       rw [if_pos c248] at H
       have c248b0 : (a0_0 == 2) = true := beq_iff_eq.mpr c248
       have c248b1 : (a0_0 != 2) = false := bne_eq_false_iff_eq.mpr c248
       clear c248
       by_cases c249 : a0_3 = true
       ·subst c249
        have H1 : (cambiumref16_Compare.j2 kj17 x6_17 (!a1_3)) = some (r1, r2) := by rw [if_pos rfl] at H; exact H
        clear H
        have H := H1
        clear H1
        have H' := Aside0.mk H
        clear H
        have hnb250 := NB234_235.out
        have hnc250 := NB235_234.out
        have hcz251_0 : wc.cell? ⟨gb234, 0, none⟩ = some (.int .i64 a0_0) := (blk_cell BK234.out 0).trans rfl
        have hcz251_1 : wc.cell? ⟨gb234, 1, none⟩ = some (.string a0_1) := (blk_cell BK234.out 1).trans rfl
        have hcz251_2 : wc.cell? ⟨gb234, 2, none⟩ = some (.int .i64 a0_2) := (blk_cell BK234.out 2).trans rfl
        have hcz251_3 : wc.cell? ⟨gb234, 3, none⟩ = some (.bool true) := (blk_cell BK234.out 3).trans rfl
        have hfz251_0 := blk_frozen BK234.out 0
        have hfz251_1 := blk_frozen BK234.out 1
        have hfz251_2 := blk_frozen BK234.out 2
        have hfz251_3 := blk_frozen BK234.out 3
        have hcz252_0 : wc.cell? ⟨gb235, 0, none⟩ = some (.int .i64 a1_0) := (blk_cell BK235.out 0).trans rfl
        have hcz252_1 : wc.cell? ⟨gb235, 1, none⟩ = some (.string a1_1) := (blk_cell BK235.out 1).trans rfl
        have hcz252_2 : wc.cell? ⟨gb235, 2, none⟩ = some (.int .i64 a1_2) := (blk_cell BK235.out 2).trans rfl
        have hcz252_3 : wc.cell? ⟨gb235, 3, none⟩ = some (.bool a1_3) := (blk_cell BK235.out 3).trans rfl
        have hfz252_0 := blk_frozen BK235.out 0
        have hfz252_1 := blk_frozen BK235.out 1
        have hfz252_2 := blk_frozen BK235.out 2
        have hfz252_3 := blk_frozen BK235.out 3
        go_wp2
        go_meet
        case rel => exact ⟨_, (!a1_3), q19y4, H', ⟨by have := HJ2.out; have := HJ17.out; first | omega | exact Nat.le_refl _⟩, ⟨by (with_reducible repeat (first | refine blk_drewN ?_ _ | refine blk_drew ?_ | refine blk_alloc ?_ _)); exact BK234.out⟩, ⟨by (with_reducible repeat (first | refine blk_drewN ?_ _ | refine blk_drew ?_ | refine blk_alloc ?_ _)); exact BK235.out⟩, ⟨by repeat (first | (with_reducible first | exact HB.out | apply below_alloc | apply pw_below_drewN | apply below_drew1 | refine below_set ?_ GE234.out | refine below_set ?_ GE235.out) | exact HB.out)⟩⟩
       replace c249 := Bool.eq_false_iff.mpr c249
       subst c249
       have H1 : (cambiumref16_Compare.j2 kj17 x6_17 false) = some (r1, r2) := by rw [if_neg (show ¬ (false = true) by decide)] at H; exact H
       clear H
       have H := H1
       clear H1
       have H' := Aside0.mk H
       clear H
       have hnb253 := NB234_235.out
       have hnc253 := NB235_234.out
       have hcz254_0 : wc.cell? ⟨gb234, 0, none⟩ = some (.int .i64 a0_0) := (blk_cell BK234.out 0).trans rfl
       have hcz254_1 : wc.cell? ⟨gb234, 1, none⟩ = some (.string a0_1) := (blk_cell BK234.out 1).trans rfl
       have hcz254_2 : wc.cell? ⟨gb234, 2, none⟩ = some (.int .i64 a0_2) := (blk_cell BK234.out 2).trans rfl
       have hcz254_3 : wc.cell? ⟨gb234, 3, none⟩ = some (.bool false) := (blk_cell BK234.out 3).trans rfl
       have hfz254_0 := blk_frozen BK234.out 0
       have hfz254_1 := blk_frozen BK234.out 1
       have hfz254_2 := blk_frozen BK234.out 2
       have hfz254_3 := blk_frozen BK234.out 3
       have hcz255_0 : wc.cell? ⟨gb235, 0, none⟩ = some (.int .i64 a1_0) := (blk_cell BK235.out 0).trans rfl
       have hcz255_1 : wc.cell? ⟨gb235, 1, none⟩ = some (.string a1_1) := (blk_cell BK235.out 1).trans rfl
       have hcz255_2 : wc.cell? ⟨gb235, 2, none⟩ = some (.int .i64 a1_2) := (blk_cell BK235.out 2).trans rfl
       have hcz255_3 : wc.cell? ⟨gb235, 3, none⟩ = some (.bool a1_3) := (blk_cell BK235.out 3).trans rfl
       have hfz255_0 := blk_frozen BK235.out 0
       have hfz255_1 := blk_frozen BK235.out 1
       have hfz255_2 := blk_frozen BK235.out 2
       have hfz255_3 := blk_frozen BK235.out 3
       go_wp2
       go_meet
       case rel => exact ⟨_, (false), q19y4, H', ⟨by have := HJ2.out; have := HJ17.out; first | omega | exact Nat.le_refl _⟩, ⟨by (with_reducible repeat (first | refine blk_drewN ?_ _ | refine blk_drew ?_ | refine blk_alloc ?_ _)); exact BK234.out⟩, ⟨by (with_reducible repeat (first | refine blk_drewN ?_ _ | refine blk_drew ?_ | refine blk_alloc ?_ _)); exact BK235.out⟩, ⟨by repeat (first | (with_reducible first | exact HB.out | apply below_alloc | apply pw_below_drewN | apply below_drew1 | refine below_set ?_ GE234.out | refine below_set ?_ GE235.out) | exact HB.out)⟩⟩
      rw [if_pos c140] at H
      have c140b0 : (a0_0 == 0) = true := beq_iff_eq.mpr c140
      have c140b1 : (a0_0 != 0) = false := bne_eq_false_iff_eq.mpr c140
      clear c140
      (first | rw [c140b0] | (simp only [i64_w, i32_w]; rw [c140b0]) | skip)
      by_cases c141 : (a1_1.size : Int) ≤ 140737488355328
      rotate_left
      ·rw [if_neg c141] at H
       exact absurd H (by simp)
      rw [if_pos c141] at H
      have c141b0 := eq_true c141
      have c141b1 : decide ((a1_1.size : Int) ≤ 140737488355328) = true := decide_eq_true c141
      clear c141
      obtain ⟨y243, hy243⟩ : ∃ y_ : List Int, y_ = (bytesOf a1_1) := ⟨_, rfl⟩
      replace H : (if (a0_1.size : Int) ≤ 140737488355328 then ((cambiumref01_Less.f kj17 y243 (bytesOf a0_1)).bind fun t249 => (if t249 = true then (cambiumref16_Compare.j2 kj17 x6_17 true) else (if a0_0 = 1 then (if a0_2 > a1_2 then (cambiumref16_Compare.j2 kj17 x6_17 true) else (if a0_0 = 2 then (if a0_3 = true then (cambiumref16_Compare.j2 kj17 x6_17 (!a1_3)) else (cambiumref16_Compare.j2 kj17 x6_17 false)) else (cambiumref16_Compare.j2 kj17 x6_17 false))) else (if a0_0 = 2 then (if a0_3 = true then (cambiumref16_Compare.j2 kj17 x6_17 (!a1_3)) else (cambiumref16_Compare.j2 kj17 x6_17 false)) else (cambiumref16_Compare.j2 kj17 x6_17 false))))) else (none)) = some (r1, r2) := by first | (rw [hy243]; with_reducible exact H) | (have H2_ := (Option.bind_some _ _).symm.trans H; rw [hy243]; with_reducible exact H2_) | (have H2_ := (Option.bind_some _ _).symm.trans H; with_reducible exact H2_) | with_reducible exact H | (rw [hy243]; exact H) | exact H
      have Ny243 := Aside0.mk hy243
      clear hy243
      by_cases c142 : (a0_1.size : Int) ≤ 140737488355328
      rotate_left
      ·rw [if_neg c142] at H
       exact absurd H (by simp)
      rw [if_pos c142] at H
      have c142b0 := eq_true c142
      have c142b1 : decide ((a0_1.size : Int) ≤ 140737488355328) = true := decide_eq_true c142
      clear c142
      obtain ⟨y246, hy246⟩ : ∃ y_ : List Int, y_ = (bytesOf a0_1) := ⟨_, rfl⟩
      replace H : ((cambiumref01_Less.f kj17 y243 y246).bind fun t249 => (if t249 = true then (cambiumref16_Compare.j2 kj17 x6_17 true) else (if a0_0 = 1 then (if a0_2 > a1_2 then (cambiumref16_Compare.j2 kj17 x6_17 true) else (if a0_0 = 2 then (if a0_3 = true then (cambiumref16_Compare.j2 kj17 x6_17 (!a1_3)) else (cambiumref16_Compare.j2 kj17 x6_17 false)) else (cambiumref16_Compare.j2 kj17 x6_17 false))) else (if a0_0 = 2 then (if a0_3 = true then (cambiumref16_Compare.j2 kj17 x6_17 (!a1_3)) else (cambiumref16_Compare.j2 kj17 x6_17 false)) else (cambiumref16_Compare.j2 kj17 x6_17 false))))) = some (r1, r2) := by first | (rw [hy246]; with_reducible exact H) | (have H2_ := (Option.bind_some _ _).symm.trans H; rw [hy246]; with_reducible exact H2_) | (have H2_ := (Option.bind_some _ _).symm.trans H; with_reducible exact H2_) | with_reducible exact H | (rw [hy246]; exact H) | exact H
      have Ny246 := Aside0.mk hy246
      clear hy246
      replace H := Option.bind_eq_some_iff.mp H
      obtain ⟨t249, A1430, H⟩ := H
      replace H : (if t249 = true then (cambiumref16_Compare.j2 kj17 x6_17 true) else (if a0_0 = 1 then (if a0_2 > a1_2 then (cambiumref16_Compare.j2 kj17 x6_17 true) else (if a0_0 = 2 then (if a0_3 = true then (cambiumref16_Compare.j2 kj17 x6_17 (!a1_3)) else (cambiumref16_Compare.j2 kj17 x6_17 false)) else (cambiumref16_Compare.j2 kj17 x6_17 false))) else (if a0_0 = 2 then (if a0_3 = true then (cambiumref16_Compare.j2 kj17 x6_17 (!a1_3)) else (cambiumref16_Compare.j2 kj17 x6_17 false)) else (cambiumref16_Compare.j2 kj17 x6_17 false)))) = some (r1, r2) := H
      have A143 := Aside0.mk A1430
      clear A1430
      by_cases c144 : t249 = true
      ·subst c144
       have H1 : (cambiumref16_Compare.j2 kj17 x6_17 true) = some (r1, r2) := by rw [if_pos rfl] at H; exact H
       clear H
       have H := H1
       clear H1
       have H' := Aside0.mk H
       clear H
       have hnb145 := NB234_235.out
       have hnc145 := NB235_234.out
       have hcz146_0 : wc.cell? ⟨gb234, 0, none⟩ = some (.int .i64 a0_0) := (blk_cell BK234.out 0).trans rfl
       have hcz146_1 : wc.cell? ⟨gb234, 1, none⟩ = some (.string a0_1) := (blk_cell BK234.out 1).trans rfl
       have hcz146_2 : wc.cell? ⟨gb234, 2, none⟩ = some (.int .i64 a0_2) := (blk_cell BK234.out 2).trans rfl
       have hcz146_3 : wc.cell? ⟨gb234, 3, none⟩ = some (.bool a0_3) := (blk_cell BK234.out 3).trans rfl
       have hfz146_0 := blk_frozen BK234.out 0
       have hfz146_1 := blk_frozen BK234.out 1
       have hfz146_2 := blk_frozen BK234.out 2
       have hfz146_3 := blk_frozen BK234.out 3
       have hcz147_0 : wc.cell? ⟨gb235, 0, none⟩ = some (.int .i64 a1_0) := (blk_cell BK235.out 0).trans rfl
       have hcz147_1 : wc.cell? ⟨gb235, 1, none⟩ = some (.string a1_1) := (blk_cell BK235.out 1).trans rfl
       have hcz147_2 : wc.cell? ⟨gb235, 2, none⟩ = some (.int .i64 a1_2) := (blk_cell BK235.out 2).trans rfl
       have hcz147_3 : wc.cell? ⟨gb235, 3, none⟩ = some (.bool a1_3) := (blk_cell BK235.out 3).trans rfl
       have hfz147_0 := blk_frozen BK235.out 0
       have hfz147_1 := blk_frozen BK235.out 1
       have hfz147_2 := blk_frozen BK235.out 2
       have hfz147_3 := blk_frozen BK235.out 3
       go_wp2_with (first | ((with_reducible refine gate_dst (N := 67) rfl ?_); (first | refine Go.Proofs.YtkeepnmlphbffaaDoor.Conv.V_conv _ 5 rfl (N' := 67) rfl 9 56 _ rfl Tryd.underlying9 Tryd.underlying56 Tryd.underlying5 a1_1 rfl q19y3 (Below.refl _ _) (Nat.le_refl _) ?_ | refine Go.Proofs.YtkeepnmlphbffaaDoor.Conv.V_conv_on _ 5 (by rfl) (N' := 67) rfl 9 56 _ rfl Tryd.underlying9 Tryd.underlying56 Tryd.underlying5 a1_1 rfl q19y3 (Below.refl _ _) (Nat.le_refl _) ?_); intro v244 w148 ho149 hb hg_ hnew_; clear hg_ hnew_; (first | rw [← Ny243.out] at ho149 | (simp only [Int.reduceToNat] at ho149; rw [← Ny243.out] at ho149)); have n0_ := Aside0.mk (Kd.V_lower (Kd.V_mono (ok' := fun k_ => k_ ≠ gb234 ∧ k_ ≠ gb235) ho149 (fun k_ hk_ => ⟨(Kd.freshB (g := gb234) (o := .cells #[.int .i64 a0_0, .string a0_1, .int .i64 a0_2, .bool a0_3] 23 (0, 0)) q19y1 k_ hk_), (Kd.freshB (g := gb235) (o := .cells #[.int .i64 a1_0, .string a1_1, .int .i64 a1_2, .bool a1_3] 23 (0, 0)) q19y2 k_ hk_)⟩)) (below_size q19y0)); have n1_ := Aside0.mk (blk_below (g := gb234) (o := .cells #[.int .i64 a0_0, .string a0_1, .int .i64 a0_2, .bool a0_3] 23 (0, 0)) q19y1 hb); have n2_ := Aside0.mk (blk_below (g := gb235) (o := .cells #[.int .i64 a1_0, .string a1_1, .int .i64 a1_2, .bool a1_3] 23 (0, 0)) q19y2 hb); have n3_ := Aside0.mk (below_step q19y0 hb); clear BK234; clear BK235; clear HB; have HO245 := n0_; have BK234 := n1_; have BK235 := n2_; have HB := n3_; clear n0_ n1_ n2_ n3_; clear hb ho149; have hcz150_0 : w148.cell? ⟨gb234, 0, none⟩ = some (.int .i64 a0_0) := (blk_cell BK234.out 0).trans rfl; have hcz150_1 : w148.cell? ⟨gb234, 1, none⟩ = some (.string a0_1) := (blk_cell BK234.out 1).trans rfl; have hcz150_2 : w148.cell? ⟨gb234, 2, none⟩ = some (.int .i64 a0_2) := (blk_cell BK234.out 2).trans rfl; have hcz150_3 : w148.cell? ⟨gb234, 3, none⟩ = some (.bool a0_3) := (blk_cell BK234.out 3).trans rfl; have hfz150_0 := blk_frozen BK234.out 0; have hfz150_1 := blk_frozen BK234.out 1; have hfz150_2 := blk_frozen BK234.out 2; have hfz150_3 := blk_frozen BK234.out 3) | ((with_reducible refine gate_dst (N := 70) rfl ?_); (first | refine Go.Proofs.YtkeepnmlphbffaaDoor.Conv.V_conv _ 5 rfl (N' := 70) rfl 9 56 _ rfl Tryd.underlying9 Tryd.underlying56 Tryd.underlying5 a0_1 rfl q19y3 (Below.refl _ _) (Nat.le_refl _) ?_ | refine Go.Proofs.YtkeepnmlphbffaaDoor.Conv.V_conv_on _ 5 (by rfl) (N' := 70) rfl 9 56 _ rfl Tryd.underlying9 Tryd.underlying56 Tryd.underlying5 a0_1 rfl q19y3 (Below.refl _ _) (Nat.le_refl _) ?_); intro v247 w151 ho152 hb hg_ hnew_; clear hg_ hnew_; (first | rw [← Ny246.out] at ho152 | (simp only [Int.reduceToNat] at ho152; rw [← Ny246.out] at ho152)); have n0_ := Aside0.mk (Kd.V_below q19y5 hb); have n1_ := Aside0.mk (Kd.V_lower (Kd.V_mono (ok' := fun k_ => k_ ≠ gb234 ∧ k_ ≠ gb235) ho152 (fun k_ hk_ => ⟨(Kd.freshB (g := gb234) (o := .cells #[.int .i64 a0_0, .string a0_1, .int .i64 a0_2, .bool a0_3] 23 (0, 0)) q19y1 k_ hk_), (Kd.freshB (g := gb235) (o := .cells #[.int .i64 a1_0, .string a1_1, .int .i64 a1_2, .bool a1_3] 23 (0, 0)) q19y2 k_ hk_)⟩)) (below_size q19y0)); have n2_ := Aside0.mk (blk_below (g := gb234) (o := .cells #[.int .i64 a0_0, .string a0_1, .int .i64 a0_2, .bool a0_3] 23 (0, 0)) q19y1 hb); have n3_ := Aside0.mk (blk_below (g := gb235) (o := .cells #[.int .i64 a1_0, .string a1_1, .int .i64 a1_2, .bool a1_3] 23 (0, 0)) q19y2 hb); have n4_ := Aside0.mk (below_step q19y0 hb); clear HO245; clear BK234; clear BK235; clear HB; have HO245 := n0_; have HO248 := n1_; have BK234 := n2_; have BK235 := n3_; have HB := n4_; clear n0_ n1_ n2_ n3_ n4_; clear hb ho152; obtain ⟨Ao153, co153, eo153⟩ := Kd.V_slice HO245.out; subst eo153; obtain ⟨Ao154, co154, eo154⟩ := Kd.V_slice HO248.out; subst eo154) | (go_at_call 25; (with_reducible refine (cambiumref01_Less.calls kj17 _ _ y243 _ _ y246 true _ ?side1 ?side2 ?side3 ?side4 A143.out).mono ?_); (case side1 => repeat (first | exact (Kd.V_reads' HO245.out).2.2 | (with_reducible refine Kd.C_alloc ?_ _) | (with_reducible refine Kd.C_drewN ?_ _) | (with_reducible refine Kd.C_drew ?_))); (case side2 => exact (Kd.V_reads' HO245.out).2.1); (case side3 => repeat (first | exact (Kd.V_reads' HO248.out).2.2 | (with_reducible refine Kd.C_alloc ?_ _) | (with_reducible refine Kd.C_drewN ?_ _) | (with_reducible refine Kd.C_drew ?_))); (case side4 => exact (Kd.V_reads' HO248.out).2.1); rintro e w' ⟨rfl, ⟨nd, rfl⟩⟩))
       go_meet
       case rel => exact ⟨_, (true), q19y4, H', ⟨by have := HJ2.out; have := HJ17.out; first | omega | exact Nat.le_refl _⟩, ⟨by (with_reducible repeat (first | refine blk_drewN ?_ _ | refine blk_drew ?_ | refine blk_alloc ?_ _)); exact BK234.out⟩, ⟨by (with_reducible repeat (first | refine blk_drewN ?_ _ | refine blk_drew ?_ | refine blk_alloc ?_ _)); exact BK235.out⟩, ⟨by repeat (first | (with_reducible first | exact HB.out | apply below_alloc | apply pw_below_drewN | apply below_drew1 | refine below_set ?_ GE234.out | refine below_set ?_ GE235.out) | exact HB.out)⟩⟩
      replace c144 := Bool.eq_false_iff.mpr c144
      subst c144
      have H1 : (if a0_0 = 1 then (if a0_2 > a1_2 then (cambiumref16_Compare.j2 kj17 x6_17 true) else (if a0_0 = 2 then (if a0_3 = true then (cambiumref16_Compare.j2 kj17 x6_17 (!a1_3)) else (cambiumref16_Compare.j2 kj17 x6_17 false)) else (cambiumref16_Compare.j2 kj17 x6_17 false))) else (if a0_0 = 2 then (if a0_3 = true then (cambiumref16_Compare.j2 kj17 x6_17 (!a1_3)) else (cambiumref16_Compare.j2 kj17 x6_17 false)) else (cambiumref16_Compare.j2 kj17 x6_17 false))) = some (r1, r2) := by rw [if_neg (show ¬ (false = true) by decide)] at H; exact H
      clear H
      have H := H1
      clear H1
      by_cases c155 : a0_0 = 1
      rotate_left
      ·rw [if_neg c155] at H
       have c155b0 : (a0_0 == 1) = false := beq_eq_false_iff_ne.mpr c155
       have c155b1 : (a0_0 != 1) = true := bne_iff_ne.mpr c155
       by_cases c207 : a0_0 = 2
       rotate_left
       ·rw [if_neg c207] at H
        have c207b0 : (a0_0 == 2) = false := beq_eq_false_iff_ne.mpr c207
        have c207b1 : (a0_0 != 2) = true := bne_iff_ne.mpr c207
        have H' := Aside0.mk H
        clear H
        have hnb232 := NB234_235.out
        have hnc232 := NB235_234.out
        have hcz233_0 : wc.cell? ⟨gb234, 0, none⟩ = some (.int .i64 a0_0) := (blk_cell BK234.out 0).trans rfl
        have hcz233_1 : wc.cell? ⟨gb234, 1, none⟩ = some (.string a0_1) := (blk_cell BK234.out 1).trans rfl
        have hcz233_2 : wc.cell? ⟨gb234, 2, none⟩ = some (.int .i64 a0_2) := (blk_cell BK234.out 2).trans rfl
        have hcz233_3 : wc.cell? ⟨gb234, 3, none⟩ = some (.bool a0_3) := (blk_cell BK234.out 3).trans rfl
        have hfz233_0 := blk_frozen BK234.out 0
        have hfz233_1 := blk_frozen BK234.out 1
        have hfz233_2 := blk_frozen BK234.out 2
        have hfz233_3 := blk_frozen BK234.out 3
        have hcz234_0 : wc.cell? ⟨gb235, 0, none⟩ = some (.int .i64 a1_0) := (blk_cell BK235.out 0).trans rfl
        have hcz234_1 : wc.cell? ⟨gb235, 1, none⟩ = some (.string a1_1) := (blk_cell BK235.out 1).trans rfl
        have hcz234_2 : wc.cell? ⟨gb235, 2, none⟩ = some (.int .i64 a1_2) := (blk_cell BK235.out 2).trans rfl
        have hcz234_3 : wc.cell? ⟨gb235, 3, none⟩ = some (.bool a1_3) := (blk_cell BK235.out 3).trans rfl
        have hfz234_0 := blk_frozen BK235.out 0
        have hfz234_1 := blk_frozen BK235.out 1
        have hfz234_2 := blk_frozen BK235.out 2
        have hfz234_3 := blk_frozen BK235.out 3
        go_wp2_with (first | ((with_reducible refine gate_dst (N := 67) rfl ?_); (first | refine Go.Proofs.YtkeepnmlphbffaaDoor.Conv.V_conv _ 5 rfl (N' := 67) rfl 9 56 _ rfl Tryd.underlying9 Tryd.underlying56 Tryd.underlying5 a1_1 rfl q19y3 (Below.refl _ _) (Nat.le_refl _) ?_ | refine Go.Proofs.YtkeepnmlphbffaaDoor.Conv.V_conv_on _ 5 (by rfl) (N' := 67) rfl 9 56 _ rfl Tryd.underlying9 Tryd.underlying56 Tryd.underlying5 a1_1 rfl q19y3 (Below.refl _ _) (Nat.le_refl _) ?_); intro v244 w235 ho236 hb hg_ hnew_; clear hg_ hnew_; (first | rw [← Ny243.out] at ho236 | (simp only [Int.reduceToNat] at ho236; rw [← Ny243.out] at ho236)); have n0_ := Aside0.mk (Kd.V_lower (Kd.V_mono (ok' := fun k_ => k_ ≠ gb234 ∧ k_ ≠ gb235) ho236 (fun k_ hk_ => ⟨(Kd.freshB (g := gb234) (o := .cells #[.int .i64 a0_0, .string a0_1, .int .i64 a0_2, .bool a0_3] 23 (0, 0)) q19y1 k_ hk_), (Kd.freshB (g := gb235) (o := .cells #[.int .i64 a1_0, .string a1_1, .int .i64 a1_2, .bool a1_3] 23 (0, 0)) q19y2 k_ hk_)⟩)) (below_size q19y0)); have n1_ := Aside0.mk (blk_below (g := gb234) (o := .cells #[.int .i64 a0_0, .string a0_1, .int .i64 a0_2, .bool a0_3] 23 (0, 0)) q19y1 hb); have n2_ := Aside0.mk (blk_below (g := gb235) (o := .cells #[.int .i64 a1_0, .string a1_1, .int .i64 a1_2, .bool a1_3] 23 (0, 0)) q19y2 hb); have n3_ := Aside0.mk (below_step q19y0 hb); clear BK234; clear BK235; clear HB; have HO245 := n0_; have BK234 := n1_; have BK235 := n2_; have HB := n3_; clear n0_ n1_ n2_ n3_; clear hb ho236; have hcz237_0 : w235.cell? ⟨gb234, 0, none⟩ = some (.int .i64 a0_0) := (blk_cell BK234.out 0).trans rfl; have hcz237_1 : w235.cell? ⟨gb234, 1, none⟩ = some (.string a0_1) := (blk_cell BK234.out 1).trans rfl; have hcz237_2 : w235.cell? ⟨gb234, 2, none⟩ = some (.int .i64 a0_2) := (blk_cell BK234.out 2).trans rfl; have hcz237_3 : w235.cell? ⟨gb234, 3, none⟩ = some (.bool a0_3) := (blk_cell BK234.out 3).trans rfl; have hfz237_0 := blk_frozen BK234.out 0; have hfz237_1 := blk_frozen BK234.out 1; have hfz237_2 := blk_frozen BK234.out 2; have hfz237_3 := blk_frozen BK234.out 3) | ((with_reducible refine gate_dst (N := 70) rfl ?_); (first | refine Go.Proofs.YtkeepnmlphbffaaDoor.Conv.V_conv _ 5 rfl (N' := 70) rfl 9 56 _ rfl Tryd.underlying9 Tryd.underlying56 Tryd.underlying5 a0_1 rfl q19y3 (Below.refl _ _) (Nat.le_refl _) ?_ | refine Go.Proofs.YtkeepnmlphbffaaDoor.Conv.V_conv_on _ 5 (by rfl) (N' := 70) rfl 9 56 _ rfl Tryd.underlying9 Tryd.underlying56 Tryd.underlying5 a0_1 rfl q19y3 (Below.refl _ _) (Nat.le_refl _) ?_); intro v247 w238 ho239 hb hg_ hnew_; clear hg_ hnew_; (first | rw [← Ny246.out] at ho239 | (simp only [Int.reduceToNat] at ho239; rw [← Ny246.out] at ho239)); have n0_ := Aside0.mk (Kd.V_below q19y5 hb); have n1_ := Aside0.mk (Kd.V_lower (Kd.V_mono (ok' := fun k_ => k_ ≠ gb234 ∧ k_ ≠ gb235) ho239 (fun k_ hk_ => ⟨(Kd.freshB (g := gb234) (o := .cells #[.int .i64 a0_0, .string a0_1, .int .i64 a0_2, .bool a0_3] 23 (0, 0)) q19y1 k_ hk_), (Kd.freshB (g := gb235) (o := .cells #[.int .i64 a1_0, .string a1_1, .int .i64 a1_2, .bool a1_3] 23 (0, 0)) q19y2 k_ hk_)⟩)) (below_size q19y0)); have n2_ := Aside0.mk (blk_below (g := gb234) (o := .cells #[.int .i64 a0_0, .string a0_1, .int .i64 a0_2, .bool a0_3] 23 (0, 0)) q19y1 hb); have n3_ := Aside0.mk (blk_below (g := gb235) (o := .cells #[.int .i64 a1_0, .string a1_1, .int .i64 a1_2, .bool a1_3] 23 (0, 0)) q19y2 hb); have n4_ := Aside0.mk (below_step q19y0 hb); clear HO245; clear BK234; clear BK235; clear HB; have HO245 := n0_; have HO248 := n1_; have BK234 := n2_; have BK235 := n3_; have HB := n4_; clear n0_ n1_ n2_ n3_ n4_; clear hb ho239; obtain ⟨Ao240, co240, eo240⟩ := Kd.V_slice HO245.out; subst eo240; obtain ⟨Ao241, co241, eo241⟩ := Kd.V_slice HO248.out; subst eo241) | (go_at_call 25; (with_reducible refine (cambiumref01_Less.calls kj17 _ _ y243 _ _ y246 false _ ?side1 ?side2 ?side3 ?side4 A143.out).mono ?_); (case side1 => repeat (first | exact (Kd.V_reads' HO245.out).2.2 | (with_reducible refine Kd.C_alloc ?_ _) | (with_reducible refine Kd.C_drewN ?_ _) | (with_reducible refine Kd.C_drew ?_))); (case side2 => exact (Kd.V_reads' HO245.out).2.1); (case side3 => repeat (first | exact (Kd.V_reads' HO248.out).2.2 | (with_reducible refine Kd.C_alloc ?_ _) | (with_reducible refine Kd.C_drewN ?_ _) | (with_reducible refine Kd.C_drew ?_))); (case side4 => exact (Kd.V_reads' HO248.out).2.1); rintro e w' ⟨rfl, ⟨nd, rfl⟩⟩; have hcz242_0 : w238.cell? ⟨gb234, 0, none⟩ = some (.int .i64 a0_0) := (blk_cell BK234.out 0).trans rfl; have hcz242_1 : w238.cell? ⟨gb234, 1, none⟩ = some (.string a0_1) := (blk_cell BK234.out 1).trans rfl; have hcz242_2 : w238.cell? ⟨gb234, 2, none⟩ = some (.int .i64 a0_2) := (blk_cell BK234.out 2).trans rfl; have hcz242_3 : w238.cell? ⟨gb234, 3, none⟩ = some (.bool a0_3) := (blk_cell BK234.out 3).trans rfl; have hfz242_0 := blk_frozen BK234.out 0; have hfz242_1 := blk_frozen BK234.out 1; have hfz242_2 := blk_frozen BK234.out 2; have hfz242_3 := blk_frozen BK234.out 3))
        go_meet
        case rel => exact ⟨_, (false), q19y4, H', ⟨by have := HJ2.out; have := HJ17.out; first | omega | exact Nat.le_refl _⟩, ⟨by (with_reducible repeat (first | refine blk_drewN ?_ _ | refine blk_drew ?_ | refine blk_alloc ?_ _)); exact BK234.out⟩, ⟨by (with_reducible repeat (first | refine blk_drewN ?_ _ | refine blk_drew ?_ | refine blk_alloc ?_ _)); exact BK235.out⟩, ⟨by repeat (first | (with_reducible first | exact HB.out | apply below_alloc | apply pw_below_drewN | apply below_drew1 | refine below_set ?_ GE234.out | refine below_set ?_ GE235.out) | exact HB.out)⟩⟩
       rw [if_pos c207] at H
       have c207b0 : (a0_0 == 2) = true := beq_iff_eq.mpr c207
       have c207b1 : (a0_0 != 2) = false := bne_eq_false_iff_eq.mpr c207
       clear c207
       by_cases c208 : a0_3 = true
       ·subst c208
        have H1 : (cambiumref16_Compare.j2 kj17 x6_17 (!a1_3)) = some (r1, r2) := by rw [if_pos rfl] at H; exact H
        clear H
        have H := H1
        clear H1
        have H' := Aside0.mk H
        clear H
        have hnb209 := NB234_235.out
        have hnc209 := NB235_234.out
        have hcz210_0 : wc.cell? ⟨gb234, 0, none⟩ = some (.int .i64 a0_0) := (blk_cell BK234.out 0).trans rfl
        have hcz210_1 : wc.cell? ⟨gb234, 1, none⟩ = some (.string a0_1) := (blk_cell BK234.out 1).trans rfl
        have hcz210_2 : wc.cell? ⟨gb234, 2, none⟩ = some (.int .i64 a0_2) := (blk_cell BK234.out 2).trans rfl
        have hcz210_3 : wc.cell? ⟨gb234, 3, none⟩ = some (.bool true) := (blk_cell BK234.out 3).trans rfl
        have hfz210_0 := blk_frozen BK234.out 0
        have hfz210_1 := blk_frozen BK234.out 1
        have hfz210_2 := blk_frozen BK234.out 2
        have hfz210_3 := blk_frozen BK234.out 3
        have hcz211_0 : wc.cell? ⟨gb235, 0, none⟩ = some (.int .i64 a1_0) := (blk_cell BK235.out 0).trans rfl
        have hcz211_1 : wc.cell? ⟨gb235, 1, none⟩ = some (.string a1_1) := (blk_cell BK235.out 1).trans rfl
        have hcz211_2 : wc.cell? ⟨gb235, 2, none⟩ = some (.int .i64 a1_2) := (blk_cell BK235.out 2).trans rfl
        have hcz211_3 : wc.cell? ⟨gb235, 3, none⟩ = some (.bool a1_3) := (blk_cell BK235.out 3).trans rfl
        have hfz211_0 := blk_frozen BK235.out 0
        have hfz211_1 := blk_frozen BK235.out 1
        have hfz211_2 := blk_frozen BK235.out 2
        have hfz211_3 := blk_frozen BK235.out 3
        go_wp2_with (first | ((with_reducible refine gate_dst (N := 67) rfl ?_); (first | refine Go.Proofs.YtkeepnmlphbffaaDoor.Conv.V_conv _ 5 rfl (N' := 67) rfl 9 56 _ rfl Tryd.underlying9 Tryd.underlying56 Tryd.underlying5 a1_1 rfl q19y3 (Below.refl _ _) (Nat.le_refl _) ?_ | refine Go.Proofs.YtkeepnmlphbffaaDoor.Conv.V_conv_on _ 5 (by rfl) (N' := 67) rfl 9 56 _ rfl Tryd.underlying9 Tryd.underlying56 Tryd.underlying5 a1_1 rfl q19y3 (Below.refl _ _) (Nat.le_refl _) ?_); intro v244 w212 ho213 hb hg_ hnew_; clear hg_ hnew_; (first | rw [← Ny243.out] at ho213 | (simp only [Int.reduceToNat] at ho213; rw [← Ny243.out] at ho213)); have n0_ := Aside0.mk (Kd.V_lower (Kd.V_mono (ok' := fun k_ => k_ ≠ gb234 ∧ k_ ≠ gb235) ho213 (fun k_ hk_ => ⟨(Kd.freshB (g := gb234) (o := .cells #[.int .i64 a0_0, .string a0_1, .int .i64 a0_2, .bool true] 23 (0, 0)) q19y1 k_ hk_), (Kd.freshB (g := gb235) (o := .cells #[.int .i64 a1_0, .string a1_1, .int .i64 a1_2, .bool a1_3] 23 (0, 0)) q19y2 k_ hk_)⟩)) (below_size q19y0)); have n1_ := Aside0.mk (blk_below (g := gb234) (o := .cells #[.int .i64 a0_0, .string a0_1, .int .i64 a0_2, .bool true] 23 (0, 0)) q19y1 hb); have n2_ := Aside0.mk (blk_below (g := gb235) (o := .cells #[.int .i64 a1_0, .string a1_1, .int .i64 a1_2, .bool a1_3] 23 (0, 0)) q19y2 hb); have n3_ := Aside0.mk (below_step q19y0 hb); clear BK234; clear BK235; clear HB; have HO245 := n0_; have BK234 := n1_; have BK235 := n2_; have HB := n3_; clear n0_ n1_ n2_ n3_; clear hb ho213; have hcz214_0 : w212.cell? ⟨gb234, 0, none⟩ = some (.int .i64 a0_0) := (blk_cell BK234.out 0).trans rfl; have hcz214_1 : w212.cell? ⟨gb234, 1, none⟩ = some (.string a0_1) := (blk_cell BK234.out 1).trans rfl; have hcz214_2 : w212.cell? ⟨gb234, 2, none⟩ = some (.int .i64 a0_2) := (blk_cell BK234.out 2).trans rfl; have hcz214_3 : w212.cell? ⟨gb234, 3, none⟩ = some (.bool true) := (blk_cell BK234.out 3).trans rfl; have hfz214_0 := blk_frozen BK234.out 0; have hfz214_1 := blk_frozen BK234.out 1; have hfz214_2 := blk_frozen BK234.out 2; have hfz214_3 := blk_frozen BK234.out 3) | ((with_reducible refine gate_dst (N := 70) rfl ?_); (first | refine Go.Proofs.YtkeepnmlphbffaaDoor.Conv.V_conv _ 5 rfl (N' := 70) rfl 9 56 _ rfl Tryd.underlying9 Tryd.underlying56 Tryd.underlying5 a0_1 rfl q19y3 (Below.refl _ _) (Nat.le_refl _) ?_ | refine Go.Proofs.YtkeepnmlphbffaaDoor.Conv.V_conv_on _ 5 (by rfl) (N' := 70) rfl 9 56 _ rfl Tryd.underlying9 Tryd.underlying56 Tryd.underlying5 a0_1 rfl q19y3 (Below.refl _ _) (Nat.le_refl _) ?_); intro v247 w215 ho216 hb hg_ hnew_; clear hg_ hnew_; (first | rw [← Ny246.out] at ho216 | (simp only [Int.reduceToNat] at ho216; rw [← Ny246.out] at ho216)); have n0_ := Aside0.mk (Kd.V_below q19y5 hb); have n1_ := Aside0.mk (Kd.V_lower (Kd.V_mono (ok' := fun k_ => k_ ≠ gb234 ∧ k_ ≠ gb235) ho216 (fun k_ hk_ => ⟨(Kd.freshB (g := gb234) (o := .cells #[.int .i64 a0_0, .string a0_1, .int .i64 a0_2, .bool true] 23 (0, 0)) q19y1 k_ hk_), (Kd.freshB (g := gb235) (o := .cells #[.int .i64 a1_0, .string a1_1, .int .i64 a1_2, .bool a1_3] 23 (0, 0)) q19y2 k_ hk_)⟩)) (below_size q19y0)); have n2_ := Aside0.mk (blk_below (g := gb234) (o := .cells #[.int .i64 a0_0, .string a0_1, .int .i64 a0_2, .bool true] 23 (0, 0)) q19y1 hb); have n3_ := Aside0.mk (blk_below (g := gb235) (o := .cells #[.int .i64 a1_0, .string a1_1, .int .i64 a1_2, .bool a1_3] 23 (0, 0)) q19y2 hb); have n4_ := Aside0.mk (below_step q19y0 hb); clear HO245; clear BK234; clear BK235; clear HB; have HO245 := n0_; have HO248 := n1_; have BK234 := n2_; have BK235 := n3_; have HB := n4_; clear n0_ n1_ n2_ n3_ n4_; clear hb ho216; obtain ⟨Ao217, co217, eo217⟩ := Kd.V_slice HO245.out; subst eo217; obtain ⟨Ao218, co218, eo218⟩ := Kd.V_slice HO248.out; subst eo218) | (go_at_call 25; (with_reducible refine (cambiumref01_Less.calls kj17 _ _ y243 _ _ y246 false _ ?side1 ?side2 ?side3 ?side4 A143.out).mono ?_); (case side1 => repeat (first | exact (Kd.V_reads' HO245.out).2.2 | (with_reducible refine Kd.C_alloc ?_ _) | (with_reducible refine Kd.C_drewN ?_ _) | (with_reducible refine Kd.C_drew ?_))); (case side2 => exact (Kd.V_reads' HO245.out).2.1); (case side3 => repeat (first | exact (Kd.V_reads' HO248.out).2.2 | (with_reducible refine Kd.C_alloc ?_ _) | (with_reducible refine Kd.C_drewN ?_ _) | (with_reducible refine Kd.C_drew ?_))); (case side4 => exact (Kd.V_reads' HO248.out).2.1); rintro e w' ⟨rfl, ⟨nd, rfl⟩⟩; have hcz219_0 : w215.cell? ⟨gb234, 0, none⟩ = some (.int .i64 a0_0) := (blk_cell BK234.out 0).trans rfl; have hcz219_1 : w215.cell? ⟨gb234, 1, none⟩ = some (.string a0_1) := (blk_cell BK234.out 1).trans rfl; have hcz219_2 : w215.cell? ⟨gb234, 2, none⟩ = some (.int .i64 a0_2) := (blk_cell BK234.out 2).trans rfl; have hcz219_3 : w215.cell? ⟨gb234, 3, none⟩ = some (.bool true) := (blk_cell BK234.out 3).trans rfl; have hfz219_0 := blk_frozen BK234.out 0; have hfz219_1 := blk_frozen BK234.out 1; have hfz219_2 := blk_frozen BK234.out 2; have hfz219_3 := blk_frozen BK234.out 3; have hcz220_0 : w215.cell? ⟨gb235, 0, none⟩ = some (.int .i64 a1_0) := (blk_cell BK235.out 0).trans rfl; have hcz220_1 : w215.cell? ⟨gb235, 1, none⟩ = some (.string a1_1) := (blk_cell BK235.out 1).trans rfl; have hcz220_2 : w215.cell? ⟨gb235, 2, none⟩ = some (.int .i64 a1_2) := (blk_cell BK235.out 2).trans rfl; have hcz220_3 : w215.cell? ⟨gb235, 3, none⟩ = some (.bool a1_3) := (blk_cell BK235.out 3).trans rfl; have hfz220_0 := blk_frozen BK235.out 0; have hfz220_1 := blk_frozen BK235.out 1; have hfz220_2 := blk_frozen BK235.out 2; have hfz220_3 := blk_frozen BK235.out 3))
        go_meet
        case rel => exact ⟨_, (!a1_3), q19y4, H', ⟨by have := HJ2.out; have := HJ17.out; first | omega | exact Nat.le_refl _⟩, ⟨by (with_reducible repeat (first | refine blk_drewN ?_ _ | refine blk_drew ?_ | refine blk_alloc ?_ _)); exact BK234.out⟩, ⟨by (with_reducible repeat (first | refine blk_drewN ?_ _ | refine blk_drew ?_ | refine blk_alloc ?_ _)); exact BK235.out⟩, ⟨by repeat (first | (with_reducible first | exact HB.out | apply below_alloc | apply pw_below_drewN | apply below_drew1 | refine below_set ?_ GE234.out | refine below_set ?_ GE235.out) | exact HB.out)⟩⟩
       replace c208 := Bool.eq_false_iff.mpr c208
       subst c208
       have H1 : (cambiumref16_Compare.j2 kj17 x6_17 false) = some (r1, r2) := by rw [if_neg (show ¬ (false = true) by decide)] at H; exact H
       clear H
       have H := H1
       clear H1
       have H' := Aside0.mk H
       clear H
       have hnb221 := NB234_235.out
       have hnc221 := NB235_234.out
       have hcz222_0 : wc.cell? ⟨gb234, 0, none⟩ = some (.int .i64 a0_0) := (blk_cell BK234.out 0).trans rfl
       have hcz222_1 : wc.cell? ⟨gb234, 1, none⟩ = some (.string a0_1) := (blk_cell BK234.out 1).trans rfl
       have hcz222_2 : wc.cell? ⟨gb234, 2, none⟩ = some (.int .i64 a0_2) := (blk_cell BK234.out 2).trans rfl
       have hcz222_3 : wc.cell? ⟨gb234, 3, none⟩ = some (.bool false) := (blk_cell BK234.out 3).trans rfl
       have hfz222_0 := blk_frozen BK234.out 0
       have hfz222_1 := blk_frozen BK234.out 1
       have hfz222_2 := blk_frozen BK234.out 2
       have hfz222_3 := blk_frozen BK234.out 3
       have hcz223_0 : wc.cell? ⟨gb235, 0, none⟩ = some (.int .i64 a1_0) := (blk_cell BK235.out 0).trans rfl
       have hcz223_1 : wc.cell? ⟨gb235, 1, none⟩ = some (.string a1_1) := (blk_cell BK235.out 1).trans rfl
       have hcz223_2 : wc.cell? ⟨gb235, 2, none⟩ = some (.int .i64 a1_2) := (blk_cell BK235.out 2).trans rfl
       have hcz223_3 : wc.cell? ⟨gb235, 3, none⟩ = some (.bool a1_3) := (blk_cell BK235.out 3).trans rfl
       have hfz223_0 := blk_frozen BK235.out 0
       have hfz223_1 := blk_frozen BK235.out 1
       have hfz223_2 := blk_frozen BK235.out 2
       have hfz223_3 := blk_frozen BK235.out 3
       go_wp2_with (first | ((with_reducible refine gate_dst (N := 67) rfl ?_); (first | refine Go.Proofs.YtkeepnmlphbffaaDoor.Conv.V_conv _ 5 rfl (N' := 67) rfl 9 56 _ rfl Tryd.underlying9 Tryd.underlying56 Tryd.underlying5 a1_1 rfl q19y3 (Below.refl _ _) (Nat.le_refl _) ?_ | refine Go.Proofs.YtkeepnmlphbffaaDoor.Conv.V_conv_on _ 5 (by rfl) (N' := 67) rfl 9 56 _ rfl Tryd.underlying9 Tryd.underlying56 Tryd.underlying5 a1_1 rfl q19y3 (Below.refl _ _) (Nat.le_refl _) ?_); intro v244 w224 ho225 hb hg_ hnew_; clear hg_ hnew_; (first | rw [← Ny243.out] at ho225 | (simp only [Int.reduceToNat] at ho225; rw [← Ny243.out] at ho225)); have n0_ := Aside0.mk (Kd.V_lower (Kd.V_mono (ok' := fun k_ => k_ ≠ gb234 ∧ k_ ≠ gb235) ho225 (fun k_ hk_ => ⟨(Kd.freshB (g := gb234) (o := .cells #[.int .i64 a0_0, .string a0_1, .int .i64 a0_2, .bool false] 23 (0, 0)) q19y1 k_ hk_), (Kd.freshB (g := gb235) (o := .cells #[.int .i64 a1_0, .string a1_1, .int .i64 a1_2, .bool a1_3] 23 (0, 0)) q19y2 k_ hk_)⟩)) (below_size q19y0)); have n1_ := Aside0.mk (blk_below (g := gb234) (o := .cells #[.int .i64 a0_0, .string a0_1, .int .i64 a0_2, .bool false] 23 (0, 0)) q19y1 hb); have n2_ := Aside0.mk (blk_below (g := gb235) (o := .cells #[.int .i64 a1_0, .string a1_1, .int .i64 a1_2, .bool a1_3] 23 (0, 0)) q19y2 hb); have n3_ := Aside0.mk (below_step q19y0 hb); clear BK234; clear BK235; clear HB; have HO245 := n0_; have BK234 := n1_; have BK235 := n2_; have HB := n3_; clear n0_ n1_ n2_ n3_; clear hb ho225; have hcz226_0 : w224.cell? ⟨gb234, 0, none⟩ = some (.int .i64 a0_0) := (blk_cell BK234.out 0).trans rfl; have hcz226_1 : w224.cell? ⟨gb234, 1, none⟩ = some (.string a0_1) := (blk_cell BK234.out 1).trans rfl; have hcz226_2 : w224.cell? ⟨gb234, 2, none⟩ = some (.int .i64 a0_2) := (blk_cell BK234.out 2).trans rfl; have hcz226_3 : w224.cell? ⟨gb234, 3, none⟩ = some (.bool false) := (blk_cell BK234.out 3).trans rfl; have hfz226_0 := blk_frozen BK234.out 0; have hfz226_1 := blk_frozen BK234.out 1; have hfz226_2 := blk_frozen BK234.out 2; have hfz226_3 := blk_frozen BK234.out 3) | ((with_reducible refine gate_dst (N := 70) rfl ?_); (first | refine Go.Proofs.YtkeepnmlphbffaaDoor.Conv.V_conv _ 5 rfl (N' := 70) rfl 9 56 _ rfl Tryd.underlying9 Tryd.underlying56 Tryd.underlying5 a0_1 rfl q19y3 (Below.refl _ _) (Nat.le_refl _) ?_ | refine Go.Proofs.YtkeepnmlphbffaaDoor.Conv.V_conv_on _ 5 (by rfl) (N' := 70) rfl 9 56 _ rfl Tryd.underlying9 Tryd.underlying56 Tryd.underlying5 a0_1 rfl q19y3 (Below.refl _ _) (Nat.le_refl _) ?_); intro v247 w227 ho228 hb hg_ hnew_; clear hg_ hnew_; (first | rw [← Ny246.out] at ho228 | (simp only [Int.reduceToNat] at ho228; rw [← Ny246.out] at ho228)); have n0_ := Aside0.mk (Kd.V_below q19y5 hb); have n1_ := Aside0.mk (Kd.V_lower (Kd.V_mono (ok' := fun k_ => k_ ≠ gb234 ∧ k_ ≠ gb235) ho228 (fun k_ hk_ => ⟨(Kd.freshB (g := gb234) (o := .cells #[.int .i64 a0_0, .string a0_1, .int .i64 a0_2, .bool false] 23 (0, 0)) q19y1 k_ hk_), (Kd.freshB (g := gb235) (o := .cells #[.int .i64 a1_0, .string a1_1, .int .i64 a1_2, .bool a1_3] 23 (0, 0)) q19y2 k_ hk_)⟩)) (below_size q19y0)); have n2_ := Aside0.mk (blk_below (g := gb234) (o := .cells #[.int .i64 a0_0, .string a0_1, .int .i64 a0_2, .bool false] 23 (0, 0)) q19y1 hb); have n3_ := Aside0.mk (blk_below (g := gb235) (o := .cells #[.int .i64 a1_0, .string a1_1, .int .i64 a1_2, .bool a1_3] 23 (0, 0)) q19y2 hb); have n4_ := Aside0.mk (below_step q19y0 hb); clear HO245; clear BK234; clear BK235; clear HB; have HO245 := n0_; have HO248 := n1_; have BK234 := n2_; have BK235 := n3_; have HB := n4_; clear n0_ n1_ n2_ n3_ n4_; clear hb ho228; obtain ⟨Ao229, co229, eo229⟩ := Kd.V_slice HO245.out; subst eo229; obtain ⟨Ao230, co230, eo230⟩ := Kd.V_slice HO248.out; subst eo230) | (go_at_call 25; (with_reducible refine (cambiumref01_Less.calls kj17 _ _ y243 _ _ y246 false _ ?side1 ?side2 ?side3 ?side4 A143.out).mono ?_); (case side1 => repeat (first | exact (Kd.V_reads' HO245.out).2.2 | (with_reducible refine Kd.C_alloc ?_ _) | (with_reducible refine Kd.C_drewN ?_ _) | (with_reducible refine Kd.C_drew ?_))); (case side2 => exact (Kd.V_reads' HO245.out).2.1); (case side3 => repeat (first | exact (Kd.V_reads' HO248.out).2.2 | (with_reducible refine Kd.C_alloc ?_ _) | (with_reducible refine Kd.C_drewN ?_ _) | (with_reducible refine Kd.C_drew ?_))); (case side4 => exact (Kd.V_reads' HO248.out).2.1); rintro e w' ⟨rfl, ⟨nd, rfl⟩⟩; have hcz231_0 : w227.cell? ⟨gb234, 0, none⟩ = some (.int .i64 a0_0) := (blk_cell BK234.out 0).trans rfl; have hcz231_1 : w227.cell? ⟨gb234, 1, none⟩ = some (.string a0_1) := (blk_cell BK234.out 1).trans rfl; have hcz231_2 : w227.cell? ⟨gb234, 2, none⟩ = some (.int .i64 a0_2) := (blk_cell BK234.out 2).trans rfl; have hcz231_3 : w227.cell? ⟨gb234, 3, none⟩ = some (.bool false) := (blk_cell BK234.out 3).trans rfl; have hfz231_0 := blk_frozen BK234.out 0; have hfz231_1 := blk_frozen BK234.out 1; have hfz231_2 := blk_frozen BK234.out 2; have hfz231_3 := blk_frozen BK234.out 3))
       go_meet
       case rel => exact ⟨_, (false), q19y4, H', ⟨by have := HJ2.out; have := HJ17.out; first | omega | exact Nat.le_refl _⟩, ⟨by (with_reducible repeat (first | refine blk_drewN ?_ _ | refine blk_drew ?_ | refine blk_alloc ?_ _)); exact BK234.out⟩, ⟨by (with_reducible repeat (first | refine blk_drewN ?_ _ | refine blk_drew ?_ | refine blk_alloc ?_ _)); exact BK235.out⟩, ⟨by repeat (first | (with_reducible first | exact HB.out | apply below_alloc | apply pw_below_drewN | apply below_drew1 | refine below_set ?_ GE234.out | refine below_set ?_ GE235.out) | exact HB.out)⟩⟩
      rw [if_pos c155] at H
      have c155b0 : (a0_0 == 1) = true := beq_iff_eq.mpr c155
      have c155b1 : (a0_0 != 1) = false := bne_eq_false_iff_eq.mpr c155
      clear c155
      by_cases c156 : a0_2 > a1_2
      ·rw [if_pos c156] at H
       have c156b0 : decide (a1_2 < a0_2) = true := decide_eq_true c156
       clear c156
       have H' := Aside0.mk H
       clear H
       have hnb157 := NB234_235.out
       have hnc157 := NB235_234.out
       have hcz158_0 : wc.cell? ⟨gb234, 0, none⟩ = some (.int .i64 a0_0) := (blk_cell BK234.out 0).trans rfl
       have hcz158_1 : wc.cell? ⟨gb234, 1, none⟩ = some (.string a0_1) := (blk_cell BK234.out 1).trans rfl
       have hcz158_2 : wc.cell? ⟨gb234, 2, none⟩ = some (.int .i64 a0_2) := (blk_cell BK234.out 2).trans rfl
       have hcz158_3 : wc.cell? ⟨gb234, 3, none⟩ = some (.bool a0_3) := (blk_cell BK234.out 3).trans rfl
       have hfz158_0 := blk_frozen BK234.out 0
       have hfz158_1 := blk_frozen BK234.out 1
       have hfz158_2 := blk_frozen BK234.out 2
       have hfz158_3 := blk_frozen BK234.out 3
       have hcz159_0 : wc.cell? ⟨gb235, 0, none⟩ = some (.int .i64 a1_0) := (blk_cell BK235.out 0).trans rfl
       have hcz159_1 : wc.cell? ⟨gb235, 1, none⟩ = some (.string a1_1) := (blk_cell BK235.out 1).trans rfl
       have hcz159_2 : wc.cell? ⟨gb235, 2, none⟩ = some (.int .i64 a1_2) := (blk_cell BK235.out 2).trans rfl
       have hcz159_3 : wc.cell? ⟨gb235, 3, none⟩ = some (.bool a1_3) := (blk_cell BK235.out 3).trans rfl
       have hfz159_0 := blk_frozen BK235.out 0
       have hfz159_1 := blk_frozen BK235.out 1
       have hfz159_2 := blk_frozen BK235.out 2
       have hfz159_3 := blk_frozen BK235.out 3
       go_wp2_with (first | ((with_reducible refine gate_dst (N := 67) rfl ?_); (first | refine Go.Proofs.YtkeepnmlphbffaaDoor.Conv.V_conv _ 5 rfl (N' := 67) rfl 9 56 _ rfl Tryd.underlying9 Tryd.underlying56 Tryd.underlying5 a1_1 rfl q19y3 (Below.refl _ _) (Nat.le_refl _) ?_ | refine Go.Proofs.YtkeepnmlphbffaaDoor.Conv.V_conv_on _ 5 (by rfl) (N' := 67) rfl 9 56 _ rfl Tryd.underlying9 Tryd.underlying56 Tryd.underlying5 a1_1 rfl q19y3 (Below.refl _ _) (Nat.le_refl _) ?_); intro v244 w160 ho161 hb hg_ hnew_; clear hg_ hnew_; (first | rw [← Ny243.out] at ho161 | (simp only [Int.reduceToNat] at ho161; rw [← Ny243.out] at ho161)); have n0_ := Aside0.mk (Kd.V_lower (Kd.V_mono (ok' := fun k_ => k_ ≠ gb234 ∧ k_ ≠ gb235) ho161 (fun k_ hk_ => ⟨(Kd.freshB (g := gb234) (o := .cells #[.int .i64 a0_0, .string a0_1, .int .i64 a0_2, .bool a0_3] 23 (0, 0)) q19y1 k_ hk_), (Kd.freshB (g := gb235) (o := .cells #[.int .i64 a1_0, .string a1_1, .int .i64 a1_2, .bool a1_3] 23 (0, 0)) q19y2 k_ hk_)⟩)) (below_size q19y0)); have n1_ := Aside0.mk (blk_below (g := gb234) (o := .cells #[.int .i64 a0_0, .string a0_1, .int .i64 a0_2, .bool a0_3] 23 (0, 0)) q19y1 hb); have n2_ := Aside0.mk (blk_below (g := gb235) (o := .cells #[.int .i64 a1_0, .string a1_1, .int .i64 a1_2, .bool a1_3] 23 (0, 0)) q19y2 hb); have n3_ := Aside0.mk (below_step q19y0 hb); clear BK234; clear BK235; clear HB; have HO245 := n0_; have BK234 := n1_; have BK235 := n2_; have HB := n3_; clear n0_ n1_ n2_ n3_; clear hb ho161; have hcz162_0 : w160.cell? ⟨gb234, 0, none⟩ = some (.int .i64 a0_0) := (blk_cell BK234.out 0).trans rfl; have hcz162_1 : w160.cell? ⟨gb234, 1, none⟩ = some (.string a0_1) := (blk_cell BK234.out 1).trans rfl; have hcz162_2 : w160.cell? ⟨gb234, 2, none⟩ = some (.int .i64 a0_2) := (blk_cell BK234.out 2).trans rfl; have hcz162_3 : w160.cell? ⟨gb234, 3, none⟩ = some (.bool a0_3) := (blk_cell BK234.out 3).trans rfl; have hfz162_0 := blk_frozen BK234.out 0; have hfz162_1 := blk_frozen BK234.out 1; have hfz162_2 := blk_frozen BK234.out 2; have hfz162_3 := blk_frozen BK234.out 3) | ((with_reducible refine gate_dst (N := 70) rfl ?_); (first | refine Go.Proofs.YtkeepnmlphbffaaDoor.Conv.V_conv _ 5 rfl (N' := 70) rfl 9 56 _ rfl Tryd.underlying9 Tryd.underlying56 Tryd.underlying5 a0_1 rfl q19y3 (Below.refl _ _) (Nat.le_refl _) ?_ | refine Go.Proofs.YtkeepnmlphbffaaDoor.Conv.V_conv_on _ 5 (by rfl) (N' := 70) rfl 9 56 _ rfl Tryd.underlying9 Tryd.underlying56 Tryd.underlying5 a0_1 rfl q19y3 (Below.refl _ _) (Nat.le_refl _) ?_); intro v247 w163 ho164 hb hg_ hnew_; clear hg_ hnew_; (first | rw [← Ny246.out] at ho164 | (simp only [Int.reduceToNat] at ho164; rw [← Ny246.out] at ho164)); have n0_ := Aside0.mk (Kd.V_below q19y5 hb); have n1_ := Aside0.mk (Kd.V_lower (Kd.V_mono (ok' := fun k_ => k_ ≠ gb234 ∧ k_ ≠ gb235) ho164 (fun k_ hk_ => ⟨(Kd.freshB (g := gb234) (o := .cells #[.int .i64 a0_0, .string a0_1, .int .i64 a0_2, .bool a0_3] 23 (0, 0)) q19y1 k_ hk_), (Kd.freshB (g := gb235) (o := .cells #[.int .i64 a1_0, .string a1_1, .int .i64 a1_2, .bool a1_3] 23 (0, 0)) q19y2 k_ hk_)⟩)) (below_size q19y0)); have n2_ := Aside0.mk (blk_below (g := gb234) (o := .cells #[.int .i64 a0_0, .string a0_1, .int .i64 a0_2, .bool a0_3] 23 (0, 0)) q19y1 hb); have n3_ := Aside0.mk (blk_below (g := gb235) (o := .cells #[.int .i64 a1_0, .string a1_1, .int .i64 a1_2, .bool a1_3] 23 (0, 0)) q19y2 hb); have n4_ := Aside0.mk (below_step q19y0 hb); clear HO245; clear BK234; clear BK235; clear HB; have HO245 := n0_; have HO248 := n1_; have BK234 := n2_; have BK235 := n3_; have HB := n4_; clear n0_ n1_ n2_ n3_ n4_; clear hb ho164; obtain ⟨Ao165, co165, eo165⟩ := Kd.V_slice HO245.out; subst eo165; obtain ⟨Ao166, co166, eo166⟩ := Kd.V_slice HO248.out; subst eo166) | (go_at_call 25; (with_reducible refine (cambiumref01_Less.calls kj17 _ _ y243 _ _ y246 false _ ?side1 ?side2 ?side3 ?side4 A143.out).mono ?_); (case side1 => repeat (first | exact (Kd.V_reads' HO245.out).2.2 | (with_reducible refine Kd.C_alloc ?_ _) | (with_reducible refine Kd.C_drewN ?_ _) | (with_reducible refine Kd.C_drew ?_))); (case side2 => exact (Kd.V_reads' HO245.out).2.1); (case side3 => repeat (first | exact (Kd.V_reads' HO248.out).2.2 | (with_reducible refine Kd.C_alloc ?_ _) | (with_reducible refine Kd.C_drewN ?_ _) | (with_reducible refine Kd.C_drew ?_))); (case side4 => exact (Kd.V_reads' HO248.out).2.1); rintro e w' ⟨rfl, ⟨nd, rfl⟩⟩; have hcz167_0 : w163.cell? ⟨gb234, 0, none⟩ = some (.int .i64 a0_0) := (blk_cell BK234.out 0).trans rfl; have hcz167_1 : w163.cell? ⟨gb234, 1, none⟩ = some (.string a0_1) := (blk_cell BK234.out 1).trans rfl; have hcz167_2 : w163.cell? ⟨gb234, 2, none⟩ = some (.int .i64 a0_2) := (blk_cell BK234.out 2).trans rfl; have hcz167_3 : w163.cell? ⟨gb234, 3, none⟩ = some (.bool a0_3) := (blk_cell BK234.out 3).trans rfl; have hfz167_0 := blk_frozen BK234.out 0; have hfz167_1 := blk_frozen BK234.out 1; have hfz167_2 := blk_frozen BK234.out 2; have hfz167_3 := blk_frozen BK234.out 3; have hcz168_0 : w163.cell? ⟨gb235, 0, none⟩ = some (.int .i64 a1_0) := (blk_cell BK235.out 0).trans rfl; have hcz168_1 : w163.cell? ⟨gb235, 1, none⟩ = some (.string a1_1) := (blk_cell BK235.out 1).trans rfl; have hcz168_2 : w163.cell? ⟨gb235, 2, none⟩ = some (.int .i64 a1_2) := (blk_cell BK235.out 2).trans rfl; have hcz168_3 : w163.cell? ⟨gb235, 3, none⟩ = some (.bool a1_3) := (blk_cell BK235.out 3).trans rfl; have hfz168_0 := blk_frozen BK235.out 0; have hfz168_1 := blk_frozen BK235.out 1; have hfz168_2 := blk_frozen BK235.out 2; have hfz168_3 := blk_frozen BK235.out 3))
       go_meet
       case rel => exact ⟨_, (true), q19y4, H', ⟨by have := HJ2.out; have := HJ17.out; first | omega | exact Nat.le_refl _⟩, ⟨by (with_reducible repeat (first | refine blk_drewN ?_ _ | refine blk_drew ?_ | refine blk_alloc ?_ _)); exact BK234.out⟩, ⟨by (with_reducible repeat (first | refine blk_drewN ?_ _ | refine blk_drew ?_ | refine blk_alloc ?_ _)); exact BK235.out⟩, ⟨by repeat (first | (with_reducible first | exact HB.out | apply below_alloc | apply pw_below_drewN | apply below_drew1 | refine below_set ?_ GE234.out | refine below_set ?_ GE235.out) | exact HB.out)⟩⟩
      rw [if_neg c156] at H
      have c156b0 : decide (a1_2 < a0_2) = false := decide_eq_false c156
      clear c156
      by_cases c169 : a0_0 = 2
      rotate_left
      ·rw [if_neg c169] at H
       have c169b0 : (a0_0 == 2) = false := beq_eq_false_iff_ne.mpr c169
       have c169b1 : (a0_0 != 2) = true := bne_iff_ne.mpr c169
       have H' := Aside0.mk H
       clear H
       have hnb195 := NB234_235.out
       have hnc195 := NB235_234.out
       have hcz196_0 : wc.cell? ⟨gb234, 0, none⟩ = some (.int .i64 a0_0) := (blk_cell BK234.out 0).trans rfl
       have hcz196_1 : wc.cell? ⟨gb234, 1, none⟩ = some (.string a0_1) := (blk_cell BK234.out 1).trans rfl
       have hcz196_2 : wc.cell? ⟨gb234, 2, none⟩ = some (.int .i64 a0_2) := (blk_cell BK234.out 2).trans rfl
       have hcz196_3 : wc.cell? ⟨gb234, 3, none⟩ = some (.bool a0_3) := (blk_cell BK234.out 3).trans rfl
       have hfz196_0 := blk_frozen BK234.out 0
       have hfz196_1 := blk_frozen BK234.out 1
       have hfz196_2 := blk_frozen BK234.out 2
       have hfz196_3 := blk_frozen BK234.out 3
       have hcz197_0 : wc.cell? ⟨gb235, 0, none⟩ = some (.int .i64 a1_0) := (blk_cell BK235.out 0).trans rfl
       have hcz197_1 : wc.cell? ⟨gb235, 1, none⟩ = some (.string a1_1) := (blk_cell BK235.out 1).trans rfl
       have hcz197_2 : wc.cell? ⟨gb235, 2, none⟩ = some (.int .i64 a1_2) := (blk_cell BK235.out 2).trans rfl
       have hcz197_3 : wc.cell? ⟨gb235, 3, none⟩ = some (.bool a1_3) := (blk_cell BK235.out 3).trans rfl
       have hfz197_0 := blk_frozen BK235.out 0
       have hfz197_1 := blk_frozen BK235.out 1
       have hfz197_2 := blk_frozen BK235.out 2
       have hfz197_3 := blk_frozen BK235.out 3
       go_wp2_with (first | ((with_reducible refine gate_dst (N := 67) rfl ?_); (first | refine Go.Proofs.YtkeepnmlphbffaaDoor.Conv.V_conv _ 5 rfl (N' := 67) rfl 9 56 _ rfl Tryd.underlying9 Tryd.underlying56 Tryd.underlying5 a1_1 rfl q19y3 (Below.refl _ _) (Nat.le_refl _) ?_ | refine Go.Proofs.YtkeepnmlphbffaaDoor.Conv.V_conv_on _ 5 (by rfl) (N' := 67) rfl 9 56 _ rfl Tryd.underlying9 Tryd.underlying56 Tryd.underlying5 a1_1 rfl q19y3 (Below.refl _ _) (Nat.le_refl _) ?_); intro v244 w198 ho199 hb hg_ hnew_; clear hg_ hnew_; (first | rw [← Ny243.out] at ho199 | (simp only [Int.reduceToNat] at ho199; rw [← Ny243.out] at ho199)); have n0_ := Aside0.mk (Kd.V_lower (Kd.V_mono (ok' := fun k_ => k_ ≠ gb234 ∧ k_ ≠ gb235) ho199 (fun k_ hk_ => ⟨(Kd.freshB (g := gb234) (o := .cells #[.int .i64 a0_0, .string a0_1, .int .i64 a0_2, .bool a0_3] 23 (0, 0)) q19y1 k_ hk_), (Kd.freshB (g := gb235) (o := .cells #[.int .i64 a1_0, .string a1_1, .int .i64 a1_2, .bool a1_3] 23 (0, 0)) q19y2 k_ hk_)⟩)) (below_size q19y0)); have n1_ := Aside0.mk (blk_below (g := gb234) (o := .cells #[.int .i64 a0_0, .string a0_1, .int .i64 a0_2, .bool a0_3] 23 (0, 0)) q19y1 hb); have n2_ := Aside0.mk (blk_below (g := gb235) (o := .cells #[.int .i64 a1_0, .string a1_1, .int .i64 a1_2, .bool a1_3] 23 (0, 0)) q19y2 hb); have n3_ := Aside0.mk (below_step q19y0 hb); clear BK234; clear BK235; clear HB; have HO245 := n0_; have BK234 := n1_; have BK235 := n2_; have HB := n3_; clear n0_ n1_ n2_ n3_; clear hb ho199; have hcz200_0 : w198.cell? ⟨gb234, 0, none⟩ = some (.int .i64 a0_0) := (blk_cell BK234.out 0).trans rfl; have hcz200_1 : w198.cell? ⟨gb234, 1, none⟩ = some (.string a0_1) := (blk_cell BK234.out 1).trans rfl; have hcz200_2 : w198.cell? ⟨gb234, 2, none⟩ = some (.int .i64 a0_2) := (blk_cell BK234.out 2).trans rfl; have hcz200_3 : w198.cell? ⟨gb234, 3, none⟩ = some (.bool a0_3) := (blk_cell BK234.out 3).trans rfl; have hfz200_0 := blk_frozen BK234.out 0; have hfz200_1 := blk_frozen BK234.out 1; have hfz200_2 := blk_frozen BK234.out 2; have hfz200_3 := blk_frozen BK234.out 3) | ((with_reducible refine gate_dst (N := 70) rfl ?_); (first | refine Go.Proofs.YtkeepnmlphbffaaDoor.Conv.V_conv _ 5 rfl (N' := 70) rfl 9 56 _ rfl Tryd.underlying9 Tryd.underlying56 Tryd.underlying5 a0_1 rfl q19y3 (Below.refl _ _) (Nat.le_refl _) ?_ | refine Go.Proofs.YtkeepnmlphbffaaDoor.Conv.V_conv_on _ 5 (by rfl) (N' := 70) rfl 9 56 _ rfl Tryd.underlying9 Tryd.underlying56 Tryd.underlying5 a0_1 rfl q19y3 (Below.refl _ _) (Nat.le_refl _) ?_); intro v247 w201 ho202 hb hg_ hnew_; clear hg_ hnew_; (first | rw [← Ny246.out] at ho202 | (simp only [Int.reduceToNat] at ho202; rw [← Ny246.out] at ho202)); have n0_ := Aside0.mk (Kd.V_below q19y5 hb); have n1_ := Aside0.mk (Kd.V_lower (Kd.V_mono (ok' := fun k_ => k_ ≠ gb234 ∧ k_ ≠ gb235) ho202 (fun k_ hk_ => ⟨(Kd.freshB (g := gb234) (o := .cells #[.int .i64 a0_0, .string a0_1, .int .i64 a0_2, .bool a0_3] 23 (0, 0)) q19y1 k_ hk_), (Kd.freshB (g := gb235) (o := .cells #[.int .i64 a1_0, .string a1_1, .int .i64 a1_2, .bool a1_3] 23 (0, 0)) q19y2 k_ hk_)⟩)) (below_size q19y0)); have n2_ := Aside0.mk (blk_below (g := gb234) (o := .cells #[.int .i64 a0_0, .string a0_1, .int .i64 a0_2, .bool a0_3] 23 (0, 0)) q19y1 hb); have n3_ := Aside0.mk (blk_below (g := gb235) (o := .cells #[.int .i64 a1_0, .string a1_1, .int .i64 a1_2, .bool a1_3] 23 (0, 0)) q19y2 hb); have n4_ := Aside0.mk (below_step q19y0 hb); clear HO245; clear BK234; clear BK235; clear HB; have HO245 := n0_; have HO248 := n1_; have BK234 := n2_; have BK235 := n3_; have HB := n4_; clear n0_ n1_ n2_ n3_ n4_; clear hb ho202; obtain ⟨Ao203, co203, eo203⟩ := Kd.V_slice HO245.out; subst eo203; obtain ⟨Ao204, co204, eo204⟩ := Kd.V_slice HO248.out; subst eo204) | (go_at_call 25; (with_reducible refine (cambiumref01_Less.calls kj17 _ _ y243 _ _ y246 false _ ?side1 ?side2 ?side3 ?side4 A143.out).mono ?_); (case side1 => repeat (first | exact (Kd.V_reads' HO245.out).2.2 | (with_reducible refine Kd.C_alloc ?_ _) | (with_reducible refine Kd.C_drewN ?_ _) | (with_reducible refine Kd.C_drew ?_))); (case side2 => exact (Kd.V_reads' HO245.out).2.1); (case side3 => repeat (first | exact (Kd.V_reads' HO248.out).2.2 | (with_reducible refine Kd.C_alloc ?_ _) | (with_reducible refine Kd.C_drewN ?_ _) | (with_reducible refine Kd.C_drew ?_))); (case side4 => exact (Kd.V_reads' HO248.out).2.1); rintro e w' ⟨rfl, ⟨nd, rfl⟩⟩; have hcz205_0 : w201.cell? ⟨gb234, 0, none⟩ = some (.int .i64 a0_0) := (blk_cell BK234.out 0).trans rfl; have hcz205_1 : w201.cell? ⟨gb234, 1, none⟩ = some (.string a0_1) := (blk_cell BK234.out 1).trans rfl; have hcz205_2 : w201.cell? ⟨gb234, 2, none⟩ = some (.int .i64 a0_2) := (blk_cell BK234.out 2).trans rfl; have hcz205_3 : w201.cell? ⟨gb234, 3, none⟩ = some (.bool a0_3) := (blk_cell BK234.out 3).trans rfl; have hfz205_0 := blk_frozen BK234.out 0; have hfz205_1 := blk_frozen BK234.out 1; have hfz205_2 := blk_frozen BK234.out 2; have hfz205_3 := blk_frozen BK234.out 3; have hcz206_0 : w201.cell? ⟨gb235, 0, none⟩ = some (.int .i64 a1_0) := (blk_cell BK235.out 0).trans rfl; have hcz206_1 : w201.cell? ⟨gb235, 1, none⟩ = some (.string a1_1) := (blk_cell BK235.out 1).trans rfl; have hcz206_2 : w201.cell? ⟨gb235, 2, none⟩ = some (.int .i64 a1_2) := (blk_cell BK235.out 2).trans rfl; have hcz206_3 : w201.cell? ⟨gb235, 3, none⟩ = some (.bool a1_3) := (blk_cell BK235.out 3).trans rfl; have hfz206_0 := blk_frozen BK235.out 0; have hfz206_1 := blk_frozen BK235.out 1; have hfz206_2 := blk_frozen BK235.out 2; have hfz206_3 := blk_frozen BK235.out 3))
       go_meet
       case rel => exact ⟨_, (false), q19y4, H', ⟨by have := HJ2.out; have := HJ17.out; first | omega | exact Nat.le_refl _⟩, ⟨by (with_reducible repeat (first | refine blk_drewN ?_ _ | refine blk_drew ?_ | refine blk_alloc ?_ _)); exact BK234.out⟩, ⟨by (with_reducible repeat (first | refine blk_drewN ?_ _ | refine blk_drew ?_ | refine blk_alloc ?_ _)); exact BK235.out⟩, ⟨by repeat (first | (with_reducible first | exact HB.out | apply below_alloc | apply pw_below_drewN | apply below_drew1 | refine below_set ?_ GE234.out | refine below_set ?_ GE235.out) | exact HB.out)⟩⟩
      rw [if_pos c169] at H
      have c169b0 : (a0_0 == 2) = true := beq_iff_eq.mpr c169
      have c169b1 : (a0_0 != 2) = false := bne_eq_false_iff_eq.mpr c169
      clear c169
      by_cases c170 : a0_3 = true
      ·subst c170
       have H1 : (cambiumref16_Compare.j2 kj17 x6_17 (!a1_3)) = some (r1, r2) := by rw [if_pos rfl] at H; exact H
       clear H
       have H := H1
       clear H1
       have H' := Aside0.mk H
       clear H
       have hnb171 := NB234_235.out
       have hnc171 := NB235_234.out
       have hcz172_0 : wc.cell? ⟨gb234, 0, none⟩ = some (.int .i64 a0_0) := (blk_cell BK234.out 0).trans rfl
       have hcz172_1 : wc.cell? ⟨gb234, 1, none⟩ = some (.string a0_1) := (blk_cell BK234.out 1).trans rfl
       have hcz172_2 : wc.cell? ⟨gb234, 2, none⟩ = some (.int .i64 a0_2) := (blk_cell BK234.out 2).trans rfl
       have hcz172_3 : wc.cell? ⟨gb234, 3, none⟩ = some (.bool true) := (blk_cell BK234.out 3).trans rfl
       have hfz172_0 := blk_frozen BK234.out 0
       have hfz172_1 := blk_frozen BK234.out 1
       have hfz172_2 := blk_frozen BK234.out 2
       have hfz172_3 := blk_frozen BK234.out 3
       have hcz173_0 : wc.cell? ⟨gb235, 0, none⟩ = some (.int .i64 a1_0) := (blk_cell BK235.out 0).trans rfl
       have hcz173_1 : wc.cell? ⟨gb235, 1, none⟩ = some (.string a1_1) := (blk_cell BK235.out 1).trans rfl
       have hcz173_2 : wc.cell? ⟨gb235, 2, none⟩ = some (.int .i64 a1_2) := (blk_cell BK235.out 2).trans rfl
       have hcz173_3 : wc.cell? ⟨gb235, 3, none⟩ = some (.bool a1_3) := (blk_cell BK235.out 3).trans rfl
       have hfz173_0 := blk_frozen BK235.out 0
       have hfz173_1 := blk_frozen BK235.out 1
       have hfz173_2 := blk_frozen BK235.out 2
       have hfz173_3 := blk_frozen BK235.out 3
       go_wp2_with (first | ((with_reducible refine gate_dst (N := 67) rfl ?_); (first | refine Go.Proofs.YtkeepnmlphbffaaDoor.Conv.V_conv _ 5 rfl (N' := 67) rfl 9 56 _ rfl Tryd.underlying9 Tryd.underlying56 Tryd.underlying5 a1_1 rfl q19y3 (Below.refl _ _) (Nat.le_refl _) ?_ | refine Go.Proofs.YtkeepnmlphbffaaDoor.Conv.V_conv_on _ 5 (by rfl) (N' := 67) rfl 9 56 _ rfl Tryd.underlying9 Tryd.underlying56 Tryd.underlying5 a1_1 rfl q19y3 (Below.refl _ _) (Nat.le_refl _) ?_); intro v244 w174 ho175 hb hg_ hnew_; clear hg_ hnew_; (first | rw [← Ny243.out] at ho175 | (simp only [Int.reduceToNat] at ho175; rw [← Ny243.out] at ho175)); have n0_ := Aside0.mk (Kd.V_lower (Kd.V_mono (ok' := fun k_ => k_ ≠ gb234 ∧ k_ ≠ gb235) ho175 (fun k_ hk_ => ⟨(Kd.freshB (g := gb234) (o := .cells #[.int .i64 a0_0, .string a0_1, .int .i64 a0_2, .bool true] 23 (0, 0)) q19y1 k_ hk_), (Kd.freshB (g := gb235) (o := .cells #[.int .i64 a1_0, .string a1_1, .int .i64 a1_2, .bool a1_3] 23 (0, 0)) q19y2 k_ hk_)⟩)) (below_size q19y0)); have n1_ := Aside0.mk (blk_below (g := gb234) (o := .cells #[.int .i64 a0_0, .string a0_1, .int .i64 a0_2, .bool true] 23 (0, 0)) q19y1 hb); have n2_ := Aside0.mk (blk_below (g := gb235) (o := .cells #[.int .i64 a1_0, .string a1_1, .int .i64 a1_2, .bool a1_3] 23 (0, 0)) q19y2 hb); have n3_ := Aside0.mk (below_step q19y0 hb); clear BK234; clear BK235; clear HB; have HO245 := n0_; have BK234 := n1_; have BK235 := n2_; have HB := n3_; clear n0_ n1_ n2_ n3_; clear hb ho175; have hcz176_0 : w174.cell? ⟨gb234, 0, none⟩ = some (.int .i64 a0_0) := (blk_cell BK234.out 0).trans rfl; have hcz176_1 : w174.cell? ⟨gb234, 1, none⟩ = some (.string a0_1) := (blk_cell BK234.out 1).trans rfl; have hcz176_2 : w174.cell? ⟨gb234, 2, none⟩ = some (.int .i64 a0_2) := (blk_cell BK234.out 2).trans rfl; have hcz176_3 : w174.cell? ⟨gb234, 3, none⟩ = some (.bool true) := (blk_cell BK234.out 3).trans rfl; have hfz176_0 := blk_frozen BK234.out 0; have hfz176_1 := blk_frozen BK234.out 1; have hfz176_2 := blk_frozen BK234.out 2; have hfz176_3 := blk_frozen BK234.out 3) | ((with_reducible refine gate_dst (N := 70) rfl ?_); (first | refine Go.Proofs.YtkeepnmlphbffaaDoor.Conv.V_conv _ 5 rfl (N' := 70) rfl 9 56 _ rfl Tryd.underlying9 Tryd.underlying56 Tryd.underlying5 a0_1 rfl q19y3 (Below.refl _ _) (Nat.le_refl _) ?_ | refine Go.Proofs.YtkeepnmlphbffaaDoor.Conv.V_conv_on _ 5 (by rfl) (N' := 70) rfl 9 56 _ rfl Tryd.underlying9 Tryd.underlying56 Tryd.underlying5 a0_1 rfl q19y3 (Below.refl _ _) (Nat.le_refl _) ?_); intro v247 w177 ho178 hb hg_ hnew_; clear hg_ hnew_; (first | rw [← Ny246.out] at ho178 | (simp only [Int.reduceToNat] at ho178; rw [← Ny246.out] at ho178)); have n0_ := Aside0.mk (Kd.V_below q19y5 hb); have n1_ := Aside0.mk (Kd.V_lower (Kd.V_mono (ok' := fun k_ => k_ ≠ gb234 ∧ k_ ≠ gb235) ho178 (fun k_ hk_ => ⟨(Kd.freshB (g := gb234) (o := .cells #[.int .i64 a0_0, .string a0_1, .int .i64 a0_2, .bool true] 23 (0, 0)) q19y1 k_ hk_), (Kd.freshB (g := gb235) (o := .cells #[.int .i64 a1_0, .string a1_1, .int .i64 a1_2, .bool a1_3] 23 (0, 0)) q19y2 k_ hk_)⟩)) (below_size q19y0)); have n2_ := Aside0.mk (blk_below (g := gb234) (o := .cells #[.int .i64 a0_0, .string a0_1, .int .i64 a0_2, .bool true] 23 (0, 0)) q19y1 hb); have n3_ := Aside0.mk (blk_below (g := gb235) (o := .cells #[.int .i64 a1_0, .string a1_1, .int .i64 a1_2, .bool a1_3] 23 (0, 0)) q19y2 hb); have n4_ := Aside0.mk (below_step q19y0 hb); clear HO245; clear BK234; clear BK235; clear HB; have HO245 := n0_; have HO248 := n1_; have BK234 := n2_; have BK235 := n3_; have HB := n4_; clear n0_ n1_ n2_ n3_ n4_; clear hb ho178; obtain ⟨Ao179, co179, eo179⟩ := Kd.V_slice HO245.out; subst eo179; obtain ⟨Ao180, co180, eo180⟩ := Kd.V_slice HO248.out; subst eo180) | (go_at_call 25; (with_reducible refine (cambiumref01_Less.calls kj17 _ _ y243 _ _ y246 false _ ?side1 ?side2 ?side3 ?side4 A143.out).mono ?_); (case side1 => repeat (first | exact (Kd.V_reads' HO245.out).2.2 | (with_reducible refine Kd.C_alloc ?_ _) | (with_reducible refine Kd.C_drewN ?_ _) | (with_reducible refine Kd.C_drew ?_))); (case side2 => exact (Kd.V_reads' HO245.out).2.1); (case side3 => repeat (first | exact (Kd.V_reads' HO248.out).2.2 | (with_reducible refine Kd.C_alloc ?_ _) | (with_reducible refine Kd.C_drewN ?_ _) | (with_reducible refine Kd.C_drew ?_))); (case side4 => exact (Kd.V_reads' HO248.out).2.1); rintro e w' ⟨rfl, ⟨nd, rfl⟩⟩; have hcz181_0 : w177.cell? ⟨gb234, 0, none⟩ = some (.int .i64 a0_0) := (blk_cell BK234.out 0).trans rfl; have hcz181_1 : w177.cell? ⟨gb234, 1, none⟩ = some (.string a0_1) := (blk_cell BK234.out 1).trans rfl; have hcz181_2 : w177.cell? ⟨gb234, 2, none⟩ = some (.int .i64 a0_2) := (blk_cell BK234.out 2).trans rfl; have hcz181_3 : w177.cell? ⟨gb234, 3, none⟩ = some (.bool true) := (blk_cell BK234.out 3).trans rfl; have hfz181_0 := blk_frozen BK234.out 0; have hfz181_1 := blk_frozen BK234.out 1; have hfz181_2 := blk_frozen BK234.out 2; have hfz181_3 := blk_frozen BK234.out 3; have hcz182_0 : w177.cell? ⟨gb235, 0, none⟩ = some (.int .i64 a1_0) := (blk_cell BK235.out 0).trans rfl; have hcz182_1 : w177.cell? ⟨gb235, 1, none⟩ = some (.string a1_1) := (blk_cell BK235.out 1).trans rfl; have hcz182_2 : w177.cell? ⟨gb235, 2, none⟩ = some (.int .i64 a1_2) := (blk_cell BK235.out 2).trans rfl; have hcz182_3 : w177.cell? ⟨gb235, 3, none⟩ = some (.bool a1_3) := (blk_cell BK235.out 3).trans rfl; have hfz182_0 := blk_frozen BK235.out 0; have hfz182_1 := blk_frozen BK235.out 1; have hfz182_2 := blk_frozen BK235.out 2; have hfz182_3 := blk_frozen BK235.out 3))
       go_meet
       case rel => exact ⟨_, (!a1_3), q19y4, H', ⟨by have := HJ2.out; have := HJ17.out; first | omega | exact Nat.le_refl _⟩, ⟨by (with_reducible repeat (first | refine blk_drewN ?_ _ | refine blk_drew ?_ | refine blk_alloc ?_ _)); exact BK234.out⟩, ⟨by (with_reducible repeat (first | refine blk_drewN ?_ _ | refine blk_drew ?_ | refine blk_alloc ?_ _)); exact BK235.out⟩, ⟨by repeat (first | (with_reducible first | exact HB.out | apply below_alloc | apply pw_below_drewN | apply below_drew1 | refine below_set ?_ GE234.out | refine below_set ?_ GE235.out) | exact HB.out)⟩⟩
      replace c170 := Bool.eq_false_iff.mpr c170
      subst c170
      have H1 : (cambiumref16_Compare.j2 kj17 x6_17 false) = some (r1, r2) := by rw [if_neg (show ¬ (false = true) by decide)] at H; exact H
      clear H
      have H := H1
      clear H1
      have H' := Aside0.mk H
      clear H
      have hnb183 := NB234_235.out
      have hnc183 := NB235_234.out
      have hcz184_0 : wc.cell? ⟨gb234, 0, none⟩ = some (.int .i64 a0_0) := (blk_cell BK234.out 0).trans rfl
      have hcz184_1 : wc.cell? ⟨gb234, 1, none⟩ = some (.string a0_1) := (blk_cell BK234.out 1).trans rfl
      have hcz184_2 : wc.cell? ⟨gb234, 2, none⟩ = some (.int .i64 a0_2) := (blk_cell BK234.out 2).trans rfl
      have hcz184_3 : wc.cell? ⟨gb234, 3, none⟩ = some (.bool false) := (blk_cell BK234.out 3).trans rfl
      have hfz184_0 := blk_frozen BK234.out 0
      have hfz184_1 := blk_frozen BK234.out 1
      have hfz184_2 := blk_frozen BK234.out 2
      have hfz184_3 := blk_frozen BK234.out 3
      have hcz185_0 : wc.cell? ⟨gb235, 0, none⟩ = some (.int .i64 a1_0) := (blk_cell BK235.out 0).trans rfl
      have hcz185_1 : wc.cell? ⟨gb235, 1, none⟩ = some (.string a1_1) := (blk_cell BK235.out 1).trans rfl
      have hcz185_2 : wc.cell? ⟨gb235, 2, none⟩ = some (.int .i64 a1_2) := (blk_cell BK235.out 2).trans rfl
      have hcz185_3 : wc.cell? ⟨gb235, 3, none⟩ = some (.bool a1_3) := (blk_cell BK235.out 3).trans rfl
      have hfz185_0 := blk_frozen BK235.out 0
      have hfz185_1 := blk_frozen BK235.out 1
      have hfz185_2 := blk_frozen BK235.out 2
      have hfz185_3 := blk_frozen BK235.out 3
      go_wp2_with (first | ((with_reducible refine gate_dst (N := 67) rfl ?_); (first | refine Go.Proofs.YtkeepnmlphbffaaDoor.Conv.V_conv _ 5 rfl (N' := 67) rfl 9 56 _ rfl Tryd.underlying9 Tryd.underlying56 Tryd.underlying5 a1_1 rfl q19y3 (Below.refl _ _) (Nat.le_refl _) ?_ | refine Go.Proofs.YtkeepnmlphbffaaDoor.Conv.V_conv_on _ 5 (by rfl) (N' := 67) rfl 9 56 _ rfl Tryd.underlying9 Tryd.underlying56 Tryd.underlying5 a1_1 rfl q19y3 (Below.refl _ _) (Nat.le_refl _) ?_); intro v244 w186 ho187 hb hg_ hnew_; clear hg_ hnew_; (first | rw [← Ny243.out] at ho187 | (simp only [Int.reduceToNat] at ho187; rw [← Ny243.out] at ho187)); have n0_ := Aside0.mk (Kd.V_lower (Kd.V_mono (ok' := fun k_ => k_ ≠ gb234 ∧ k_ ≠ gb235) ho187 (fun k_ hk_ => ⟨(Kd.freshB (g := gb234) (o := .cells #[.int .i64 a0_0, .string a0_1, .int .i64 a0_2, .bool false] 23 (0, 0)) q19y1 k_ hk_), (Kd.freshB (g := gb235) (o := .cells #[.int .i64 a1_0, .string a1_1, .int .i64 a1_2, .bool a1_3] 23 (0, 0)) q19y2 k_ hk_)⟩)) (below_size q19y0)); have n1_ := Aside0.mk (blk_below (g := gb234) (o := .cells #[.int .i64 a0_0, .string a0_1, .int .i64 a0_2, .bool false] 23 (0, 0)) q19y1 hb); have n2_ := Aside0.mk (blk_below (g := gb235) (o := .cells #[.int .i64 a1_0, .string a1_1, .int .i64 a1_2, .bool a1_3] 23 (0, 0)) q19y2 hb); have n3_ := Aside0.mk (below_step q19y0 hb); clear BK234; clear BK235; clear HB; have HO245 := n0_; have BK234 := n1_; have BK235 := n2_; have HB := n3_; clear n0_ n1_ n2_ n3_; clear hb ho187; have hcz188_0 : w186.cell? ⟨gb234, 0, none⟩ = some (.int .i64 a0_0) := (blk_cell BK234.out 0).trans rfl; have hcz188_1 : w186.cell? ⟨gb234, 1, none⟩ = some (.string a0_1) := (blk_cell BK234.out 1).trans rfl; have hcz188_2 : w186.cell? ⟨gb234, 2, none⟩ = some (.int .i64 a0_2) := (blk_cell BK234.out 2).trans rfl; have hcz188_3 : w186.cell? ⟨gb234, 3, none⟩ = some (.bool false) := (blk_cell BK234.out 3).trans rfl; have hfz188_0 := blk_frozen BK234.out 0; have hfz188_1 := blk_frozen BK234.out 1; have hfz188_2 := blk_frozen BK234.out 2; have hfz188_3 := blk_frozen BK234.out 3) | ((with_reducible refine gate_dst (N := 70) rfl ?_); (first | refine Go.Proofs.YtkeepnmlphbffaaDoor.Conv.V_conv _ 5 rfl (N' := 70) rfl 9 56 _ rfl Tryd.underlying9 Tryd.underlying56 Tryd.underlying5 a0_1 rfl q19y3 (Below.refl _ _) (Nat.le_refl _) ?_ | refine Go.Proofs.YtkeepnmlphbffaaDoor.Conv.V_conv_on _ 5 (by rfl) (N' := 70) rfl 9 56 _ rfl Tryd.underlying9 Tryd.underlying56 Tryd.underlying5 a0_1 rfl q19y3 (Below.refl _ _) (Nat.le_refl _) ?_); intro v247 w189 ho190 hb hg_ hnew_; clear hg_ hnew_; (first | rw [← Ny246.out] at ho190 | (simp only [Int.reduceToNat] at ho190; rw [← Ny246.out] at ho190)); have n0_ := Aside0.mk (Kd.V_below q19y5 hb); have n1_ := Aside0.mk (Kd.V_lower (Kd.V_mono (ok' := fun k_ => k_ ≠ gb234 ∧ k_ ≠ gb235) ho190 (fun k_ hk_ => ⟨(Kd.freshB (g := gb234) (o := .cells #[.int .i64 a0_0, .string a0_1, .int .i64 a0_2, .bool false] 23 (0, 0)) q19y1 k_ hk_), (Kd.freshB (g := gb235) (o := .cells #[.int .i64 a1_0, .string a1_1, .int .i64 a1_2, .bool a1_3] 23 (0, 0)) q19y2 k_ hk_)⟩)) (below_size q19y0)); have n2_ := Aside0.mk (blk_below (g := gb234) (o := .cells #[.int .i64 a0_0, .string a0_1, .int .i64 a0_2, .bool false] 23 (0, 0)) q19y1 hb); have n3_ := Aside0.mk (blk_below (g := gb235) (o := .cells #[.int .i64 a1_0, .string a1_1, .int .i64 a1_2, .bool a1_3] 23 (0, 0)) q19y2 hb); have n4_ := Aside0.mk (below_step q19y0 hb); clear HO245; clear BK234; clear BK235; clear HB; have HO245 := n0_; have HO248 := n1_; have BK234 := n2_; have BK235 := n3_; have HB := n4_; clear n0_ n1_ n2_ n3_ n4_; clear hb ho190; obtain ⟨Ao191, co191, eo191⟩ := Kd.V_slice HO245.out; subst eo191; obtain ⟨Ao192, co192, eo192⟩ := Kd.V_slice HO248.out; subst eo192) | (go_at_call 25; (with_reducible refine (cambiumref01_Less.calls kj17 _ _ y243 _ _ y246 false _ ?side1 ?side2 ?side3 ?side4 A143.out).mono ?_); (case side1 => repeat (first | exact (Kd.V_reads' HO245.out).2.2 | (with_reducible refine Kd.C_alloc ?_ _) | (with_reducible refine Kd.C_drewN ?_ _) | (with_reducible refine Kd.C_drew ?_))); (case side2 => exact (Kd.V_reads' HO245.out).2.1); (case side3 => repeat (first | exact (Kd.V_reads' HO248.out).2.2 | (with_reducible refine Kd.C_alloc ?_ _) | (with_reducible refine Kd.C_drewN ?_ _) | (with_reducible refine Kd.C_drew ?_))); (case side4 => exact (Kd.V_reads' HO248.out).2.1); rintro e w' ⟨rfl, ⟨nd, rfl⟩⟩; have hcz193_0 : w189.cell? ⟨gb234, 0, none⟩ = some (.int .i64 a0_0) := (blk_cell BK234.out 0).trans rfl; have hcz193_1 : w189.cell? ⟨gb234, 1, none⟩ = some (.string a0_1) := (blk_cell BK234.out 1).trans rfl; have hcz193_2 : w189.cell? ⟨gb234, 2, none⟩ = some (.int .i64 a0_2) := (blk_cell BK234.out 2).trans rfl; have hcz193_3 : w189.cell? ⟨gb234, 3, none⟩ = some (.bool false) := (blk_cell BK234.out 3).trans rfl; have hfz193_0 := blk_frozen BK234.out 0; have hfz193_1 := blk_frozen BK234.out 1; have hfz193_2 := blk_frozen BK234.out 2; have hfz193_3 := blk_frozen BK234.out 3; have hcz194_0 : w189.cell? ⟨gb235, 0, none⟩ = some (.int .i64 a1_0) := (blk_cell BK235.out 0).trans rfl; have hcz194_1 : w189.cell? ⟨gb235, 1, none⟩ = some (.string a1_1) := (blk_cell BK235.out 1).trans rfl; have hcz194_2 : w189.cell? ⟨gb235, 2, none⟩ = some (.int .i64 a1_2) := (blk_cell BK235.out 2).trans rfl; have hcz194_3 : w189.cell? ⟨gb235, 3, none⟩ = some (.bool a1_3) := (blk_cell BK235.out 3).trans rfl; have hfz194_0 := blk_frozen BK235.out 0; have hfz194_1 := blk_frozen BK235.out 1; have hfz194_2 := blk_frozen BK235.out 2; have hfz194_3 := blk_frozen BK235.out 3))
      go_meet
      case rel => exact ⟨_, (false), q19y4, H', ⟨by have := HJ2.out; have := HJ17.out; first | omega | exact Nat.le_refl _⟩, ⟨by (with_reducible repeat (first | refine blk_drewN ?_ _ | refine blk_drew ?_ | refine blk_alloc ?_ _)); exact BK234.out⟩, ⟨by (with_reducible repeat (first | refine blk_drewN ?_ _ | refine blk_drew ?_ | refine blk_alloc ?_ _)); exact BK235.out⟩, ⟨by repeat (first | (with_reducible first | exact HB.out | apply below_alloc | apply pw_below_drewN | apply below_drew1 | refine below_set ?_ GE234.out | refine below_set ?_ GE235.out) | exact HB.out)⟩⟩
     case rest =>
      clear HC139
      try clear c1
      try clear c2
      try clear p2
      try clear c14
      try clear c15
      try clear c16
      try clear c17
      try clear c18
      try clear c19
      try clear c20
      try clear c22
      try clear c23
      try clear c24
      try clear c25
      try clear c26
      try clear c140
      try clear c140b0
      try clear c140b1
      try clear c141
      try clear c141b0
      try clear c141b1
      try clear c142
      try clear c142b0
      try clear c142b1
      try clear c144
      try clear c145
      try clear c155
      try clear c155b0
      try clear c155b1
      try clear c156
      try clear c156b0
      try clear c157
      try clear c169
      try clear c169b0
      try clear c169b1
      try clear c170
      try clear c171
      try clear c183
      try clear c195
      try clear c207
      try clear c207b0
      try clear c207b1
      try clear c208
      try clear c209
      try clear c221
      try clear c232
      try clear c243
      try clear c243b0
      try clear c243b1
      try clear c244
      try clear c244b0
      try clear c245
      try clear c248
      try clear c248b0
      try clear c248b1
      try clear c249
      try clear c250
      try clear c253
      try clear c256
      try clear c259
      try clear c259b0
      try clear c259b1
      try clear c260
      try clear c261
      try clear c264
      try clear c266
      try clear hcz146_0 hcz146_1 hcz146_2 hcz146_3
      try clear hcz147_0 hcz147_1 hcz147_2 hcz147_3
      try clear hcz150_0 hcz150_1 hcz150_2 hcz150_3
      try clear hcz158_0 hcz158_1 hcz158_2 hcz158_3
      try clear hcz159_0 hcz159_1 hcz159_2 hcz159_3
      try clear hcz162_0 hcz162_1 hcz162_2 hcz162_3
      try clear hcz167_0 hcz167_1 hcz167_2 hcz167_3
      try clear hcz168_0 hcz168_1 hcz168_2 hcz168_3
      try clear hcz172_0 hcz172_1 hcz172_2 hcz172_3
      try clear hcz173_0 hcz173_1 hcz173_2 hcz173_3
      try clear hcz176_0 hcz176_1 hcz176_2 hcz176_3
      try clear hcz181_0 hcz181_1 hcz181_2 hcz181_3
      try clear hcz182_0 hcz182_1 hcz182_2 hcz182_3
      try clear hcz184_0 hcz184_1 hcz184_2 hcz184_3
      try clear hcz185_0 hcz185_1 hcz185_2 hcz185_3
      try clear hcz188_0 hcz188_1 hcz188_2 hcz188_3
      try clear hcz193_0 hcz193_1 hcz193_2 hcz193_3
      try clear hcz194_0 hcz194_1 hcz194_2 hcz194_3
      try clear hcz196_0 hcz196_1 hcz196_2 hcz196_3
      try clear hcz197_0 hcz197_1 hcz197_2 hcz197_3
      try clear hcz200_0 hcz200_1 hcz200_2 hcz200_3
      try clear hcz205_0 hcz205_1 hcz205_2 hcz205_3
      try clear hcz206_0 hcz206_1 hcz206_2 hcz206_3
      try clear hcz210_0 hcz210_1 hcz210_2 hcz210_3
      try clear hcz211_0 hcz211_1 hcz211_2 hcz211_3
      try clear hcz214_0 hcz214_1 hcz214_2 hcz214_3
      try clear hcz219_0 hcz219_1 hcz219_2 hcz219_3
      try clear hcz220_0 hcz220_1 hcz220_2 hcz220_3
      try clear hcz222_0 hcz222_1 hcz222_2 hcz222_3
      try clear hcz223_0 hcz223_1 hcz223_2 hcz223_3
      try clear hcz226_0 hcz226_1 hcz226_2 hcz226_3
      try clear hcz231_0 hcz231_1 hcz231_2 hcz231_3
      try clear hcz233_0 hcz233_1 hcz233_2 hcz233_3
      try clear hcz234_0 hcz234_1 hcz234_2 hcz234_3
      try clear hcz237_0 hcz237_1 hcz237_2 hcz237_3
      try clear hcz242_0 hcz242_1 hcz242_2 hcz242_3
      try clear hcz246_0 hcz246_1 hcz246_2 hcz246_3
      try clear hcz247_0 hcz247_1 hcz247_2 hcz247_3
      try clear hcz251_0 hcz251_1 hcz251_2 hcz251_3
      try clear hcz252_0 hcz252_1 hcz252_2 hcz252_3
      try clear hcz254_0 hcz254_1 hcz254_2 hcz254_3
      try clear hcz255_0 hcz255_1 hcz255_2 hcz255_3
      try clear hcz257_0 hcz257_1 hcz257_2 hcz257_3
      try clear hcz258_0 hcz258_1 hcz258_2 hcz258_3
      try clear hcz262_0 hcz262_1 hcz262_2 hcz262_3
      try clear hcz263_0 hcz263_1 hcz263_2 hcz263_3
      try clear hcz265_0 hcz265_1 hcz265_2 hcz265_3
      try clear hcz267_0 hcz267_1 hcz267_2 hcz267_3
      try clear hfz146_0 hfz146_1 hfz146_2 hfz146_3
      try clear hfz147_0 hfz147_1 hfz147_2 hfz147_3
      try clear hfz150_0 hfz150_1 hfz150_2 hfz150_3
      try clear hfz158_0 hfz158_1 hfz158_2 hfz158_3
      try clear hfz159_0 hfz159_1 hfz159_2 hfz159_3
      try clear hfz162_0 hfz162_1 hfz162_2 hfz162_3
      try clear hfz167_0 hfz167_1 hfz167_2 hfz167_3
      try clear hfz168_0 hfz168_1 hfz168_2 hfz168_3
      try clear hfz172_0 hfz172_1 hfz172_2 hfz172_3
      try clear hfz173_0 hfz173_1 hfz173_2 hfz173_3
      try clear hfz176_0 hfz176_1 hfz176_2 hfz176_3
      try clear hfz181_0 hfz181_1 hfz181_2 hfz181_3
      try clear hfz182_0 hfz182_1 hfz182_2 hfz182_3
      try clear hfz184_0 hfz184_1 hfz184_2 hfz184_3
      try clear hfz185_0 hfz185_1 hfz185_2 hfz185_3
      try clear hfz188_0 hfz188_1 hfz188_2 hfz188_3
      try clear hfz193_0 hfz193_1 hfz193_2 hfz193_3
      try clear hfz194_0 hfz194_1 hfz194_2 hfz194_3
      try clear hfz196_0 hfz196_1 hfz196_2 hfz196_3
      try clear hfz197_0 hfz197_1 hfz197_2 hfz197_3
      try clear hfz200_0 hfz200_1 hfz200_2 hfz200_3
      try clear hfz205_0 hfz205_1 hfz205_2 hfz205_3
      try clear hfz206_0 hfz206_1 hfz206_2 hfz206_3
      try clear hfz210_0 hfz210_1 hfz210_2 hfz210_3
      try clear hfz211_0 hfz211_1 hfz211_2 hfz211_3
      try clear hfz214_0 hfz214_1 hfz214_2 hfz214_3
      try clear hfz219_0 hfz219_1 hfz219_2 hfz219_3
      try clear hfz220_0 hfz220_1 hfz220_2 hfz220_3
      try clear hfz222_0 hfz222_1 hfz222_2 hfz222_3
      try clear hfz223_0 hfz223_1 hfz223_2 hfz223_3
      try clear hfz226_0 hfz226_1 hfz226_2 hfz226_3
      try clear hfz231_0 hfz231_1 hfz231_2 hfz231_3
      try clear hfz233_0 hfz233_1 hfz233_2 hfz233_3
      try clear hfz234_0 hfz234_1 hfz234_2 hfz234_3
      try clear hfz237_0 hfz237_1 hfz237_2 hfz237_3
      try clear hfz242_0 hfz242_1 hfz242_2 hfz242_3
      try clear hfz246_0 hfz246_1 hfz246_2 hfz246_3
      try clear hfz247_0 hfz247_1 hfz247_2 hfz247_3
      try clear hfz251_0 hfz251_1 hfz251_2 hfz251_3
      try clear hfz252_0 hfz252_1 hfz252_2 hfz252_3
      try clear hfz254_0 hfz254_1 hfz254_2 hfz254_3
      try clear hfz255_0 hfz255_1 hfz255_2 hfz255_3
      try clear hfz257_0 hfz257_1 hfz257_2 hfz257_3
      try clear hfz258_0 hfz258_1 hfz258_2 hfz258_3
      try clear hfz25_1 hfz25_2 hfz25_3
      try clear hfz262_0 hfz262_1 hfz262_2 hfz262_3
      try clear hfz263_0 hfz263_1 hfz263_2 hfz263_3
      try clear hfz265_0 hfz265_1 hfz265_2 hfz265_3
      try clear hfz267_0 hfz267_1 hfz267_2 hfz267_3
      try clear hfz28_0 hfz28_1 hfz28_2 hfz28_3
      try clear hfz36_0 hfz36_1 hfz36_2 hfz36_3
      try clear hfz39_0 hfz39_1 hfz39_2 hfz39_3
      try clear hfz44_0 hfz44_1 hfz44_2 hfz44_3
      try clear hfz45_0 hfz45_1 hfz45_2 hfz45_3
      try clear hfz49_0 hfz49_1 hfz49_2 hfz49_3
      try clear hfz52_0 hfz52_1 hfz52_2 hfz52_3
      try clear hfz57_0 hfz57_1 hfz57_2 hfz57_3
      try clear hfz58_0 hfz58_1 hfz58_2 hfz58_3
      try clear hfz60_0 hfz60_1 hfz60_2 hfz60_3
      try clear hfz63_0 hfz63_1 hfz63_2 hfz63_3
      try clear hfz68_0 hfz68_1 hfz68_2 hfz68_3
      try clear hfz69_0 hfz69_1 hfz69_2 hfz69_3
      try clear hfz71_0 hfz71_1 hfz71_2 hfz71_3
      try clear hfz74_0 hfz74_1 hfz74_2 hfz74_3
      try clear hfz79_0 hfz79_1 hfz79_2 hfz79_3
      try clear hfz80_0 hfz80_1 hfz80_2 hfz80_3
      try clear hfz84_0 hfz84_1 hfz84_2 hfz84_3
      try clear hfz87_0 hfz87_1 hfz87_2 hfz87_3
      try clear hfz92_0 hfz92_1 hfz92_2 hfz92_3
      try clear hfz94_0 hfz94_1 hfz94_2 hfz94_3
      try clear hfz97_0 hfz97_1 hfz97_2 hfz97_3
      try clear hfz9_0 hfz9_1 hfz9_2 hfz9_3
      try clear p2
      obtain ⟨kq, x7_138, rfl, HA, HJ138, BK234, BK235, HB⟩ := hcut
      cases kq with
      | zero => exact absurd HA.out (by simp [cambiumref16_Compare.j2])
      | succ kj138 =>
       have H := HA.out
       clear HA
       simp only [cambiumref16_Compare.j2] at H
       by_cases c268 : x6_17 = true
       ·subst c268
        have H1 : (some ((-1), true)) = some (r1, r2) := by rw [if_pos rfl] at H; exact H
        clear H
        have H := H1
        clear H1
        simp only [Option.some.injEq, Prod.mk.injEq] at H
        obtain ⟨rfl, rfl⟩ := H
        go_wp2
        go_ret2
        exact ⟨by first | rfl | (simp [errW_none, errW_some] <;> rfl) | (simp [*, errW_none, errW_some] <;> rfl), by repeat (first | (with_reducible first | exact HB.out | apply below_alloc | apply pw_below_drewN | apply below_drew1 | refine below_set ?_ GE234.out | refine below_set ?_ GE235.out) | exact HB.out)⟩
       replace c268 := Bool.eq_false_iff.mpr c268
       subst c268
       have H1 : (if x7_138 = true then (some (1, true)) else (some (0, true))) = some (r1, r2) := by rw [if_neg (show ¬ (false = true) by decide)] at H; exact H
       clear H
       have H := H1
       clear H1
       by_cases c269 : x7_138 = true
       ·subst c269
        have H1 : (some (1, true)) = some (r1, r2) := by rw [if_pos rfl] at H; exact H
        clear H
        have H := H1
        clear H1
        simp only [Option.some.injEq, Prod.mk.injEq] at H
        obtain ⟨rfl, rfl⟩ := H
        go_wp2
        go_ret2
        exact ⟨by first | rfl | (simp [errW_none, errW_some] <;> rfl) | (simp [*, errW_none, errW_some] <;> rfl), by repeat (first | (with_reducible first | exact HB.out | apply below_alloc | apply pw_below_drewN | apply below_drew1 | refine below_set ?_ GE234.out | refine below_set ?_ GE235.out) | exact HB.out)⟩
       replace c269 := Bool.eq_false_iff.mpr c269
       subst c269
       have H1 : (some (0, true)) = some (r1, r2) := by rw [if_neg (show ¬ (false = true) by decide)] at H; exact H
       clear H
       have H := H1
       clear H1
       simp only [Option.some.injEq, Prod.mk.injEq] at H
       obtain ⟨rfl, rfl⟩ := H
       go_wp2
       go_ret2
       exact ⟨by first | rfl | (simp [errW_none, errW_some] <;> rfl) | (simp [*, errW_none, errW_some] <;> rfl), by repeat (first | (with_reducible first | exact HB.out | apply below_alloc | apply pw_below_drewN | apply below_drew1 | refine below_set ?_ GE234.out | refine below_set ?_ GE235.out) | exact HB.out)⟩

end Go.Proofs.YtkeepnmlphbffaaDoor.PSp
