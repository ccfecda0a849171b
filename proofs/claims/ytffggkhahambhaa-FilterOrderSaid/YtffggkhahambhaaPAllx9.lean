-- Written by a program: the kit's print.py, driven for several laws at once. Not trusted: Lean checks it.
import Derived.Test.YtffggkhahambhaaPAllx0
import Derived.Test.YtffggkhahambhaaPAllx8
namespace Go.Proofs.Ytffggkhahambhaa.PAll
open Go.RowKit Go.Proofs.YtffggkhahambhaaW.PrintWords Go.Proofs.YtffggkhahambhaaW.PrintLast Go.Proofs.YtffggkhahambhaaW.PrintMore
attribute [local go_sem] max2_int min2_int max_two min_two max_three min_three max_four min_four   -- for this text's walks alone
set_option linter.unusedVariables false
set_option linter.unusedSimpArgs false

/-! ### cambiumref16_Value: function 31 -/
def q9m (n m : Nat) : Array Bool := ((List.range n).map (Nat.testBit m)).toArray
theorem q9a {α : Type} (xs : List α) (i : Nat) (x : α) : xs.toArray.setIfInBounds i x = (xs.set i x).toArray := List.setIfInBounds_toArray ..
theorem q9b {α : Type} (x y : α) (xs : List α) : (x :: xs).set 0 y = y :: xs := List.set_cons_zero ..
theorem q9c {α : Type} (x y : α) (xs : List α) (n : Nat) : (x :: xs).set (n + 1) y = x :: xs.set n y := List.set_cons_succ ..
theorem q9h {w w' : World} {p : Addr} {v : Value} (h : Below w.heap.size w w') (x : w.cell? p = some v) : w'.cell? p = some v := (h.cell (World.block_lt_of_cell? w _ x)).trans x
theorem q9p {P : Program} {md : Region.Mode} {ops : Array Oper} {Q : Exit → Act → World → Prop} {S : World → Prop} {ds : List Nat} {T : Bool × List (List Nat × List Nat)} {i : Nat} {N : Option Tmp} {oi : Oper} {v : Value} {fuel : Nat} {l : Array Bool} {a : Act} {w : World} (l' : Array Bool) (hT : rtab md ops = T) {a' : Act}
    (h : wpAnyLast P md ops Q S ds fuel l' a' w) (hi : ops[i]? = some oi := by rfl) (hN : oi.dst = N := by rfl) (hc : anyT T l.toList l'.toList i = true := by kernel_rfl) (hQ : ∀ c a w, Q (.panic c) (a.put oi.dst v) w → Q (.panic c) a w := by exact fun _ _ _ h => h)
    (hw : Region.wanted oi (yielded ops a.tmps) = true := by rfl) (hy : ∀ w', (execOp a.eval oi).run P w' = .ok (.value v) w' := by intro w'; go_simp; with_reducible rfl) (ha : a.put N v = a' := by simp only [Act.put, q9a, q9b, q9c, i64_w, i32_w]; rfl) :
    wpAnyLast P md ops Q S ds (fuel + 1) l a w := pure_ l' hi hN (any_of hT hc) hQ (Or.inl ⟨hw, hy⟩) ha h
theorem q9u {P : Program} {md : Region.Mode} {ops : Array Oper} {Q : Exit → Act → World → Prop} {S : World → Prop} {ds : List Nat} {T : Bool × List (List Nat × List Nat)} {i : Nat} {N : Option Tmp} {oi : Oper} {fuel : Nat} {l : Array Bool} {a : Act} {w : World} (l' : Array Bool) (hT : rtab md ops = T) {a' : Act}
    (h : wpAnyLast P md ops Q S ds fuel l' a' w) (hi : ops[i]? = some oi := by rfl) (hN : oi.dst = N := by rfl) (hc : anyT T l.toList l'.toList i = true := by kernel_rfl) (hQ : ∀ c a w, Q (.panic c) (a.put oi.dst undef) w → Q (.panic c) a w := by exact fun _ _ _ h => h)
    (hw : Region.wanted oi (yielded ops a.tmps) = false := by rfl) (ha : a.put N undef = a' := by simp only [Act.put, q9a, q9b, q9c, i64_w, i32_w]; rfl) :
    wpAnyLast P md ops Q S ds (fuel + 1) l a w := pure_ l' hi hN (any_of hT hc) hQ (Or.inr ⟨hw, rfl⟩) ha h
theorem q9k {w : World} {g : Nat} {cs : Array Value} {t : TypeId} (h : w.heap[g]? = some (.cells cs t (0, 0))) (i : Nat) {v : Value} (e : cs[i]? = some v := by rfl) : w.cell? ⟨g, i, none⟩ = some v := (blk_cell h i).trans e
theorem q9y0 {P : Prop} (h : P := by repeat (first | (with_reducible first | exact HB.out | apply below_alloc | apply pw_below_drewN | apply below_drew1) | exact HB.out)) : P := h
theorem q9y1 {P : Prop} (h : P := by repeat (first | (with_reducible first | exact HB.out | apply below_alloc | apply pw_below_drewN | apply below_drew1 | refine below_set ?_ GE193.out) | exact HB.out)) : P := h
theorem q9y2 {P : Prop} (h : P := by (with_reducible repeat (first | refine blk_drewN ?_ _ | refine blk_drew ?_ | refine blk_alloc ?_ _)); exact BK193.out) : P := h

def cambiumref16_Value.f (k : Nat) (a0_0 : Int) (a0_1 : ByteArray) (a0_2 : Int) (a0_3 : Bool) : Option (Bool) := if a0_0 < 0 then (some false) else (if a0_0 > 2 then (some false) else (if a0_0 = 0 then (if a0_0 = 1 then (if a0_0 = 2 then (if (a0_1.size : Int) ≤ 200 then ((cambiumref02_Right.f k a0_1).bind fun t194 => (some t194)) else (some false)) else (if a0_3 = true then (some false) else (if (a0_1.size : Int) ≤ 200 then ((cambiumref02_Right.f k a0_1).bind fun t195 => (some t195)) else (some false)))) else (if a0_2 = 0 then (if a0_0 = 2 then (if (a0_1.size : Int) ≤ 200 then ((cambiumref02_Right.f k a0_1).bind fun t196 => (some t196)) else (some false)) else (if a0_3 = true then (some false) else (if (a0_1.size : Int) ≤ 200 then ((cambiumref02_Right.f k a0_1).bind fun t197 => (some t197)) else (some false)))) else (some false))) else (if a0_1.toList = ([] : List UInt8) then (if a0_0 = 1 then (if a0_0 = 2 then (if (a0_1.size : Int) ≤ 200 then ((cambiumref02_Right.f k a0_1).bind fun t198 => (some t198)) else (some false)) else (if a0_3 = true then (some false) else (if (a0_1.size : Int) ≤ 200 then ((cambiumref02_Right.f k a0_1).bind fun t199 => (some t199)) else (some false)))) else (if a0_2 = 0 then (if a0_0 = 2 then (if (a0_1.size : Int) ≤ 200 then ((cambiumref02_Right.f k a0_1).bind fun t200 => (some t200)) else (some false)) else (if a0_3 = true then (some false) else (if (a0_1.size : Int) ≤ 200 then ((cambiumref02_Right.f k a0_1).bind fun t201 => (some t201)) else (some false)))) else (some false))) else (some false))))
theorem cambiumref16_Value.mono : ∀ a0 a1 a2 a3 k, LeO (cambiumref16_Value.f k a0 a1 a2 a3) (cambiumref16_Value.f (k + 1) a0 a1 a2 a3) := by
 intro a0 a1 a2 a3 k
 unfold cambiumref16_Value.f
 repeat' first
   | (with_reducible exact cambiumref02_Right.mono _ _)
   | (with_reducible exact LeO.refl _)
   | (with_reducible exact LeO.none _)
   | (with_reducible refine LeO.ite ?_ ?_)
   | (with_reducible refine LeO.bind ?_ (fun _ => ?_))
   | exact cambiumref02_Right.mono _ _
   | exact LeO.none _
   | refine LeO.ite ?_ ?_
   | refine LeO.bind ?_ (fun _ => ?_)
set_option maxHeartbeats 8000000 in
set_option maxRecDepth 100000 in
theorem cambiumref16_Value.calls (k : Nat) (a0_0 : Int) (a0_1 : ByteArray) (a0_2 : Int) (a0_3 : Bool) (r : Bool) (w : World) (h : cambiumref16_Value.f k a0_0 a0_1 a0_2 a0_3 = some r) :
  Calls Try.prog 31 #[.agg #[.int .i64 a0_0, .string a0_1, .int .i64 a0_2, .bool a0_3]] w fun e w' => e = .returned (.bool r) ∧ Below w.heap.size w w' := by
 have hu39 := Try.underlying39
 have HB := Aside0.mk (Below.refl w.heap.size w)
 have H : (if a0_0 < 0 then (some false) else (if a0_0 > 2 then (some false) else (if a0_0 = 0 then (if a0_0 = 1 then (if a0_0 = 2 then (if (a0_1.size : Int) ≤ 200 then ((cambiumref02_Right.f k a0_1).bind fun t194 => (some t194)) else (some false)) else (if a0_3 = true then (some false) else (if (a0_1.size : Int) ≤ 200 then ((cambiumref02_Right.f k a0_1).bind fun t195 => (some t195)) else (some false)))) else (if a0_2 = 0 then (if a0_0 = 2 then (if (a0_1.size : Int) ≤ 200 then ((cambiumref02_Right.f k a0_1).bind fun t196 => (some t196)) else (some false)) else (if a0_3 = true then (some false) else (if (a0_1.size : Int) ≤ 200 then ((cambiumref02_Right.f k a0_1).bind fun t197 => (some t197)) else (some false)))) else (some false))) else (if a0_1.toList = ([] : List UInt8) then (if a0_0 = 1 then (if a0_0 = 2 then (if (a0_1.size : Int) ≤ 200 then ((cambiumref02_Right.f k a0_1).bind fun t198 => (some t198)) else (some false)) else (if a0_3 = true then (some false) else (if (a0_1.size : Int) ≤ 200 then ((cambiumref02_Right.f k a0_1).bind fun t199 => (some t199)) else (some false)))) else (if a0_2 = 0 then (if a0_0 = 2 then (if (a0_1.size : Int) ≤ 200 then ((cambiumref02_Right.f k a0_1).bind fun t200 => (some t200)) else (some false)) else (if a0_3 = true then (some false) else (if (a0_1.size : Int) ≤ 200 then ((cambiumref02_Right.f k a0_1).bind fun t201 => (some t201)) else (some false)))) else (some false))) else (some false))))) = some r := h
 clear h
 by_cases c2 : a0_0 < 0
 ·rw [if_pos c2] at H
  have c2b0 : decide (a0_0 < 0) = true := decide_eq_true c2
  clear c2
  obtain rfl := Option.some.inj H
  go_enter Try.func31, Try.ntmps31
  go_wp2_with (first | ((with_reducible refine gate_dst (N := 1) rfl ?_); refine box_event ?hg (N := 1) ?hd (cs := #[.int .i64 a0_0, .string a0_1, .int .i64 a0_2, .bool a0_3]) (t := 39) ?hr ?_; (case hd => rfl); (case hg => rfl); (case hr => first | (go_simp; done) | (go_simp; rfl)); intro gb193 hg w3 hbox hb; have n0_ := Aside0.mk (below_step q9y0 hb); have n1_ := Aside0.mk (hbox); have n2_ := Aside0.mk ((by rw [hg]; exact (below_size q9y0) : w.heap.size ≤ gb193)); have n3_ := Aside0.mk ((by rw [hg]; exact (below_size q9y0) : w.heap.size ≤ gb193)); clear HB; have HB := n0_; have BK193 := n1_; have GW193 := n2_; have GE193 := n3_; clear n0_ n1_ n2_ n3_; clear hb hbox hg; have hcz4_0 : w3.cell? ⟨gb193, 0, none⟩ = some (.int .i64 a0_0) := (blk_cell BK193.out 0).trans rfl; have hcz4_1 : w3.cell? ⟨gb193, 1, none⟩ = some (.string a0_1) := (blk_cell BK193.out 1).trans rfl; have hcz4_2 : w3.cell? ⟨gb193, 2, none⟩ = some (.int .i64 a0_2) := (blk_cell BK193.out 2).trans rfl; have hcz4_3 : w3.cell? ⟨gb193, 3, none⟩ = some (.bool a0_3) := (blk_cell BK193.out 3).trans rfl; have hfz4_0 := blk_frozen BK193.out 0; have hfz4_1 := blk_frozen BK193.out 1; have hfz4_2 := blk_frozen BK193.out 2; have hfz4_3 := blk_frozen BK193.out 3))
  go_ret
  exact ⟨by first | rfl | (simp [errW_none, errW_some] <;> rfl) | (simp [*, errW_none, errW_some] <;> rfl), by repeat (first | (with_reducible first | exact HB.out | apply below_alloc | apply pw_below_drewN | apply below_drew1 | refine below_set ?_ GE193.out) | exact HB.out)⟩
 rw [if_neg c2] at H
 have c2b0 : decide (a0_0 < 0) = false := decide_eq_false c2
 clear c2
 by_cases c5 : a0_0 > 2
 ·rw [if_pos c5] at H
  have c5b0 : decide (2 < a0_0) = true := decide_eq_true c5
  clear c5
  obtain rfl := Option.some.inj H
  go_enter Try.func31, Try.ntmps31
  go_wp2_with (first | ((with_reducible refine gate_dst (N := 1) rfl ?_); refine box_event ?hg (N := 1) ?hd (cs := #[.int .i64 a0_0, .string a0_1, .int .i64 a0_2, .bool a0_3]) (t := 39) ?hr ?_; (case hd => rfl); (case hg => rfl); (case hr => first | (go_simp; done) | (go_simp; rfl)); intro gb193 hg w6 hbox hb; have n0_ := Aside0.mk (below_step q9y0 hb); have n1_ := Aside0.mk (hbox); have n2_ := Aside0.mk ((by rw [hg]; exact (below_size q9y0) : w.heap.size ≤ gb193)); have n3_ := Aside0.mk ((by rw [hg]; exact (below_size q9y0) : w.heap.size ≤ gb193)); clear HB; have HB := n0_; have BK193 := n1_; have GW193 := n2_; have GE193 := n3_; clear n0_ n1_ n2_ n3_; clear hb hbox hg; have hcz7_0 : w6.cell? ⟨gb193, 0, none⟩ = some (.int .i64 a0_0) := (blk_cell BK193.out 0).trans rfl; have hcz7_1 : w6.cell? ⟨gb193, 1, none⟩ = some (.string a0_1) := (blk_cell BK193.out 1).trans rfl; have hcz7_2 : w6.cell? ⟨gb193, 2, none⟩ = some (.int .i64 a0_2) := (blk_cell BK193.out 2).trans rfl; have hcz7_3 : w6.cell? ⟨gb193, 3, none⟩ = some (.bool a0_3) := (blk_cell BK193.out 3).trans rfl; have hfz7_0 := blk_frozen BK193.out 0; have hfz7_1 := blk_frozen BK193.out 1; have hfz7_2 := blk_frozen BK193.out 2; have hfz7_3 := blk_frozen BK193.out 3))
  go_ret
  exact ⟨by first | rfl | (simp [errW_none, errW_some] <;> rfl) | (simp [*, errW_none, errW_some] <;> rfl), by repeat (first | (with_reducible first | exact HB.out | apply below_alloc | apply pw_below_drewN | apply below_drew1 | refine below_set ?_ GE193.out) | exact HB.out)⟩
 rw [if_neg c5] at H
 have c5b0 : decide (2 < a0_0) = false := decide_eq_false c5
 clear c5
 by_cases c8 : a0_0 = 0
 ·rw [if_pos c8] at H
  have c8b0 : (a0_0 == 0) = true := beq_iff_eq.mpr c8
  have c8b1 : (a0_0 != 0) = false := bne_eq_false_iff_eq.mpr c8
  clear c8
  by_cases c9 : a0_0 = 1
  ·rw [if_pos c9] at H
   have c9b0 : (a0_0 == 1) = true := beq_iff_eq.mpr c9
   have c9b1 : (a0_0 != 1) = false := bne_eq_false_iff_eq.mpr c9
   clear c9
   by_cases c10 : a0_0 = 2
   ·rw [if_pos c10] at H
    have c10b0 : (a0_0 == 2) = true := beq_iff_eq.mpr c10
    have c10b1 : (a0_0 != 2) = false := bne_eq_false_iff_eq.mpr c10
    clear c10
    by_cases c11 : (a0_1.size : Int) ≤ 200
    rotate_left
    ·rw [if_neg c11] at H
     have c11b0 : decide ((a0_1.size : Int) ≤ 200) = false := decide_eq_false c11
     have c11b1 : decide (a0_1.size ≤ 200) = false := decide_eq_false (by omega)
     clear c11
     obtain rfl := Option.some.inj H
     go_enter Try.func31, Try.ntmps31
     go_wp2_with (first | ((with_reducible refine gate_dst (N := 1) rfl ?_); refine box_event ?hg (N := 1) ?hd (cs := #[.int .i64 a0_0, .string a0_1, .int .i64 a0_2, .bool a0_3]) (t := 39) ?hr ?_; (case hd => rfl); (case hg => rfl); (case hr => first | (go_simp; done) | (go_simp; rfl)); intro gb193 hg w16 hbox hb; have n0_ := Aside0.mk (below_step q9y0 hb); have n1_ := Aside0.mk (hbox); have n2_ := Aside0.mk ((by rw [hg]; exact (below_size q9y0) : w.heap.size ≤ gb193)); have n3_ := Aside0.mk ((by rw [hg]; exact (below_size q9y0) : w.heap.size ≤ gb193)); clear HB; have HB := n0_; have BK193 := n1_; have GW193 := n2_; have GE193 := n3_; clear n0_ n1_ n2_ n3_; clear hb hbox hg; have hcz17_0 : w16.cell? ⟨gb193, 0, none⟩ = some (.int .i64 a0_0) := (blk_cell BK193.out 0).trans rfl; have hcz17_1 : w16.cell? ⟨gb193, 1, none⟩ = some (.string a0_1) := (blk_cell BK193.out 1).trans rfl; have hcz17_2 : w16.cell? ⟨gb193, 2, none⟩ = some (.int .i64 a0_2) := (blk_cell BK193.out 2).trans rfl; have hcz17_3 : w16.cell? ⟨gb193, 3, none⟩ = some (.bool a0_3) := (blk_cell BK193.out 3).trans rfl; have hfz17_0 := blk_frozen BK193.out 0; have hfz17_1 := blk_frozen BK193.out 1; have hfz17_2 := blk_frozen BK193.out 2; have hfz17_3 := blk_frozen BK193.out 3))
     go_ret
     exact ⟨by first | rfl | (simp [errW_none, errW_some] <;> rfl) | (simp [*, errW_none, errW_some] <;> rfl), by repeat (first | (with_reducible first | exact HB.out | apply below_alloc | apply pw_below_drewN | apply below_drew1 | refine below_set ?_ GE193.out) | exact HB.out)⟩
    rw [if_pos c11] at H
    have c11b0 : decide ((a0_1.size : Int) ≤ 200) = true := decide_eq_true c11
    have c11b1 : decide (a0_1.size ≤ 200) = true := decide_eq_true (by omega)
    clear c11
    replace H := Option.bind_eq_some_iff.mp H
    obtain ⟨t194, A120, H⟩ := H
    replace H : (some t194) = some r := H
    have A12 := Aside0.mk A120
    clear A120
    obtain rfl := Option.some.inj H
    go_enter Try.func31, Try.ntmps31
    go_wp2_with (first | ((with_reducible refine gate_dst (N := 1) rfl ?_); refine box_event ?hg (N := 1) ?hd (cs := #[.int .i64 a0_0, .string a0_1, .int .i64 a0_2, .bool a0_3]) (t := 39) ?hr ?_; (case hd => rfl); (case hg => rfl); (case hr => first | (go_simp; done) | (go_simp; rfl)); intro gb193 hg w13 hbox hb; have n0_ := Aside0.mk (below_step q9y0 hb); have n1_ := Aside0.mk (hbox); have n2_ := Aside0.mk ((by rw [hg]; exact (below_size q9y0) : w.heap.size ≤ gb193)); have n3_ := Aside0.mk ((by rw [hg]; exact (below_size q9y0) : w.heap.size ≤ gb193)); clear HB; have HB := n0_; have BK193 := n1_; have GW193 := n2_; have GE193 := n3_; clear n0_ n1_ n2_ n3_; clear hb hbox hg; have hcz14_0 : w13.cell? ⟨gb193, 0, none⟩ = some (.int .i64 a0_0) := (blk_cell BK193.out 0).trans rfl; have hcz14_1 : w13.cell? ⟨gb193, 1, none⟩ = some (.string a0_1) := (blk_cell BK193.out 1).trans rfl; have hcz14_2 : w13.cell? ⟨gb193, 2, none⟩ = some (.int .i64 a0_2) := (blk_cell BK193.out 2).trans rfl; have hcz14_3 : w13.cell? ⟨gb193, 3, none⟩ = some (.bool a0_3) := (blk_cell BK193.out 3).trans rfl; have hfz14_0 := blk_frozen BK193.out 0; have hfz14_1 := blk_frozen BK193.out 1; have hfz14_2 := blk_frozen BK193.out 2; have hfz14_3 := blk_frozen BK193.out 3) | (go_at_call 53; (with_reducible refine (cambiumref02_Right.calls k a0_1 t194 _ A12.out).mono ?_); rintro e w15 ⟨rfl, hb⟩; have n0_ := Aside0.mk (blk_below (g := gb193) (o := .cells #[.int .i64 a0_0, .string a0_1, .int .i64 a0_2, .bool a0_3] 39 (0, 0)) q9y2 hb); have n1_ := Aside0.mk (below_step q9y1 hb); clear BK193; clear HB; have BK193 := n0_; have HB := n1_; clear n0_ n1_; (try clear hb); (try clear hb2); (try clear hk); (try clear hi)))
    go_ret
    exact ⟨by first | rfl | (simp [errW_none, errW_some] <;> rfl) | (simp [*, errW_none, errW_some] <;> rfl), by repeat (first | (with_reducible first | exact HB.out | apply below_alloc | apply pw_below_drewN | apply below_drew1 | refine below_set ?_ GE193.out) | exact HB.out)⟩
   rw [if_neg c10] at H
   have c10b0 : (a0_0 == 2) = false := beq_eq_false_iff_ne.mpr c10
   have c10b1 : (a0_0 != 2) = true := bne_iff_ne.mpr c10
   by_cases c18 : a0_3 = true
   ·subst c18
    have H1 : (some false) = some r := by rw [if_pos rfl] at H; exact H
    clear H
    have H := H1
    clear H1
    obtain rfl := Option.some.inj H
    go_enter Try.func31, Try.ntmps31
    go_wp2_with (first | ((with_reducible refine gate_dst (N := 1) rfl ?_); refine box_event ?hg (N := 1) ?hd (cs := #[.int .i64 a0_0, .string a0_1, .int .i64 a0_2, .bool true]) (t := 39) ?hr ?_; (case hd => rfl); (case hg => rfl); (case hr => first | (go_simp; done) | (go_simp; rfl)); intro gb193 hg w19 hbox hb; have n0_ := Aside0.mk (below_step q9y0 hb); have n1_ := Aside0.mk (hbox); have n2_ := Aside0.mk ((by rw [hg]; exact (below_size q9y0) : w.heap.size ≤ gb193)); have n3_ := Aside0.mk ((by rw [hg]; exact (below_size q9y0) : w.heap.size ≤ gb193)); clear HB; have HB := n0_; have BK193 := n1_; have GW193 := n2_; have GE193 := n3_; clear n0_ n1_ n2_ n3_; clear hb hbox hg; have hcz20_0 : w19.cell? ⟨gb193, 0, none⟩ = some (.int .i64 a0_0) := (blk_cell BK193.out 0).trans rfl; have hcz20_1 : w19.cell? ⟨gb193, 1, none⟩ = some (.string a0_1) := (blk_cell BK193.out 1).trans rfl; have hcz20_2 : w19.cell? ⟨gb193, 2, none⟩ = some (.int .i64 a0_2) := (blk_cell BK193.out 2).trans rfl; have hcz20_3 : w19.cell? ⟨gb193, 3, none⟩ = some (.bool true) := (blk_cell BK193.out 3).trans rfl; have hfz20_0 := blk_frozen BK193.out 0; have hfz20_1 := blk_frozen BK193.out 1; have hfz20_2 := blk_frozen BK193.out 2; have hfz20_3 := blk_frozen BK193.out 3))
    go_ret
    exact ⟨by first | rfl | (simp [errW_none, errW_some] <;> rfl) | (simp [*, errW_none, errW_some] <;> rfl), by repeat (first | (with_reducible first | exact HB.out | apply below_alloc | apply pw_below_drewN | apply below_drew1 | refine below_set ?_ GE193.out) | exact HB.out)⟩
   replace c18 := Bool.eq_false_iff.mpr c18
   subst c18
   have H1 : (if (a0_1.size : Int) ≤ 200 then ((cambiumref02_Right.f k a0_1).bind fun t195 => (some t195)) else (some false)) = some r := by rw [if_neg (show ¬ (false = true) by decide)] at H; exact H
   clear H
   have H := H1
   clear H1
   by_cases c21 : (a0_1.size : Int) ≤ 200
   rotate_left
   ·rw [if_neg c21] at H
    have c21b0 : decide ((a0_1.size : Int) ≤ 200) = false := decide_eq_false c21
    have c21b1 : decide (a0_1.size ≤ 200) = false := decide_eq_false (by omega)
    clear c21
    obtain rfl := Option.some.inj H
    go_enter Try.func31, Try.ntmps31
    go_wp2_with (first | ((with_reducible refine gate_dst (N := 1) rfl ?_); refine box_event ?hg (N := 1) ?hd (cs := #[.int .i64 a0_0, .string a0_1, .int .i64 a0_2, .bool false]) (t := 39) ?hr ?_; (case hd => rfl); (case hg => rfl); (case hr => first | (go_simp; done) | (go_simp; rfl)); intro gb193 hg w26 hbox hb; have n0_ := Aside0.mk (below_step q9y0 hb); have n1_ := Aside0.mk (hbox); have n2_ := Aside0.mk ((by rw [hg]; exact (below_size q9y0) : w.heap.size ≤ gb193)); have n3_ := Aside0.mk ((by rw [hg]; exact (below_size q9y0) : w.heap.size ≤ gb193)); clear HB; have HB := n0_; have BK193 := n1_; have GW193 := n2_; have GE193 := n3_; clear n0_ n1_ n2_ n3_; clear hb hbox hg; have hcz27_0 : w26.cell? ⟨gb193, 0, none⟩ = some (.int .i64 a0_0) := (blk_cell BK193.out 0).trans rfl; have hcz27_1 : w26.cell? ⟨gb193, 1, none⟩ = some (.string a0_1) := (blk_cell BK193.out 1).trans rfl; have hcz27_2 : w26.cell? ⟨gb193, 2, none⟩ = some (.int .i64 a0_2) := (blk_cell BK193.out 2).trans rfl; have hcz27_3 : w26.cell? ⟨gb193, 3, none⟩ = some (.bool false) := (blk_cell BK193.out 3).trans rfl; have hfz27_0 := blk_frozen BK193.out 0; have hfz27_1 := blk_frozen BK193.out 1; have hfz27_2 := blk_frozen BK193.out 2; have hfz27_3 := blk_frozen BK193.out 3))
    go_ret
    exact ⟨by first | rfl | (simp [errW_none, errW_some] <;> rfl) | (simp [*, errW_none, errW_some] <;> rfl), by repeat (first | (with_reducible first | exact HB.out | apply below_alloc | apply pw_below_drewN | apply below_drew1 | refine below_set ?_ GE193.out) | exact HB.out)⟩
   rw [if_pos c21] at H
   have c21b0 : decide ((a0_1.size : Int) ≤ 200) = true := decide_eq_true c21
   have c21b1 : decide (a0_1.size ≤ 200) = true := decide_eq_true (by omega)
   clear c21
   replace H := Option.bind_eq_some_iff.mp H
   obtain ⟨t195, A220, H⟩ := H
   replace H : (some t195) = some r := H
   have A22 := Aside0.mk A220
   clear A220
   obtain rfl := Option.some.inj H
   go_enter Try.func31, Try.ntmps31
   go_wp2_with (first | ((with_reducible refine gate_dst (N := 1) rfl ?_); refine box_event ?hg (N := 1) ?hd (cs := #[.int .i64 a0_0, .string a0_1, .int .i64 a0_2, .bool false]) (t := 39) ?hr ?_; (case hd => rfl); (case hg => rfl); (case hr => first | (go_simp; done) | (go_simp; rfl)); intro gb193 hg w23 hbox hb; have n0_ := Aside0.mk (below_step q9y0 hb); have n1_ := Aside0.mk (hbox); have n2_ := Aside0.mk ((by rw [hg]; exact (below_size q9y0) : w.heap.size ≤ gb193)); have n3_ := Aside0.mk ((by rw [hg]; exact (below_size q9y0) : w.heap.size ≤ gb193)); clear HB; have HB := n0_; have BK193 := n1_; have GW193 := n2_; have GE193 := n3_; clear n0_ n1_ n2_ n3_; clear hb hbox hg; have hcz24_0 : w23.cell? ⟨gb193, 0, none⟩ = some (.int .i64 a0_0) := (blk_cell BK193.out 0).trans rfl; have hcz24_1 : w23.cell? ⟨gb193, 1, none⟩ = some (.string a0_1) := (blk_cell BK193.out 1).trans rfl; have hcz24_2 : w23.cell? ⟨gb193, 2, none⟩ = some (.int .i64 a0_2) := (blk_cell BK193.out 2).trans rfl; have hcz24_3 : w23.cell? ⟨gb193, 3, none⟩ = some (.bool false) := (blk_cell BK193.out 3).trans rfl; have hfz24_0 := blk_frozen BK193.out 0; have hfz24_1 := blk_frozen BK193.out 1; have hfz24_2 := blk_frozen BK193.out 2; have hfz24_3 := blk_frozen BK193.out 3) | (go_at_call 53; (with_reducible refine (cambiumref02_Right.calls k a0_1 t195 _ A22.out).mono ?_); rintro e w25 ⟨rfl, hb⟩; have n0_ := Aside0.mk (blk_below (g := gb193) (o := .cells #[.int .i64 a0_0, .string a0_1, .int .i64 a0_2, .bool false] 39 (0, 0)) q9y2 hb); have n1_ := Aside0.mk (below_step q9y1 hb); clear BK193; clear HB; have BK193 := n0_; have HB := n1_; clear n0_ n1_; (try clear hb); (try clear hb2); (try clear hk); (try clear hi)))
   go_ret
   exact ⟨by first | rfl | (simp [errW_none, errW_some] <;> rfl) | (simp [*, errW_none, errW_some] <;> rfl), by repeat (first | (with_reducible first | exact HB.out | apply below_alloc | apply pw_below_drewN | apply below_drew1 | refine below_set ?_ GE193.out) | exact HB.out)⟩
  rw [if_neg c9] at H
  have c9b0 : (a0_0 == 1) = false := beq_eq_false_iff_ne.mpr c9
  have c9b1 : (a0_0 != 1) = true := bne_iff_ne.mpr c9
  by_cases c28 : a0_2 = 0
  rotate_left
  ·rw [if_neg c28] at H
   have c28b0 : (a0_2 == 0) = false := beq_eq_false_iff_ne.mpr c28
   have c28b1 : (a0_2 != 0) = true := bne_iff_ne.mpr c28
   obtain rfl := Option.some.inj H
   go_enter Try.func31, Try.ntmps31
   go_wp2_with (first | ((with_reducible refine gate_dst (N := 1) rfl ?_); refine box_event ?hg (N := 1) ?hd (cs := #[.int .i64 a0_0, .string a0_1, .int .i64 a0_2, .bool a0_3]) (t := 39) ?hr ?_; (case hd => rfl); (case hg => rfl); (case hr => first | (go_simp; done) | (go_simp; rfl)); intro gb193 hg w47 hbox hb; have n0_ := Aside0.mk (below_step q9y0 hb); have n1_ := Aside0.mk (hbox); have n2_ := Aside0.mk ((by rw [hg]; exact (below_size q9y0) : w.heap.size ≤ gb193)); have n3_ := Aside0.mk ((by rw [hg]; exact (below_size q9y0) : w.heap.size ≤ gb193)); clear HB; have HB := n0_; have BK193 := n1_; have GW193 := n2_; have GE193 := n3_; clear n0_ n1_ n2_ n3_; clear hb hbox hg; have hcz48_0 : w47.cell? ⟨gb193, 0, none⟩ = some (.int .i64 a0_0) := (blk_cell BK193.out 0).trans rfl; have hcz48_1 : w47.cell? ⟨gb193, 1, none⟩ = some (.string a0_1) := (blk_cell BK193.out 1).trans rfl; have hcz48_2 : w47.cell? ⟨gb193, 2, none⟩ = some (.int .i64 a0_2) := (blk_cell BK193.out 2).trans rfl; have hcz48_3 : w47.cell? ⟨gb193, 3, none⟩ = some (.bool a0_3) := (blk_cell BK193.out 3).trans rfl; have hfz48_0 := blk_frozen BK193.out 0; have hfz48_1 := blk_frozen BK193.out 1; have hfz48_2 := blk_frozen BK193.out 2; have hfz48_3 := blk_frozen BK193.out 3))
   go_ret
   exact ⟨by first | rfl | (simp [errW_none, errW_some] <;> rfl) | (simp [*, errW_none, errW_some] <;> rfl), by repeat (first | (with_reducible first | exact HB.out | apply below_alloc | apply pw_below_drewN | apply below_drew1 | refine below_set ?_ GE193.out) | exact HB.out)⟩
  rw [if_pos c28] at H
  have c28b0 : (a0_2 == 0) = true := beq_iff_eq.mpr c28
  have c28b1 : (a0_2 != 0) = false := bne_eq_false_iff_eq.mpr c28
  clear c28
  by_cases c29 : a0_0 = 2
  ·rw [if_pos c29] at H
   have c29b0 : (a0_0 == 2) = true := beq_iff_eq.mpr c29
   have c29b1 : (a0_0 != 2) = false := bne_eq_false_iff_eq.mpr c29
   clear c29
   by_cases c30 : (a0_1.size : Int) ≤ 200
   rotate_left
   ·rw [if_neg c30] at H
    have c30b0 : decide ((a0_1.size : Int) ≤ 200) = false := decide_eq_false c30
    have c30b1 : decide (a0_1.size ≤ 200) = false := decide_eq_false (by omega)
    clear c30
    obtain rfl := Option.some.inj H
    go_enter Try.func31, Try.ntmps31
    go_wp2_with (first | ((with_reducible refine gate_dst (N := 1) rfl ?_); refine box_event ?hg (N := 1) ?hd (cs := #[.int .i64 a0_0, .string a0_1, .int .i64 a0_2, .bool a0_3]) (t := 39) ?hr ?_; (case hd => rfl); (case hg => rfl); (case hr => first | (go_simp; done) | (go_simp; rfl)); intro gb193 hg w35 hbox hb; have n0_ := Aside0.mk (below_step q9y0 hb); have n1_ := Aside0.mk (hbox); have n2_ := Aside0.mk ((by rw [hg]; exact (below_size q9y0) : w.heap.size ≤ gb193)); have n3_ := Aside0.mk ((by rw [hg]; exact (below_size q9y0) : w.heap.size ≤ gb193)); clear HB; have HB := n0_; have BK193 := n1_; have GW193 := n2_; have GE193 := n3_; clear n0_ n1_ n2_ n3_; clear hb hbox hg; have hcz36_0 : w35.cell? ⟨gb193, 0, none⟩ = some (.int .i64 a0_0) := (blk_cell BK193.out 0).trans rfl; have hcz36_1 : w35.cell? ⟨gb193, 1, none⟩ = some (.string a0_1) := (blk_cell BK193.out 1).trans rfl; have hcz36_2 : w35.cell? ⟨gb193, 2, none⟩ = some (.int .i64 a0_2) := (blk_cell BK193.out 2).trans rfl; have hcz36_3 : w35.cell? ⟨gb193, 3, none⟩ = some (.bool a0_3) := (blk_cell BK193.out 3).trans rfl; have hfz36_0 := blk_frozen BK193.out 0; have hfz36_1 := blk_frozen BK193.out 1; have hfz36_2 := blk_frozen BK193.out 2; have hfz36_3 := blk_frozen BK193.out 3))
    go_ret
    exact ⟨by first | rfl | (simp [errW_none, errW_some] <;> rfl) | (simp [*, errW_none, errW_some] <;> rfl), by repeat (first | (with_reducible first | exact HB.out | apply below_alloc | apply pw_below_drewN | apply below_drew1 | refine below_set ?_ GE193.out) | exact HB.out)⟩
   rw [if_pos c30] at H
   have c30b0 : decide ((a0_1.size : Int) ≤ 200) = true := decide_eq_true c30
   have c30b1 : decide (a0_1.size ≤ 200) = true := decide_eq_true (by omega)
   clear c30
   replace H := Option.bind_eq_some_iff.mp H
   obtain ⟨t196, A310, H⟩ := H
   replace H : (some t196) = some r := H
   have A31 := Aside0.mk A310
   clear A310
   obtain rfl := Option.some.inj H
   go_enter Try.func31, Try.ntmps31
   go_wp2_with (first | ((with_reducible refine gate_dst (N := 1) rfl ?_); refine box_event ?hg (N := 1) ?hd (cs := #[.int .i64 a0_0, .string a0_1, .int .i64 a0_2, .bool a0_3]) (t := 39) ?hr ?_; (case hd => rfl); (case hg => rfl); (case hr => first | (go_simp; done) | (go_simp; rfl)); intro gb193 hg w32 hbox hb; have n0_ := Aside0.mk (below_step q9y0 hb); have n1_ := Aside0.mk (hbox); have n2_ := Aside0.mk ((by rw [hg]; exact (below_size q9y0) : w.heap.size ≤ gb193)); have n3_ := Aside0.mk ((by rw [hg]; exact (below_size q9y0) : w.heap.size ≤ gb193)); clear HB; have HB := n0_; have BK193 := n1_; have GW193 := n2_; have GE193 := n3_; clear n0_ n1_ n2_ n3_; clear hb hbox hg; have hcz33_0 : w32.cell? ⟨gb193, 0, none⟩ = some (.int .i64 a0_0) := (blk_cell BK193.out 0).trans rfl; have hcz33_1 : w32.cell? ⟨gb193, 1, none⟩ = some (.string a0_1) := (blk_cell BK193.out 1).trans rfl; have hcz33_2 : w32.cell? ⟨gb193, 2, none⟩ = some (.int .i64 a0_2) := (blk_cell BK193.out 2).trans rfl; have hcz33_3 : w32.cell? ⟨gb193, 3, none⟩ = some (.bool a0_3) := (blk_cell BK193.out 3).trans rfl; have hfz33_0 := blk_frozen BK193.out 0; have hfz33_1 := blk_frozen BK193.out 1; have hfz33_2 := blk_frozen BK193.out 2; have hfz33_3 := blk_frozen BK193.out 3) | (go_at_call 53; (with_reducible refine (cambiumref02_Right.calls k a0_1 t196 _ A31.out).mono ?_); rintro e w34 ⟨rfl, hb⟩; have n0_ := Aside0.mk (blk_below (g := gb193) (o := .cells #[.int .i64 a0_0, .string a0_1, .int .i64 a0_2, .bool a0_3] 39 (0, 0)) q9y2 hb); have n1_ := Aside0.mk (below_step q9y1 hb); clear BK193; clear HB; have BK193 := n0_; have HB := n1_; clear n0_ n1_; (try clear hb); (try clear hb2); (try clear hk); (try clear hi)))
   go_ret
   exact ⟨by first | rfl | (simp [errW_none, errW_some] <;> rfl) | (simp [*, errW_none, errW_some] <;> rfl), by repeat (first | (with_reducible first | exact HB.out | apply below_alloc | apply pw_below_drewN | apply below_drew1 | refine below_set ?_ GE193.out) | exact HB.out)⟩
  rw [if_neg c29] at H
  have c29b0 : (a0_0 == 2) = false := beq_eq_false_iff_ne.mpr c29
  have c29b1 : (a0_0 != 2) = true := bne_iff_ne.mpr c29
  by_cases c37 : a0_3 = true
  ·subst c37
   have H1 : (some false) = some r := by rw [if_pos rfl] at H; exact H
   clear H
   have H := H1
   clear H1
   obtain rfl := Option.some.inj H
   go_enter Try.func31, Try.ntmps31
   go_wp2_with (first | ((with_reducible refine gate_dst (N := 1) rfl ?_); refine box_event ?hg (N := 1) ?hd (cs := #[.int .i64 a0_0, .string a0_1, .int .i64 a0_2, .bool true]) (t := 39) ?hr ?_; (case hd => rfl); (case hg => rfl); (case hr => first | (go_simp; done) | (go_simp; rfl)); intro gb193 hg w38 hbox hb; have n0_ := Aside0.mk (below_step q9y0 hb); have n1_ := Aside0.mk (hbox); have n2_ := Aside0.mk ((by rw [hg]; exact (below_size q9y0) : w.heap.size ≤ gb193)); have n3_ := Aside0.mk ((by rw [hg]; exact (below_size q9y0) : w.heap.size ≤ gb193)); clear HB; have HB := n0_; have BK193 := n1_; have GW193 := n2_; have GE193 := n3_; clear n0_ n1_ n2_ n3_; clear hb hbox hg; have hcz39_0 : w38.cell? ⟨gb193, 0, none⟩ = some (.int .i64 a0_0) := (blk_cell BK193.out 0).trans rfl; have hcz39_1 : w38.cell? ⟨gb193, 1, none⟩ = some (.string a0_1) := (blk_cell BK193.out 1).trans rfl; have hcz39_2 : w38.cell? ⟨gb193, 2, none⟩ = some (.int .i64 a0_2) := (blk_cell BK193.out 2).trans rfl; have hcz39_3 : w38.cell? ⟨gb193, 3, none⟩ = some (.bool true) := (blk_cell BK193.out 3).trans rfl; have hfz39_0 := blk_frozen BK193.out 0; have hfz39_1 := blk_frozen BK193.out 1; have hfz39_2 := blk_frozen BK193.out 2; have hfz39_3 := blk_frozen BK193.out 3))
   go_ret
   exact ⟨by first | rfl | (simp [errW_none, errW_some] <;> rfl) | (simp [*, errW_none, errW_some] <;> rfl), by repeat (first | (with_reducible first | exact HB.out | apply below_alloc | apply pw_below_drewN | apply below_drew1 | refine below_set ?_ GE193.out) | exact HB.out)⟩
  replace c37 := Bool.eq_false_iff.mpr c37
  subst c37
  have H1 : (if (a0_1.size : Int) ≤ 200 then ((cambiumref02_Right.f k a0_1).bind fun t197 => (some t197)) else (some false)) = some r := by rw [if_neg (show ¬ (false = true) by decide)] at H; exact H
  clear H
  have H := H1
  clear H1
  by_cases c40 : (a0_1.size : Int) ≤ 200
  rotate_left
  ·rw [if_neg c40] at H
   have c40b0 : decide ((a0_1.size : Int) ≤ 200) = false := decide_eq_false c40
   have c40b1 : decide (a0_1.size ≤ 200) = false := decide_eq_false (by omega)
   clear c40
   obtain rfl := Option.some.inj H
   go_enter Try.func31, Try.ntmps31
   go_wp2_with (first | ((with_reducible refine gate_dst (N := 1) rfl ?_); refine box_event ?hg (N := 1) ?hd (cs := #[.int .i64 a0_0, .string a0_1, .int .i64 a0_2, .bool false]) (t := 39) ?hr ?_; (case hd => rfl); (case hg => rfl); (case hr => first | (go_simp; done) | (go_simp; rfl)); intro gb193 hg w45 hbox hb; have n0_ := Aside0.mk (below_step q9y0 hb); have n1_ := Aside0.mk (hbox); have n2_ := Aside0.mk ((by rw [hg]; exact (below_size q9y0) : w.heap.size ≤ gb193)); have n3_ := Aside0.mk ((by rw [hg]; exact (below_size q9y0) : w.heap.size ≤ gb193)); clear HB; have HB := n0_; have BK193 := n1_; have GW193 := n2_; have GE193 := n3_; clear n0_ n1_ n2_ n3_; clear hb hbox hg; have hcz46_0 : w45.cell? ⟨gb193, 0, none⟩ = some (.int .i64 a0_0) := (blk_cell BK193.out 0).trans rfl; have hcz46_1 : w45.cell? ⟨gb193, 1, none⟩ = some (.string a0_1) := (blk_cell BK193.out 1).trans rfl; have hcz46_2 : w45.cell? ⟨gb193, 2, none⟩ = some (.int .i64 a0_2) := (blk_cell BK193.out 2).trans rfl; have hcz46_3 : w45.cell? ⟨gb193, 3, none⟩ = some (.bool false) := (blk_cell BK193.out 3).trans rfl; have hfz46_0 := blk_frozen BK193.out 0; have hfz46_1 := blk_frozen BK193.out 1; have hfz46_2 := blk_frozen BK193.out 2; have hfz46_3 := blk_frozen BK193.out 3))
   go_ret
   exact ⟨by first | rfl | (simp [errW_none, errW_some] <;> rfl) | (simp [*, errW_none, errW_some] <;> rfl), by repeat (first | (with_reducible first | exact HB.out | apply below_alloc | apply pw_below_drewN | apply below_drew1 | refine below_set ?_ GE193.out) | exact HB.out)⟩
  rw [if_pos c40] at H
  have c40b0 : decide ((a0_1.size : Int) ≤ 200) = true := decide_eq_true c40
  have c40b1 : decide (a0_1.size ≤ 200) = true := decide_eq_true (by omega)
  clear c40
  replace H := Option.bind_eq_some_iff.mp H
  obtain ⟨t197, A410, H⟩ := H
  replace H : (some t197) = some r := H
  have A41 := Aside0.mk A410
  clear A410
  obtain rfl := Option.some.inj H
  go_enter Try.func31, Try.ntmps31
  go_wp2_with (first | ((with_reducible refine gate_dst (N := 1) rfl ?_); refine box_event ?hg (N := 1) ?hd (cs := #[.int .i64 a0_0, .string a0_1, .int .i64 a0_2, .bool false]) (t := 39) ?hr ?_; (case hd => rfl); (case hg => rfl); (case hr => first | (go_simp; done) | (go_simp; rfl)); intro gb193 hg w42 hbox hb; have n0_ := Aside0.mk (below_step q9y0 hb); have n1_ := Aside0.mk (hbox); have n2_ := Aside0.mk ((by rw [hg]; exact (below_size q9y0) : w.heap.size ≤ gb193)); have n3_ := Aside0.mk ((by rw [hg]; exact (below_size q9y0) : w.heap.size ≤ gb193)); clear HB; have HB := n0_; have BK193 := n1_; have GW193 := n2_; have GE193 := n3_; clear n0_ n1_ n2_ n3_; clear hb hbox hg; have hcz43_0 : w42.cell? ⟨gb193, 0, none⟩ = some (.int .i64 a0_0) := (blk_cell BK193.out 0).trans rfl; have hcz43_1 : w42.cell? ⟨gb193, 1, none⟩ = some (.string a0_1) := (blk_cell BK193.out 1).trans rfl; have hcz43_2 : w42.cell? ⟨gb193, 2, none⟩ = some (.int .i64 a0_2) := (blk_cell BK193.out 2).trans rfl; have hcz43_3 : w42.cell? ⟨gb193, 3, none⟩ = some (.bool false) := (blk_cell BK193.out 3).trans rfl; have hfz43_0 := blk_frozen BK193.out 0; have hfz43_1 := blk_frozen BK193.out 1; have hfz43_2 := blk_frozen BK193.out 2; have hfz43_3 := blk_frozen BK193.out 3) | (go_at_call 53; (with_reducible refine (cambiumref02_Right.calls k a0_1 t197 _ A41.out).mono ?_); rintro e w44 ⟨rfl, hb⟩; have n0_ := Aside0.mk (blk_below (g := gb193) (o := .cells #[.int .i64 a0_0, .string a0_1, .int .i64 a0_2, .bool false] 39 (0, 0)) q9y2 hb); have n1_ := Aside0.mk (below_step q9y1 hb); clear BK193; clear HB; have BK193 := n0_; have HB := n1_; clear n0_ n1_; (try clear hb); (try clear hb2); (try clear hk); (try clear hi)))
  go_ret
  exact ⟨by first | rfl | (simp [errW_none, errW_some] <;> rfl) | (simp [*, errW_none, errW_some] <;> rfl), by repeat (first | (with_reducible first | exact HB.out | apply below_alloc | apply pw_below_drewN | apply below_drew1 | refine below_set ?_ GE193.out) | exact HB.out)⟩
 rw [if_neg c8] at H
 have c8b0 : (a0_0 == 0) = false := beq_eq_false_iff_ne.mpr c8
 have c8b1 : (a0_0 != 0) = true := bne_iff_ne.mpr c8
 by_cases c49 : a0_1.toList = ([] : List UInt8)
 rotate_left
 ·rw [if_neg c49] at H
  have c49b0 : (a0_1.toList == ([] : List UInt8)) = false := beq_eq_false_iff_ne.mpr c49
  have c49b1 : (a0_1.toList != ([] : List UInt8)) = true := bne_iff_ne.mpr c49
  obtain rfl := Option.some.inj H
  go_enter Try.func31, Try.ntmps31
  go_wp2_with (first | ((with_reducible refine gate_dst (N := 1) rfl ?_); refine box_event ?hg (N := 1) ?hd (cs := #[.int .i64 a0_0, .string a0_1, .int .i64 a0_2, .bool a0_3]) (t := 39) ?hr ?_; (case hd => rfl); (case hg => rfl); (case hr => first | (go_simp; done) | (go_simp; rfl)); intro gb193 hg w90 hbox hb; have n0_ := Aside0.mk (below_step q9y0 hb); have n1_ := Aside0.mk (hbox); have n2_ := Aside0.mk ((by rw [hg]; exact (below_size q9y0) : w.heap.size ≤ gb193)); have n3_ := Aside0.mk ((by rw [hg]; exact (below_size q9y0) : w.heap.size ≤ gb193)); clear HB; have HB := n0_; have BK193 := n1_; have GW193 := n2_; have GE193 := n3_; clear n0_ n1_ n2_ n3_; clear hb hbox hg; have hcz91_0 : w90.cell? ⟨gb193, 0, none⟩ = some (.int .i64 a0_0) := (blk_cell BK193.out 0).trans rfl; have hcz91_1 : w90.cell? ⟨gb193, 1, none⟩ = some (.string a0_1) := (blk_cell BK193.out 1).trans rfl; have hcz91_2 : w90.cell? ⟨gb193, 2, none⟩ = some (.int .i64 a0_2) := (blk_cell BK193.out 2).trans rfl; have hcz91_3 : w90.cell? ⟨gb193, 3, none⟩ = some (.bool a0_3) := (blk_cell BK193.out 3).trans rfl; have hfz91_0 := blk_frozen BK193.out 0; have hfz91_1 := blk_frozen BK193.out 1; have hfz91_2 := blk_frozen BK193.out 2; have hfz91_3 := blk_frozen BK193.out 3))
  go_ret
  exact ⟨by first | rfl | (simp [errW_none, errW_some] <;> rfl) | (simp [*, errW_none, errW_some] <;> rfl), by repeat (first | (with_reducible first | exact HB.out | apply below_alloc | apply pw_below_drewN | apply below_drew1 | refine below_set ?_ GE193.out) | exact HB.out)⟩

 rw [if_pos c49] at H
 have c49b0 : (a0_1.toList == ([] : List UInt8)) = true := beq_iff_eq.mpr c49
 have c49b1 : (a0_1.toList != ([] : List UInt8)) = false := bne_eq_false_iff_eq.mpr c49
 clear c49
 by_cases c50 : a0_0 = 1
 ·rw [if_pos c50] at H
  have c50b0 : (a0_0 == 1) = true := beq_iff_eq.mpr c50
  have c50b1 : (a0_0 != 1) = false := bne_eq_false_iff_eq.mpr c50
  clear c50
  by_cases c51 : a0_0 = 2
  ·rw [if_pos c51] at H
   have c51b0 : (a0_0 == 2) = true := beq_iff_eq.mpr c51
   have c51b1 : (a0_0 != 2) = false := bne_eq_false_iff_eq.mpr c51
   clear c51
   by_cases c52 : (a0_1.size : Int) ≤ 200
   rotate_left
   ·rw [if_neg c52] at H
    have c52b0 : decide ((a0_1.size : Int) ≤ 200) = false := decide_eq_false c52
    have c52b1 : decide (a0_1.size ≤ 200) = false := decide_eq_false (by omega)
    clear c52
    obtain rfl := Option.some.inj H
    go_enter Try.func31, Try.ntmps31
    go_wp2_with (first | ((with_reducible refine gate_dst (N := 1) rfl ?_); refine box_event ?hg (N := 1) ?hd (cs := #[.int .i64 a0_0, .string a0_1, .int .i64 a0_2, .bool a0_3]) (t := 39) ?hr ?_; (case hd => rfl); (case hg => rfl); (case hr => first | (go_simp; done) | (go_simp; rfl)); intro gb193 hg w57 hbox hb; have n0_ := Aside0.mk (below_step q9y0 hb); have n1_ := Aside0.mk (hbox); have n2_ := Aside0.mk ((by rw [hg]; exact (below_size q9y0) : w.heap.size ≤ gb193)); have n3_ := Aside0.mk ((by rw [hg]; exact (below_size q9y0) : w.heap.size ≤ gb193)); clear HB; have HB := n0_; have BK193 := n1_; have GW193 := n2_; have GE193 := n3_; clear n0_ n1_ n2_ n3_; clear hb hbox hg; have hcz58_0 : w57.cell? ⟨gb193, 0, none⟩ = some (.int .i64 a0_0) := (blk_cell BK193.out 0).trans rfl; have hcz58_1 : w57.cell? ⟨gb193, 1, none⟩ = some (.string a0_1) := (blk_cell BK193.out 1).trans rfl; have hcz58_2 : w57.cell? ⟨gb193, 2, none⟩ = some (.int .i64 a0_2) := (blk_cell BK193.out 2).trans rfl; have hcz58_3 : w57.cell? ⟨gb193, 3, none⟩ = some (.bool a0_3) := (blk_cell BK193.out 3).trans rfl; have hfz58_0 := blk_frozen BK193.out 0; have hfz58_1 := blk_frozen BK193.out 1; have hfz58_2 := blk_frozen BK193.out 2; have hfz58_3 := blk_frozen BK193.out 3))
    go_ret
    exact ⟨by first | rfl | (simp [errW_none, errW_some] <;> rfl) | (simp [*, errW_none, errW_some] <;> rfl), by repeat (first | (with_reducible first | exact HB.out | apply below_alloc | apply pw_below_drewN | apply below_drew1 | refine below_set ?_ GE193.out) | exact HB.out)⟩
   rw [if_pos c52] at H
   have c52b0 : decide ((a0_1.size : Int) ≤ 200) = true := decide_eq_true c52
   have c52b1 : decide (a0_1.size ≤ 200) = true := decide_eq_true (by omega)
   clear c52
   replace H := Option.bind_eq_some_iff.mp H
   obtain ⟨t198, A530, H⟩ := H
   replace H : (some t198) = some r := H
   have A53 := Aside0.mk A530
   clear A530
   obtain rfl := Option.some.inj H
   go_enter Try.func31, Try.ntmps31
   go_wp2_with (first | ((with_reducible refine gate_dst (N := 1) rfl ?_); refine box_event ?hg (N := 1) ?hd (cs := #[.int .i64 a0_0, .string a0_1, .int .i64 a0_2, .bool a0_3]) (t := 39) ?hr ?_; (case hd => rfl); (case hg => rfl); (case hr => first | (go_simp; done) | (go_simp; rfl)); intro gb193 hg w54 hbox hb; have n0_ := Aside0.mk (below_step q9y0 hb); have n1_ := Aside0.mk (hbox); have n2_ := Aside0.mk ((by rw [hg]; exact (below_size q9y0) : w.heap.size ≤ gb193)); have n3_ := Aside0.mk ((by rw [hg]; exact (below_size q9y0) : w.heap.size ≤ gb193)); clear HB; have HB := n0_; have BK193 := n1_; have GW193 := n2_; have GE193 := n3_; clear n0_ n1_ n2_ n3_; clear hb hbox hg; have hcz55_0 : w54.cell? ⟨gb193, 0, none⟩ = some (.int .i64 a0_0) := (blk_cell BK193.out 0).trans rfl; have hcz55_1 : w54.cell? ⟨gb193, 1, none⟩ = some (.string a0_1) := (blk_cell BK193.out 1).trans rfl; have hcz55_2 : w54.cell? ⟨gb193, 2, none⟩ = some (.int .i64 a0_2) := (blk_cell BK193.out 2).trans rfl; have hcz55_3 : w54.cell? ⟨gb193, 3, none⟩ = some (.bool a0_3) := (blk_cell BK193.out 3).trans rfl; have hfz55_0 := blk_frozen BK193.out 0; have hfz55_1 := blk_frozen BK193.out 1; have hfz55_2 := blk_frozen BK193.out 2; have hfz55_3 := blk_frozen BK193.out 3) | (go_at_call 53; (with_reducible refine (cambiumref02_Right.calls k a0_1 t198 _ A53.out).mono ?_); rintro e w56 ⟨rfl, hb⟩; have n0_ := Aside0.mk (blk_below (g := gb193) (o := .cells #[.int .i64 a0_0, .string a0_1, .int .i64 a0_2, .bool a0_3] 39 (0, 0)) q9y2 hb); have n1_ := Aside0.mk (below_step q9y1 hb); clear BK193; clear HB; have BK193 := n0_; have HB := n1_; clear n0_ n1_; (try clear hb); (try clear hb2); (try clear hk); (try clear hi)))
   go_ret
   exact ⟨by first | rfl | (simp [errW_none, errW_some] <;> rfl) | (simp [*, errW_none, errW_some] <;> rfl), by repeat (first | (with_reducible first | exact HB.out | apply below_alloc | apply pw_below_drewN | apply below_drew1 | refine below_set ?_ GE193.out) | exact HB.out)⟩
  rw [if_neg c51] at H
  have c51b0 : (a0_0 == 2) = false := beq_eq_false_iff_ne.mpr c51
  have c51b1 : (a0_0 != 2) = true := bne_iff_ne.mpr c51
  by_cases c59 : a0_3 = true
  ·subst c59
   have H1 : (some false) = some r := by rw [if_pos rfl] at H; exact H
   clear H
   have H := H1
   clear H1
   obtain rfl := Option.some.inj H
   go_enter Try.func31, Try.ntmps31
   go_wp2_with (first | ((with_reducible refine gate_dst (N := 1) rfl ?_); refine box_event ?hg (N := 1) ?hd (cs := #[.int .i64 a0_0, .string a0_1, .int .i64 a0_2, .bool true]) (t := 39) ?hr ?_; (case hd => rfl); (case hg => rfl); (case hr => first | (go_simp; done) | (go_simp; rfl)); intro gb193 hg w60 hbox hb; have n0_ := Aside0.mk (below_step q9y0 hb); have n1_ := Aside0.mk (hbox); have n2_ := Aside0.mk ((by rw [hg]; exact (below_size q9y0) : w.heap.size ≤ gb193)); have n3_ := Aside0.mk ((by rw [hg]; exact (below_size q9y0) : w.heap.size ≤ gb193)); clear HB; have HB := n0_; have BK193 := n1_; have GW193 := n2_; have GE193 := n3_; clear n0_ n1_ n2_ n3_; clear hb hbox hg; have hcz61_0 : w60.cell? ⟨gb193, 0, none⟩ = some (.int .i64 a0_0) := (blk_cell BK193.out 0).trans rfl; have hcz61_1 : w60.cell? ⟨gb193, 1, none⟩ = some (.string a0_1) := (blk_cell BK193.out 1).trans rfl; have hcz61_2 : w60.cell? ⟨gb193, 2, none⟩ = some (.int .i64 a0_2) := (blk_cell BK193.out 2).trans rfl; have hcz61_3 : w60.cell? ⟨gb193, 3, none⟩ = some (.bool true) := (blk_cell BK193.out 3).trans rfl; have hfz61_0 := blk_frozen BK193.out 0; have hfz61_1 := blk_frozen BK193.out 1; have hfz61_2 := blk_frozen BK193.out 2; have hfz61_3 := blk_frozen BK193.out 3))
   go_ret
   exact ⟨by first | rfl | (simp [errW_none, errW_some] <;> rfl) | (simp [*, errW_none, errW_some] <;> rfl), by repeat (first | (with_reducible first | exact HB.out | apply below_alloc | apply pw_below_drewN | apply below_drew1 | refine below_set ?_ GE193.out) | exact HB.out)⟩
  replace c59 := Bool.eq_false_iff.mpr c59
  subst c59
  have H1 : (if (a0_1.size : Int) ≤ 200 then ((cambiumref02_Right.f k a0_1).bind fun t199 => (some t199)) else (some false)) = some r := by rw [if_neg (show ¬ (false = true) by decide)] at H; exact H
  clear H
  have H := H1
  clear H1
  by_cases c62 : (a0_1.size : Int) ≤ 200
  rotate_left
  ·rw [if_neg c62] at H
   have c62b0 : decide ((a0_1.size : Int) ≤ 200) = false := decide_eq_false c62
   have c62b1 : decide (a0_1.size ≤ 200) = false := decide_eq_false (by omega)
   clear c62
   obtain rfl := Option.some.inj H
   go_enter Try.func31, Try.ntmps31
   go_wp2_with (first | ((with_reducible refine gate_dst (N := 1) rfl ?_); refine box_event ?hg (N := 1) ?hd (cs := #[.int .i64 a0_0, .string a0_1, .int .i64 a0_2, .bool false]) (t := 39) ?hr ?_; (case hd => rfl); (case hg => rfl); (case hr => first | (go_simp; done) | (go_simp; rfl)); intro gb193 hg w67 hbox hb; have n0_ := Aside0.mk (below_step q9y0 hb); have n1_ := Aside0.mk (hbox); have n2_ := Aside0.mk ((by rw [hg]; exact (below_size q9y0) : w.heap.size ≤ gb193)); have n3_ := Aside0.mk ((by rw [hg]; exact (below_size q9y0) : w.heap.size ≤ gb193)); clear HB; have HB := n0_; have BK193 := n1_; have GW193 := n2_; have GE193 := n3_; clear n0_ n1_ n2_ n3_; clear hb hbox hg; have hcz68_0 : w67.cell? ⟨gb193, 0, none⟩ = some (.int .i64 a0_0) := (blk_cell BK193.out 0).trans rfl; have hcz68_1 : w67.cell? ⟨gb193, 1, none⟩ = some (.string a0_1) := (blk_cell BK193.out 1).trans rfl; have hcz68_2 : w67.cell? ⟨gb193, 2, none⟩ = some (.int .i64 a0_2) := (blk_cell BK193.out 2).trans rfl; have hcz68_3 : w67.cell? ⟨gb193, 3, none⟩ = some (.bool false) := (blk_cell BK193.out 3).trans rfl; have hfz68_0 := blk_frozen BK193.out 0; have hfz68_1 := blk_frozen BK193.out 1; have hfz68_2 := blk_frozen BK193.out 2; have hfz68_3 := blk_frozen BK193.out 3))
   go_ret
   exact ⟨by first | rfl | (simp [errW_none, errW_some] <;> rfl) | (simp [*, errW_none, errW_some] <;> rfl), by repeat (first | (with_reducible first | exact HB.out | apply below_alloc | apply pw_below_drewN | apply below_drew1 | refine below_set ?_ GE193.out) | exact HB.out)⟩
  rw [if_pos c62] at H
  have c62b0 : decide ((a0_1.size : Int) ≤ 200) = true := decide_eq_true c62
  have c62b1 : decide (a0_1.size ≤ 200) = true := decide_eq_true (by omega)
  clear c62
  replace H := Option.bind_eq_some_iff.mp H
  obtain ⟨t199, A630, H⟩ := H
  replace H : (some t199) = some r := H
  have A63 := Aside0.mk A630
  clear A630
  obtain rfl := Option.some.inj H
  go_enter Try.func31, Try.ntmps31
  go_wp2_with (first | ((with_reducible refine gate_dst (N := 1) rfl ?_); refine box_event ?hg (N := 1) ?hd (cs := #[.int .i64 a0_0, .string a0_1, .int .i64 a0_2, .bool false]) (t := 39) ?hr ?_; (case hd => rfl); (case hg => rfl); (case hr => first | (go_simp; done) | (go_simp; rfl)); intro gb193 hg w64 hbox hb; have n0_ := Aside0.mk (below_step q9y0 hb); have n1_ := Aside0.mk (hbox); have n2_ := Aside0.mk ((by rw [hg]; exact (below_size q9y0) : w.heap.size ≤ gb193)); have n3_ := Aside0.mk ((by rw [hg]; exact (below_size q9y0) : w.heap.size ≤ gb193)); clear HB; have HB := n0_; have BK193 := n1_; have GW193 := n2_; have GE193 := n3_; clear n0_ n1_ n2_ n3_; clear hb hbox hg; have hcz65_0 : w64.cell? ⟨gb193, 0, none⟩ = some (.int .i64 a0_0) := (blk_cell BK193.out 0).trans rfl; have hcz65_1 : w64.cell? ⟨gb193, 1, none⟩ = some (.string a0_1) := (blk_cell BK193.out 1).trans rfl; have hcz65_2 : w64.cell? ⟨gb193, 2, none⟩ = some (.int .i64 a0_2) := (blk_cell BK193.out 2).trans rfl; have hcz65_3 : w64.cell? ⟨gb193, 3, none⟩ = some (.bool false) := (blk_cell BK193.out 3).trans rfl; have hfz65_0 := blk_frozen BK193.out 0; have hfz65_1 := blk_frozen BK193.out 1; have hfz65_2 := blk_frozen BK193.out 2; have hfz65_3 := blk_frozen BK193.out 3) | (go_at_call 53; (with_reducible refine (cambiumref02_Right.calls k a0_1 t199 _ A63.out).mono ?_); rintro e w66 ⟨rfl, hb⟩; have n0_ := Aside0.mk (blk_below (g := gb193) (o := .cells #[.int .i64 a0_0, .string a0_1, .int .i64 a0_2, .bool false] 39 (0, 0)) q9y2 hb); have n1_ := Aside0.mk (below_step q9y1 hb); clear BK193; clear HB; have BK193 := n0_; have HB := n1_; clear n0_ n1_; (try clear hb); (try clear hb2); (try clear hk); (try clear hi)))
  go_ret
  exact ⟨by first | rfl | (simp [errW_none, errW_some] <;> rfl) | (simp [*, errW_none, errW_some] <;> rfl), by repeat (first | (with_reducible first | exact HB.out | apply below_alloc | apply pw_below_drewN | apply below_drew1 | refine below_set ?_ GE193.out) | exact HB.out)⟩
 rw [if_neg c50] at H
 have c50b0 : (a0_0 == 1) = false := beq_eq_false_iff_ne.mpr c50
 have c50b1 : (a0_0 != 1) = true := bne_iff_ne.mpr c50
 by_cases c69 : a0_2 = 0
 rotate_left
 ·rw [if_neg c69] at H
  have c69b0 : (a0_2 == 0) = false := beq_eq_false_iff_ne.mpr c69
  have c69b1 : (a0_2 != 0) = true := bne_iff_ne.mpr c69
  obtain rfl := Option.some.inj H
  go_enter Try.func31, Try.ntmps31
  go_wp2_with (first | ((with_reducible refine gate_dst (N := 1) rfl ?_); refine box_event ?hg (N := 1) ?hd (cs := #[.int .i64 a0_0, .string a0_1, .int .i64 a0_2, .bool a0_3]) (t := 39) ?hr ?_; (case hd => rfl); (case hg => rfl); (case hr => first | (go_simp; done) | (go_simp; rfl)); intro gb193 hg w88 hbox hb; have n0_ := Aside0.mk (below_step q9y0 hb); have n1_ := Aside0.mk (hbox); have n2_ := Aside0.mk ((by rw [hg]; exact (below_size q9y0) : w.heap.size ≤ gb193)); have n3_ := Aside0.mk ((by rw [hg]; exact (below_size q9y0) : w.heap.size ≤ gb193)); clear HB; have HB := n0_; have BK193 := n1_; have GW193 := n2_; have GE193 := n3_; clear n0_ n1_ n2_ n3_; clear hb hbox hg; have hcz89_0 : w88.cell? ⟨gb193, 0, none⟩ = some (.int .i64 a0_0) := (blk_cell BK193.out 0).trans rfl; have hcz89_1 : w88.cell? ⟨gb193, 1, none⟩ = some (.string a0_1) := (blk_cell BK193.out 1).trans rfl; have hcz89_2 : w88.cell? ⟨gb193, 2, none⟩ = some (.int .i64 a0_2) := (blk_cell BK193.out 2).trans rfl; have hcz89_3 : w88.cell? ⟨gb193, 3, none⟩ = some (.bool a0_3) := (blk_cell BK193.out 3).trans rfl; have hfz89_0 := blk_frozen BK193.out 0; have hfz89_1 := blk_frozen BK193.out 1; have hfz89_2 := blk_frozen BK193.out 2; have hfz89_3 := blk_frozen BK193.out 3))
  go_ret
  exact ⟨by first | rfl | (simp [errW_none, errW_some] <;> rfl) | (simp [*, errW_none, errW_some] <;> rfl), by repeat (first | (with_reducible first | exact HB.out | apply below_alloc | apply pw_below_drewN | apply below_drew1 | refine below_set ?_ GE193.out) | exact HB.out)⟩
 rw [if_pos c69] at H
 have c69b0 : (a0_2 == 0) = true := beq_iff_eq.mpr c69
 have c69b1 : (a0_2 != 0) = false := bne_eq_false_iff_eq.mpr c69
 clear c69
 by_cases c70 : a0_0 = 2
 ·rw [if_pos c70] at H
  have c70b0 : (a0_0 == 2) = true := beq_iff_eq.mpr c70
  have c70b1 : (a0_0 != 2) = false := bne_eq_false_iff_eq.mpr c70
  clear c70
  by_cases c71 : (a0_1.size : Int) ≤ 200
  rotate_left
  ·rw [if_neg c71] at H
   have c71b0 : decide ((a0_1.size : Int) ≤ 200) = false := decide_eq_false c71
   have c71b1 : decide (a0_1.size ≤ 200) = false := decide_eq_false (by omega)
   clear c71
   obtain rfl := Option.some.inj H
   go_enter Try.func31, Try.ntmps31
   go_wp2_with (first | ((with_reducible refine gate_dst (N := 1) rfl ?_); refine box_event ?hg (N := 1) ?hd (cs := #[.int .i64 a0_0, .string a0_1, .int .i64 a0_2, .bool a0_3]) (t := 39) ?hr ?_; (case hd => rfl); (case hg => rfl); (case hr => first | (go_simp; done) | (go_simp; rfl)); intro gb193 hg w76 hbox hb; have n0_ := Aside0.mk (below_step q9y0 hb); have n1_ := Aside0.mk (hbox); have n2_ := Aside0.mk ((by rw [hg]; exact (below_size q9y0) : w.heap.size ≤ gb193)); have n3_ := Aside0.mk ((by rw [hg]; exact (below_size q9y0) : w.heap.size ≤ gb193)); clear HB; have HB := n0_; have BK193 := n1_; have GW193 := n2_; have GE193 := n3_; clear n0_ n1_ n2_ n3_; clear hb hbox hg; have hcz77_0 : w76.cell? ⟨gb193, 0, none⟩ = some (.int .i64 a0_0) := (blk_cell BK193.out 0).trans rfl; have hcz77_1 : w76.cell? ⟨gb193, 1, none⟩ = some (.string a0_1) := (blk_cell BK193.out 1).trans rfl; have hcz77_2 : w76.cell? ⟨gb193, 2, none⟩ = some (.int .i64 a0_2) := (blk_cell BK193.out 2).trans rfl; have hcz77_3 : w76.cell? ⟨gb193, 3, none⟩ = some (.bool a0_3) := (blk_cell BK193.out 3).trans rfl; have hfz77_0 := blk_frozen BK193.out 0; have hfz77_1 := blk_frozen BK193.out 1; have hfz77_2 := blk_frozen BK193.out 2; have hfz77_3 := blk_frozen BK193.out 3))
   go_ret
   exact ⟨by first | rfl | (simp [errW_none, errW_some] <;> rfl) | (simp [*, errW_none, errW_some] <;> rfl), by repeat (first | (with_reducible first | exact HB.out | apply below_alloc | apply pw_below_drewN | apply below_drew1 | refine below_set ?_ GE193.out) | exact HB.out)⟩
  rw [if_pos c71] at H
  have c71b0 : decide ((a0_1.size : Int) ≤ 200) = true := decide_eq_true c71
  have c71b1 : decide (a0_1.size ≤ 200) = true := decide_eq_true (by omega)
  clear c71
  replace H := Option.bind_eq_some_iff.mp H
  obtain ⟨t200, A720, H⟩ := H
  replace H : (some t200) = some r := H
  have A72 := Aside0.mk A720
  clear A720
  obtain rfl := Option.some.inj H
  go_enter Try.func31, Try.ntmps31
  go_wp2_with (first | ((with_reducible refine gate_dst (N := 1) rfl ?_); refine box_event ?hg (N := 1) ?hd (cs := #[.int .i64 a0_0, .string a0_1, .int .i64 a0_2, .bool a0_3]) (t := 39) ?hr ?_; (case hd => rfl); (case hg => rfl); (case hr => first | (go_simp; done) | (go_simp; rfl)); intro gb193 hg w73 hbox hb; have n0_ := Aside0.mk (below_step q9y0 hb); have n1_ := Aside0.mk (hbox); have n2_ := Aside0.mk ((by rw [hg]; exact (below_size q9y0) : w.heap.size ≤ gb193)); have n3_ := Aside0.mk ((by rw [hg]; exact (below_size q9y0) : w.heap.size ≤ gb193)); clear HB; have HB := n0_; have BK193 := n1_; have GW193 := n2_; have GE193 := n3_; clear n0_ n1_ n2_ n3_; clear hb hbox hg; have hcz74_0 : w73.cell? ⟨gb193, 0, none⟩ = some (.int .i64 a0_0) := (blk_cell BK193.out 0).trans rfl; have hcz74_1 : w73.cell? ⟨gb193, 1, none⟩ = some (.string a0_1) := (blk_cell BK193.out 1).trans rfl; have hcz74_2 : w73.cell? ⟨gb193, 2, none⟩ = some (.int .i64 a0_2) := (blk_cell BK193.out 2).trans rfl; have hcz74_3 : w73.cell? ⟨gb193, 3, none⟩ = some (.bool a0_3) := (blk_cell BK193.out 3).trans rfl; have hfz74_0 := blk_frozen BK193.out 0; have hfz74_1 := blk_frozen BK193.out 1; have hfz74_2 := blk_frozen BK193.out 2; have hfz74_3 := blk_frozen BK193.out 3) | (go_at_call 53; (with_reducible refine (cambiumref02_Right.calls k a0_1 t200 _ A72.out).mono ?_); rintro e w75 ⟨rfl, hb⟩; have n0_ := Aside0.mk (blk_below (g := gb193) (o := .cells #[.int .i64 a0_0, .string a0_1, .int .i64 a0_2, .bool a0_3] 39 (0, 0)) q9y2 hb); have n1_ := Aside0.mk (below_step q9y1 hb); clear BK193; clear HB; have BK193 := n0_; have HB := n1_; clear n0_ n1_; (try clear hb); (try clear hb2); (try clear hk); (try clear hi)))
  go_ret
  exact ⟨by first | rfl | (simp [errW_none, errW_some] <;> rfl) | (simp [*, errW_none, errW_some] <;> rfl), by repeat (first | (with_reducible first | exact HB.out | apply below_alloc | apply pw_below_drewN | apply below_drew1 | refine below_set ?_ GE193.out) | exact HB.out)⟩
 rw [if_neg c70] at H
 have c70b0 : (a0_0 == 2) = false := beq_eq_false_iff_ne.mpr c70
 have c70b1 : (a0_0 != 2) = true := bne_iff_ne.mpr c70
 by_cases c78 : a0_3 = true
 ·subst c78
  have H1 : (some false) = some r := by rw [if_pos rfl] at H; exact H
  clear H
  have H := H1
  clear H1
  obtain rfl := Option.some.inj H
  go_enter Try.func31, Try.ntmps31
  go_wp2_with (first | ((with_reducible refine gate_dst (N := 1) rfl ?_); refine box_event ?hg (N := 1) ?hd (cs := #[.int .i64 a0_0, .string a0_1, .int .i64 a0_2, .bool true]) (t := 39) ?hr ?_; (case hd => rfl); (case hg => rfl); (case hr => first | (go_simp; done) | (go_simp; rfl)); intro gb193 hg w79 hbox hb; have n0_ := Aside0.mk (below_step q9y0 hb); have n1_ := Aside0.mk (hbox); have n2_ := Aside0.mk ((by rw [hg]; exact (below_size q9y0) : w.heap.size ≤ gb193)); have n3_ := Aside0.mk ((by rw [hg]; exact (below_size q9y0) : w.heap.size ≤ gb193)); clear HB; have HB := n0_; have BK193 := n1_; have GW193 := n2_; have GE193 := n3_; clear n0_ n1_ n2_ n3_; clear hb hbox hg; have hcz80_0 : w79.cell? ⟨gb193, 0, none⟩ = some (.int .i64 a0_0) := (blk_cell BK193.out 0).trans rfl; have hcz80_1 : w79.cell? ⟨gb193, 1, none⟩ = some (.string a0_1) := (blk_cell BK193.out 1).trans rfl; have hcz80_2 : w79.cell? ⟨gb193, 2, none⟩ = some (.int .i64 a0_2) := (blk_cell BK193.out 2).trans rfl; have hcz80_3 : w79.cell? ⟨gb193, 3, none⟩ = some (.bool true) := (blk_cell BK193.out 3).trans rfl; have hfz80_0 := blk_frozen BK193.out 0; have hfz80_1 := blk_frozen BK193.out 1; have hfz80_2 := blk_frozen BK193.out 2; have hfz80_3 := blk_frozen BK193.out 3))
  go_ret
  exact ⟨by first | rfl | (simp [errW_none, errW_some] <;> rfl) | (simp [*, errW_none, errW_some] <;> rfl), by repeat (first | (with_reducible first | exact HB.out | apply below_alloc | apply pw_below_drewN | apply below_drew1 | refine below_set ?_ GE193.out) | exact HB.out)⟩
 replace c78 := Bool.eq_false_iff.mpr c78
 subst c78
 have H1 : (if (a0_1.size : Int) ≤ 200 then ((cambiumref02_Right.f k a0_1).bind fun t201 => (some t201)) else (some false)) = some r := by rw [if_neg (show ¬ (false = true) by decide)] at H; exact H
 clear H
 have H := H1
 clear H1
 by_cases c81 : (a0_1.size : Int) ≤ 200
 rotate_left
 ·rw [if_neg c81] at H
  have c81b0 : decide ((a0_1.size : Int) ≤ 200) = false := decide_eq_false c81
  have c81b1 : decide (a0_1.size ≤ 200) = false := decide_eq_false (by omega)
  clear c81
  obtain rfl := Option.some.inj H
  go_enter Try.func31, Try.ntmps31
  go_wp2_with (first | ((with_reducible refine gate_dst (N := 1) rfl ?_); refine box_event ?hg (N := 1) ?hd (cs := #[.int .i64 a0_0, .string a0_1, .int .i64 a0_2, .bool false]) (t := 39) ?hr ?_; (case hd => rfl); (case hg => rfl); (case hr => first | (go_simp; done) | (go_simp; rfl)); intro gb193 hg w86 hbox hb; have n0_ := Aside0.mk (below_step q9y0 hb); have n1_ := Aside0.mk (hbox); have n2_ := Aside0.mk ((by rw [hg]; exact (below_size q9y0) : w.heap.size ≤ gb193)); have n3_ := Aside0.mk ((by rw [hg]; exact (below_size q9y0) : w.heap.size ≤ gb193)); clear HB; have HB := n0_; have BK193 := n1_; have GW193 := n2_; have GE193 := n3_; clear n0_ n1_ n2_ n3_; clear hb hbox hg; have hcz87_0 : w86.cell? ⟨gb193, 0, none⟩ = some (.int .i64 a0_0) := (blk_cell BK193.out 0).trans rfl; have hcz87_1 : w86.cell? ⟨gb193, 1, none⟩ = some (.string a0_1) := (blk_cell BK193.out 1).trans rfl; have hcz87_2 : w86.cell? ⟨gb193, 2, none⟩ = some (.int .i64 a0_2) := (blk_cell BK193.out 2).trans rfl; have hcz87_3 : w86.cell? ⟨gb193, 3, none⟩ = some (.bool false) := (blk_cell BK193.out 3).trans rfl; have hfz87_0 := blk_frozen BK193.out 0; have hfz87_1 := blk_frozen BK193.out 1; have hfz87_2 := blk_frozen BK193.out 2; have hfz87_3 := blk_frozen BK193.out 3))
  go_ret
  exact ⟨by first | rfl | (simp [errW_none, errW_some] <;> rfl) | (simp [*, errW_none, errW_some] <;> rfl), by repeat (first | (with_reducible first | exact HB.out | apply below_alloc | apply pw_below_drewN | apply below_drew1 | refine below_set ?_ GE193.out) | exact HB.out)⟩
 rw [if_pos c81] at H
 have c81b0 : decide ((a0_1.size : Int) ≤ 200) = true := decide_eq_true c81
 have c81b1 : decide (a0_1.size ≤ 200) = true := decide_eq_true (by omega)
 clear c81
 replace H := Option.bind_eq_some_iff.mp H
 obtain ⟨t201, A820, H⟩ := H
 replace H : (some t201) = some r := H
 have A82 := Aside0.mk A820
 clear A820
 obtain rfl := Option.some.inj H
 go_enter Try.func31, Try.ntmps31
 go_wp2_with (first | ((with_reducible refine gate_dst (N := 1) rfl ?_); refine box_event ?hg (N := 1) ?hd (cs := #[.int .i64 a0_0, .string a0_1, .int .i64 a0_2, .bool false]) (t := 39) ?hr ?_; (case hd => rfl); (case hg => rfl); (case hr => first | (go_simp; done) | (go_simp; rfl)); intro gb193 hg w83 hbox hb; have n0_ := Aside0.mk (below_step q9y0 hb); have n1_ := Aside0.mk (hbox); have n2_ := Aside0.mk ((by rw [hg]; exact (below_size q9y0) : w.heap.size ≤ gb193)); have n3_ := Aside0.mk ((by rw [hg]; exact (below_size q9y0) : w.heap.size ≤ gb193)); clear HB; have HB := n0_; have BK193 := n1_; have GW193 := n2_; have GE193 := n3_; clear n0_ n1_ n2_ n3_; clear hb hbox hg; have hcz84_0 : w83.cell? ⟨gb193, 0, none⟩ = some (.int .i64 a0_0) := (blk_cell BK193.out 0).trans rfl; have hcz84_1 : w83.cell? ⟨gb193, 1, none⟩ = some (.string a0_1) := (blk_cell BK193.out 1).trans rfl; have hcz84_2 : w83.cell? ⟨gb193, 2, none⟩ = some (.int .i64 a0_2) := (blk_cell BK193.out 2).trans rfl; have hcz84_3 : w83.cell? ⟨gb193, 3, none⟩ = some (.bool false) := (blk_cell BK193.out 3).trans rfl; have hfz84_0 := blk_frozen BK193.out 0; have hfz84_1 := blk_frozen BK193.out 1; have hfz84_2 := blk_frozen BK193.out 2; have hfz84_3 := blk_frozen BK193.out 3) | (go_at_call 53; (with_reducible refine (cambiumref02_Right.calls k a0_1 t201 _ A82.out).mono ?_); rintro e w85 ⟨rfl, hb⟩; have n0_ := Aside0.mk (blk_below (g := gb193) (o := .cells #[.int .i64 a0_0, .string a0_1, .int .i64 a0_2, .bool false] 39 (0, 0)) q9y2 hb); have n1_ := Aside0.mk (below_step q9y1 hb); clear BK193; clear HB; have BK193 := n0_; have HB := n1_; clear n0_ n1_; (try clear hb); (try clear hb2); (try clear hk); (try clear hi)))
 go_ret
 exact ⟨by first | rfl | (simp [errW_none, errW_some] <;> rfl) | (simp [*, errW_none, errW_some] <;> rfl), by repeat (first | (with_reducible first | exact HB.out | apply below_alloc | apply pw_below_drewN | apply below_drew1 | refine below_set ?_ GE193.out) | exact HB.out)⟩
/-! ### cambiumref16_Name: function 34 -/
def cambiumref16_Name.f (k : Nat) (a0 : ByteArray) : Option (Bool) := if (a0.size : Int) ≥ 1 then (if (a0.size : Int) ≤ 32 then ((cambiumref02_Right.f k a0).bind fun t202 => (some t202)) else (some false)) else (some false)
theorem cambiumref16_Name.mono : ∀ a0 k, LeO (cambiumref16_Name.f k a0) (cambiumref16_Name.f (k + 1) a0) := by
 intro a0 k
 unfold cambiumref16_Name.f
 repeat' first
   | (with_reducible exact cambiumref02_Right.mono _ _)
   | (with_reducible exact LeO.refl _)
   | (with_reducible exact LeO.none _)
   | (with_reducible refine LeO.ite ?_ ?_)
   | (with_reducible refine LeO.bind ?_ (fun _ => ?_))
   | exact cambiumref02_Right.mono _ _
   | exact LeO.none _
   | refine LeO.ite ?_ ?_
   | refine LeO.bind ?_ (fun _ => ?_)
set_option maxHeartbeats 8000000 in
set_option maxRecDepth 100000 in
theorem cambiumref16_Name.calls (k : Nat) (a0 : ByteArray) (r : Bool) (w : World) (h : cambiumref16_Name.f k a0 = some r) :
  Calls Try.prog 34 #[.string a0] w fun e w' => e = .returned (.bool r) ∧ Below w.heap.size w w' := by
 have HB := Aside0.mk (Below.refl w.heap.size w)
 have H : (if (a0.size : Int) ≥ 1 then (if (a0.size : Int) ≤ 32 then ((cambiumref02_Right.f k a0).bind fun t202 => (some t202)) else (some false)) else (some false)) = some r := h
 clear h
 by_cases c2 : (a0.size : Int) ≥ 1
 rotate_left
 ·rw [if_neg c2] at H
  have c2b0 : decide (1 ≤ (a0.size : Int)) = false := decide_eq_false c2
  have c2b1 : decide (1 ≤ a0.size) = false := decide_eq_false (by omega)
  clear c2
  obtain rfl := Option.some.inj H
  go_enter Try.func34, Try.ntmps34
  go_wp2
  go_ret
  exact ⟨by first | rfl | (simp [errW_none, errW_some] <;> rfl) | (simp [*, errW_none, errW_some] <;> rfl), by repeat (first | (with_reducible first | exact HB.out | apply below_alloc | apply pw_below_drewN | apply below_drew1) | exact HB.out)⟩

 rw [if_pos c2] at H
 have c2b0 : decide (1 ≤ (a0.size : Int)) = true := decide_eq_true c2
 have c2b1 : decide (1 ≤ a0.size) = true := decide_eq_true (by omega)
 clear c2
 by_cases c3 : (a0.size : Int) ≤ 32
 rotate_left
 ·rw [if_neg c3] at H
  have c3b0 : decide ((a0.size : Int) ≤ 32) = false := decide_eq_false c3
  have c3b1 : decide (a0.size ≤ 32) = false := decide_eq_false (by omega)
  clear c3
  obtain rfl := Option.some.inj H
  go_enter Try.func34, Try.ntmps34
  go_wp2
  go_ret
  exact ⟨by first | rfl | (simp [errW_none, errW_some] <;> rfl) | (simp [*, errW_none, errW_some] <;> rfl), by repeat (first | (with_reducible first | exact HB.out | apply below_alloc | apply pw_below_drewN | apply below_drew1) | exact HB.out)⟩
 rw [if_pos c3] at H
 have c3b0 : decide ((a0.size : Int) ≤ 32) = true := decide_eq_true c3
 have c3b1 : decide (a0.size ≤ 32) = true := decide_eq_true (by omega)
 clear c3
 replace H := Option.bind_eq_some_iff.mp H
 obtain ⟨t202, A40, H⟩ := H
 replace H : (some t202) = some r := H
 have A4 := Aside0.mk A40
 clear A40
 obtain rfl := Option.some.inj H
 go_enter Try.func34, Try.ntmps34
 go_wp2_with (first | (go_at_call 53; (with_reducible refine (cambiumref02_Right.calls k a0 t202 _ A4.out).mono ?_); rintro e w5 ⟨rfl, hb⟩; have n0_ := Aside0.mk (below_step q9y0 hb); clear HB; have HB := n0_; clear n0_; (try clear hb); (try clear hb2); (try clear hk); (try clear hi)))
 go_ret
 exact ⟨by first | rfl | (simp [errW_none, errW_some] <;> rfl) | (simp [*, errW_none, errW_some] <;> rfl), by repeat (first | (with_reducible first | exact HB.out | apply below_alloc | apply pw_below_drewN | apply below_drew1) | exact HB.out)⟩
end Go.Proofs.Ytffggkhahambhaa.PAll
