-- Written by a program: the kit's print.py, driven for several laws at once. Not trusted: Lean checks it.
import Derived.Test.YtkgpnfjmahjlcaaDoorPAllx0
import Derived.Test.YtkgpnfjmahjlcaaDoorPAllx13
namespace Go.Proofs.YtkgpnfjmahjlcaaDoor.PAll
open Go.RowKit Go.Proofs.YtkgpnfjmahjlcaaDoorW.PrintWords Go.Proofs.YtkgpnfjmahjlcaaDoorW.PrintLast Go.Proofs.YtkgpnfjmahjlcaaDoorW.PrintMore
attribute [local go_sem] max2_int min2_int max_two min_two max_three min_three max_four min_four   -- for this text's walks alone
set_option linter.unusedVariables false
set_option linter.unusedSimpArgs false

/-! ### cambiumref16_Value: function 38 -/
theorem q14cb4 {w : World} {g : Nat} {t : TypeId} {x0 x1 x2 x3 : Value} (h : w.heap[g]? = some (.cells #[x0, x1, x2, x3] t (0, 0))) : w.cell? ⟨g, 0, none⟩ = some x0 ∧ w.cell? ⟨g, 1, none⟩ = some x1 ∧ w.cell? ⟨g, 2, none⟩ = some x2 ∧ w.cell? ⟨g, 3, none⟩ = some x3 ∧ w.frozen? ⟨g, 0, none⟩ = false ∧ w.frozen? ⟨g, 1, none⟩ = false ∧ w.frozen? ⟨g, 2, none⟩ = false ∧ w.frozen? ⟨g, 3, none⟩ = false :=
  ⟨(blk_cell h 0).trans rfl, (blk_cell h 1).trans rfl, (blk_cell h 2).trans rfl, (blk_cell h 3).trans rfl, blk_frozen h 0, blk_frozen h 1, blk_frozen h 2, blk_frozen h 3⟩
def q14m (n m : Nat) : Array Bool := ((List.range n).map (Nat.testBit m)).toArray
theorem q14a {α : Type} (xs : List α) (i : Nat) (x : α) : xs.toArray.setIfInBounds i x = (xs.set i x).toArray := List.setIfInBounds_toArray ..
theorem q14b {α : Type} (x y : α) (xs : List α) : (x :: xs).set 0 y = y :: xs := List.set_cons_zero ..
theorem q14c {α : Type} (x y : α) (xs : List α) (n : Nat) : (x :: xs).set (n + 1) y = x :: xs.set n y := List.set_cons_succ ..
theorem q14h {w w' : World} {p : Addr} {v : Value} (h : Below w.heap.size w w') (x : w.cell? p = some v) : w'.cell? p = some v := (h.cell (World.block_lt_of_cell? w _ x)).trans x
theorem q14p {P : Program} {md : Region.Mode} {ops : Array Oper} {Q : Exit → Act → World → Prop} {S : World → Prop} {ds : List Nat} {T : Bool × List (List Nat × List Nat)} {i : Nat} {N : Option Tmp} {oi : Oper} {v : Value} {fuel : Nat} {l : Array Bool} {a : Act} {w : World} (l' : Array Bool) (hT : rtab md ops = T) {a' : Act}
    (h : wpAnyLast P md ops Q S ds fuel l' a' w) (hi : ops[i]? = some oi := by rfl) (hN : oi.dst = N := by rfl) (hc : anyT T l.toList l'.toList i = true := by kernel_rfl) (hQ : ∀ c a w, Q (.panic c) (a.put oi.dst v) w → Q (.panic c) a w := by exact fun _ _ _ h => h)
    (hw : Region.wanted oi (yielded ops a.tmps) = true := by rfl) (hy : ∀ w', (execOp a.eval oi).run P w' = .ok (.value v) w' := by intro w'; go_simp; with_reducible rfl) (ha : a.put N v = a' := by simp only [Act.put, q14a, q14b, q14c, i64_w, i32_w]; rfl) :
    wpAnyLast P md ops Q S ds (fuel + 1) l a w := pure_ l' hi hN (any_of hT hc) hQ (Or.inl ⟨hw, hy⟩) ha h
theorem q14u {P : Program} {md : Region.Mode} {ops : Array Oper} {Q : Exit → Act → World → Prop} {S : World → Prop} {ds : List Nat} {T : Bool × List (List Nat × List Nat)} {i : Nat} {N : Option Tmp} {oi : Oper} {fuel : Nat} {l : Array Bool} {a : Act} {w : World} (l' : Array Bool) (hT : rtab md ops = T) {a' : Act}
    (h : wpAnyLast P md ops Q S ds fuel l' a' w) (hi : ops[i]? = some oi := by rfl) (hN : oi.dst = N := by rfl) (hc : anyT T l.toList l'.toList i = true := by kernel_rfl) (hQ : ∀ c a w, Q (.panic c) (a.put oi.dst undef) w → Q (.panic c) a w := by exact fun _ _ _ h => h)
    (hw : Region.wanted oi (yielded ops a.tmps) = false := by rfl) (ha : a.put N undef = a' := by simp only [Act.put, q14a, q14b, q14c, i64_w, i32_w]; rfl) :
    wpAnyLast P md ops Q S ds (fuel + 1) l a w := pure_ l' hi hN (any_of hT hc) hQ (Or.inr ⟨hw, rfl⟩) ha h
theorem q14k {w : World} {g : Nat} {cs : Array Value} {t : TypeId} (h : w.heap[g]? = some (.cells cs t (0, 0))) (i : Nat) {v : Value} (e : cs[i]? = some v := by rfl) : w.cell? ⟨g, i, none⟩ = some v := (blk_cell h i).trans e
theorem q14y0 {P : Prop} (h : P := by repeat (first | (with_reducible first | exact HB.out | apply below_alloc | apply pw_below_drewN | apply below_drew1) | exact HB.out)) : P := h
theorem q14y1 {P : Prop} (h : P := by repeat (first | (with_reducible first | exact HB.out | apply below_alloc | apply pw_below_drewN | apply below_drew1 | refine below_set ?_ GE204.out) | exact HB.out)) : P := h
theorem q14y2 {P : Prop} (h : P := by (with_reducible repeat (first | refine blk_drewN ?_ _ | refine blk_drew ?_ | refine blk_alloc ?_ _)); exact BK204.out) : P := h
theorem q14y3 {P : Prop} (h : P := by first | (with_reducible assumption) | assumption) : P := h

def cambiumref16_Value.f (k : Nat) (a0_0 : Int) (a0_1 : ByteArray) (a0_2 : Int) (a0_3 : Bool) : Option (Bool) := if a0_0 < 0 then (some false) else (if a0_0 > 2 then (some false) else (if a0_0 = 0 then (if a0_0 = 1 then (if a0_0 = 2 then (if (a0_1.size : Int) ≤ 200 then ((cambiumref02_Right.f k a0_1).bind fun t205 => (some t205)) else (some false)) else (if a0_3 = true then (some false) else (if (a0_1.size : Int) ≤ 200 then ((cambiumref02_Right.f k a0_1).bind fun t206 => (some t206)) else (some false)))) else (if a0_2 = 0 then (if a0_0 = 2 then (if (a0_1.size : Int) ≤ 200 then ((cambiumref02_Right.f k a0_1).bind fun t207 => (some t207)) else (some false)) else (if a0_3 = true then (some false) else (if (a0_1.size : Int) ≤ 200 then ((cambiumref02_Right.f k a0_1).bind fun t208 => (some t208)) else (some false)))) else (some false))) else (if a0_1.toList = ([] : List UInt8) then (if a0_0 = 1 then (if a0_0 = 2 then (if (a0_1.size : Int) ≤ 200 then ((cambiumref02_Right.f k a0_1).bind fun t209 => (some t209)) else (some false)) else (if a0_3 = true then (some false) else (if (a0_1.size : Int) ≤ 200 then ((cambiumref02_Right.f k a0_1).bind fun t210 => (some t210)) else (some false)))) else (if a0_2 = 0 then (if a0_0 = 2 then (if (a0_1.size : Int) ≤ 200 then ((cambiumref02_Right.f k a0_1).bind fun t211 => (some t211)) else (some false)) else (if a0_3 = true then (some false) else (if (a0_1.size : Int) ≤ 200 then ((cambiumref02_Right.f k a0_1).bind fun t212 => (some t212)) else (some false)))) else (some false))) else (some false))))
theorem cambiumref16_Value.mono : ∀ a0 a1 a2 a3 k, LeO (cambiumref16_Value.f k a0 a1 a2 a3) (cambiumref16_Value.f (k + 1) a0 a1 a2 a3) := by
 intro a0 a1 a2 a3 k
 unfold cambiumref16_Value.f
 repeat' first
   | (with_reducible exact cambiumref02_Right.mono _ _)
   | (with_reducible exact LeO.refl _)
   | (with_reducible exact LeO.none _)
   | (with_reducible refine LeO.ite ?_ ?_)
   | (with_reducible refine LeO.bind ?_ (fun _ => ?_))
   | exact cambiumref02_Right.mono _ _
   | exact LeO.none _
   | refine LeO.ite ?_ ?_
   | refine LeO.bind ?_ (fun _ => ?_)
set_option maxHeartbeats 8000000 in
set_option maxRecDepth 100000 in
theorem cambiumref16_Value.calls (k : Nat) (a0_0 : Int) (a0_1 : ByteArray) (a0_2 : Int) (a0_3 : Bool) (r : Bool) (w : World) (h : cambiumref16_Value.f k a0_0 a0_1 a0_2 a0_3 = some r) :
  Calls Tryd.prog 38 #[.agg #[.int .i64 a0_0, .string a0_1, .int .i64 a0_2, .bool a0_3]] w fun e w' => e = .returned (.bool r) ∧ Below w.heap.size w w' := by
 have hu51 := Tryd.underlying51
 have HB := Aside0.mk (Below.refl w.heap.size w)
 have H : (if a0_0 < 0 then (some false) else (if a0_0 > 2 then (some false) else (if a0_0 = 0 then (if a0_0 = 1 then (if a0_0 = 2 then (if (a0_1.size : Int) ≤ 200 then ((cambiumref02_Right.f k a0_1).bind fun t205 => (some t205)) else (some false)) else (if a0_3 = true then (some false) else (if (a0_1.size : Int) ≤ 200 then ((cambiumref02_Right.f k a0_1).bind fun t206 => (some t206)) else (some false)))) else (if a0_2 = 0 then (if a0_0 = 2 then (if (a0_1.size : Int) ≤ 200 then ((cambiumref02_Right.f k a0_1).bind fun t207 => (some t207)) else (some false)) else (if a0_3 = true then (some false) else (if (a0_1.size : Int) ≤ 200 then ((cambiumref02_Right.f k a0_1).bind fun t208 => (some t208)) else (some false)))) else (some false))) else (if a0_1.toList = ([] : List UInt8) then (if a0_0 = 1 then (if a0_0 = 2 then (if (a0_1.size : Int) ≤ 200 then ((cambiumref02_Right.f k a0_1).bind fun t209 => (some t209)) else (some false)) else (if a0_3 = true then (some false) else (if (a0_1.size : Int) ≤ 200 then ((cambiumref02_Right.f k a0_1).bind fun t210 => (some t210)) else (some false)))) else (if a0_2 = 0 then (if a0_0 = 2 then (if (a0_1.size : Int) ≤ 200 then ((cambiumref02_Right.f k a0_1).bind fun t211 => (some t211)) else (some false)) else (if a0_3 = true then (some false) else (if (a0_1.size : Int) ≤ 200 then ((cambiumref02_Right.f k a0_1).bind fun t212 => (some t212)) else (some false)))) else (some false))) else (some false))))) = some r := h
 clear h
 by_cases c2 : a0_0 < 0
 ·rw [if_pos c2] at H
  have c2b0 : decide (a0_0 < 0) = true := decide_eq_true c2
  clear c2
  obtain rfl := Option.some.inj H
  go_enter Tryd.func38, Tryd.ntmps38
  go_wp2_with (first | ((with_reducible refine gate_dst (N := 1) rfl ?_); refine box_event ?hg (N := 1) ?hd (cs := #[.int .i64 a0_0, .string a0_1, .int .i64 a0_2, .bool a0_3]) (t := 51) ?hr ?_; (case hd => rfl); (case hg => rfl); (case hr => first | (go_simp; done) | (go_simp; rfl)); intro gb204 hg w3 hbox hb; have BK204 := Aside0.mk (hbox); have GW204 := Aside0.mk ((by rw [hg]; exact (below_size q14y0) : w.heap.size ≤ gb204)); have GE204 := GW204; replace HB := Aside0.mk (below_step q14y0 hb); clear hb hbox hg; obtain ⟨hcz4_0, hcz4_1, hcz4_2, hcz4_3, hfz4_0, hfz4_1, hfz4_2, hfz4_3⟩ := q14cb4 BK204.out))
  go_ret
  exact ⟨by first | rfl | (simp [errW_none, errW_some] <;> rfl) | (simp [*, errW_none, errW_some] <;> rfl), by repeat (first | (with_reducible first | exact HB.out | apply below_alloc | apply pw_below_drewN | apply below_drew1 | refine below_set ?_ GE204.out) | exact HB.out)⟩
 rw [if_neg c2] at H
 have c2b0 : decide (a0_0 < 0) = false := decide_eq_false c2
 clear c2
 by_cases c5 : a0_0 > 2
 ·rw [if_pos c5] at H
  have c5b0 : decide (2 < a0_0) = true := decide_eq_true c5
  clear c5
  obtain rfl := Option.some.inj H
  go_enter Tryd.func38, Tryd.ntmps38
  go_wp2_with (first | ((with_reducible refine gate_dst (N := 1) rfl ?_); refine box_event ?hg (N := 1) ?hd (cs := #[.int .i64 a0_0, .string a0_1, .int .i64 a0_2, .bool a0_3]) (t := 51) ?hr ?_; (case hd => rfl); (case hg => rfl); (case hr => first | (go_simp; done) | (go_simp; rfl)); intro gb204 hg w6 hbox hb; have BK204 := Aside0.mk (hbox); have GW204 := Aside0.mk ((by rw [hg]; exact (below_size q14y0) : w.heap.size ≤ gb204)); have GE204 := GW204; replace HB := Aside0.mk (below_step q14y0 hb); clear hb hbox hg; obtain ⟨hcz7_0, hcz7_1, hcz7_2, hcz7_3, hfz7_0, hfz7_1, hfz7_2, hfz7_3⟩ := q14cb4 BK204.out))
  go_ret
  exact ⟨by first | rfl | (simp [errW_none, errW_some] <;> rfl) | (simp [*, errW_none, errW_some] <;> rfl), by repeat (first | (with_reducible first | exact HB.out | apply below_alloc | apply pw_below_drewN | apply below_drew1 | refine below_set ?_ GE204.out) | exact HB.out)⟩
 rw [if_neg c5] at H
 have c5b0 : decide (2 < a0_0) = false := decide_eq_false c5
 clear c5
 by_cases c8 : a0_0 = 0
 ·rw [if_pos c8] at H
  have c8b0 : (a0_0 == 0) = true := beq_iff_eq.mpr c8
  have c8b1 : (a0_0 != 0) = false := bne_eq_false_iff_eq.mpr c8
  clear c8
  by_cases c9 : a0_0 = 1
  ·rw [if_pos c9] at H
   have c9b0 : (a0_0 == 1) = true := beq_iff_eq.mpr c9
   have c9b1 : (a0_0 != 1) = false := bne_eq_false_iff_eq.mpr c9
   clear c9
   by_cases c10 : a0_0 = 2
   ·rw [if_pos c10] at H
    have c10b0 : (a0_0 == 2) = true := beq_iff_eq.mpr c10
    have c10b1 : (a0_0 != 2) = false := bne_eq_false_iff_eq.mpr c10
    clear c10
    by_cases c11 : (a0_1.size : Int) ≤ 200
    rotate_left
    ·rw [if_neg c11] at H
     have c11b0 : decide ((a0_1.size : Int) ≤ 200) = false := decide_eq_false c11
     have c11b1 : decide (a0_1.size ≤ 200) = false := decide_eq_false (by omega)
     clear c11
     obtain rfl := Option.some.inj H
     go_enter Tryd.func38, Tryd.ntmps38
     go_wp2_with (first | ((with_reducible refine gate_dst (N := 1) rfl ?_); refine box_event ?hg (N := 1) ?hd (cs := #[.int .i64 a0_0, .string a0_1, .int .i64 a0_2, .bool a0_3]) (t := 51) ?hr ?_; (case hd => rfl); (case hg => rfl); (case hr => first | (go_simp; done) | (go_simp; rfl)); intro gb204 hg w16 hbox hb; have BK204 := Aside0.mk (hbox); have GW204 := Aside0.mk ((by rw [hg]; exact (below_size q14y0) : w.heap.size ≤ gb204)); have GE204 := GW204; replace HB := Aside0.mk (below_step q14y0 hb); clear hb hbox hg; obtain ⟨hcz17_0, hcz17_1, hcz17_2, hcz17_3, hfz17_0, hfz17_1, hfz17_2, hfz17_3⟩ := q14cb4 BK204.out))
     go_ret
     exact ⟨by first | rfl | (simp [errW_none, errW_some] <;> rfl) | (simp [*, errW_none, errW_some] <;> rfl), by repeat (first | (with_reducible first | exact HB.out | apply below_alloc | apply pw_below_drewN | apply below_drew1 | refine below_set ?_ GE204.out) | exact HB.out)⟩
    rw [if_pos c11] at H
    have c11b0 : decide ((a0_1.size : Int) ≤ 200) = true := decide_eq_true c11
    have c11b1 : decide (a0_1.size ≤ 200) = true := decide_eq_true (by omega)
    clear c11
    replace H := Option.bind_eq_some_iff.mp H
    obtain ⟨t205, A120, H⟩ := H
    replace H : (some t205) = some r := H
    have A12 := Aside0.mk A120
    clear A120
    obtain rfl := Option.some.inj H
    go_enter Tryd.func38, Tryd.ntmps38
    go_wp2_with (first | ((with_reducible refine gate_dst (N := 1) rfl ?_); refine box_event ?hg (N := 1) ?hd (cs := #[.int .i64 a0_0, .string a0_1, .int .i64 a0_2, .bool a0_3]) (t := 51) ?hr ?_; (case hd => rfl); (case hg => rfl); (case hr => first | (go_simp; done) | (go_simp; rfl)); intro gb204 hg w13 hbox hb; have BK204 := Aside0.mk (hbox); have GW204 := Aside0.mk ((by rw [hg]; exact (below_size q14y0) : w.heap.size ≤ gb204)); have GE204 := GW204; replace HB := Aside0.mk (below_step q14y0 hb); clear hb hbox hg; obtain ⟨hcz14_0, hcz14_1, hcz14_2, hcz14_3, hfz14_0, hfz14_1, hfz14_2, hfz14_3⟩ := q14cb4 BK204.out) | (go_at_call 63; (with_reducible refine (cambiumref02_Right.calls k a0_1 t205 _ A12.out).mono ?_); rintro e w15 ⟨rfl, hb⟩; replace BK204 := Aside0.mk (blk_below q14y2 hb); replace HB := Aside0.mk (below_step q14y1 hb); (try clear hb); (try clear hb2); (try clear hk); (try clear hi)))
    go_ret
    exact ⟨by first | rfl | (simp [errW_none, errW_some] <;> rfl) | (simp [*, errW_none, errW_some] <;> rfl), by repeat (first | (with_reducible first | exact HB.out | apply below_alloc | apply pw_below_drewN | apply below_drew1 | refine below_set ?_ GE204.out) | exact HB.out)⟩
   rw [if_neg c10] at H
   have c10b0 : (a0_0 == 2) = false := beq_eq_false_iff_ne.mpr c10
   have c10b1 : (a0_0 != 2) = true := bne_iff_ne.mpr c10
   by_cases c18 : a0_3 = true
   ·subst c18
    have H1 : (some false) = some r := by rw [if_pos rfl] at H; exact H
    clear H
    have H := H1
    clear H1
    obtain rfl := Option.some.inj H
    go_enter Tryd.func38, Tryd.ntmps38
    go_wp2_with (first | ((with_reducible refine gate_dst (N := 1) rfl ?_); refine box_event ?hg (N := 1) ?hd (cs := #[.int .i64 a0_0, .string a0_1, .int .i64 a0_2, .bool true]) (t := 51) ?hr ?_; (case hd => rfl); (case hg => rfl); (case hr => first | (go_simp; done) | (go_simp; rfl)); intro gb204 hg w19 hbox hb; have BK204 := Aside0.mk (hbox); have GW204 := Aside0.mk ((by rw [hg]; exact (below_size q14y0) : w.heap.size ≤ gb204)); have GE204 := GW204; replace HB := Aside0.mk (below_step q14y0 hb); clear hb hbox hg; obtain ⟨hcz20_0, hcz20_1, hcz20_2, hcz20_3, hfz20_0, hfz20_1, hfz20_2, hfz20_3⟩ := q14cb4 BK204.out))
    go_ret
    exact ⟨by first | rfl | (simp [errW_none, errW_some] <;> rfl) | (simp [*, errW_none, errW_some] <;> rfl), by repeat (first | (with_reducible first | exact HB.out | apply below_alloc | apply pw_below_drewN | apply below_drew1 | refine below_set ?_ GE204.out) | exact HB.out)⟩
   replace c18 := Bool.eq_false_iff.mpr c18
   subst c18
   have H1 : (if (a0_1.size : Int) ≤ 200 then ((cambiumref02_Right.f k a0_1).bind fun t206 => (some t206)) else (some false)) = some r := by rw [if_neg (show ¬ (false = true) by decide)] at H; exact H
   clear H
   have H := H1
   clear H1
   by_cases c21 : (a0_1.size : Int) ≤ 200
   rotate_left
   ·rw [if_neg c21] at H
    have c21b0 : decide ((a0_1.size : Int) ≤ 200) = false := decide_eq_false c21
    have c21b1 : decide (a0_1.size ≤ 200) = false := decide_eq_false (by omega)
    clear c21
    obtain rfl := Option.some.inj H
    go_enter Tryd.func38, Tryd.ntmps38
    go_wp2_with (first | ((with_reducible refine gate_dst (N := 1) rfl ?_); refine box_event ?hg (N := 1) ?hd (cs := #[.int .i64 a0_0, .string a0_1, .int .i64 a0_2, .bool false]) (t := 51) ?hr ?_; (case hd => rfl); (case hg => rfl); (case hr => first | (go_simp; done) | (go_simp; rfl)); intro gb204 hg w26 hbox hb; have BK204 := Aside0.mk (hbox); have GW204 := Aside0.mk ((by rw [hg]; exact (below_size q14y0) : w.heap.size ≤ gb204)); have GE204 := GW204; replace HB := Aside0.mk (below_step q14y0 hb); clear hb hbox hg; obtain ⟨hcz27_0, hcz27_1, hcz27_2, hcz27_3, hfz27_0, hfz27_1, hfz27_2, hfz27_3⟩ := q14cb4 BK204.out))
    go_ret
    exact ⟨by first | rfl | (simp [errW_none, errW_some] <;> rfl) | (simp [*, errW_none, errW_some] <;> rfl), by repeat (first | (with_reducible first | exact HB.out | apply below_alloc | apply pw_below_drewN | apply below_drew1 | refine below_set ?_ GE204.out) | exact HB.out)⟩
   rw [if_pos c21] at H
   have c21b0 : decide ((a0_1.size : Int) ≤ 200) = true := decide_eq_true c21
   have c21b1 : decide (a0_1.size ≤ 200) = true := decide_eq_true (by omega)
   clear c21
   replace H := Option.bind_eq_some_iff.mp H
   obtain ⟨t206, A220, H⟩ := H
   replace H : (some t206) = some r := H
   have A22 := Aside0.mk A220
   clear A220
   obtain rfl := Option.some.inj H
   go_enter Tryd.func38, Tryd.ntmps38
   go_wp2_with (first | ((with_reducible refine gate_dst (N := 1) rfl ?_); refine box_event ?hg (N := 1) ?hd (cs := #[.int .i64 a0_0, .string a0_1, .int .i64 a0_2, .bool false]) (t := 51) ?hr ?_; (case hd => rfl); (case hg => rfl); (case hr => first | (go_simp; done) | (go_simp; rfl)); intro gb204 hg w23 hbox hb; have BK204 := Aside0.mk (hbox); have GW204 := Aside0.mk ((by rw [hg]; exact (below_size q14y0) : w.heap.size ≤ gb204)); have GE204 := GW204; replace HB := Aside0.mk (below_step q14y0 hb); clear hb hbox hg; obtain ⟨hcz24_0, hcz24_1, hcz24_2, hcz24_3, hfz24_0, hfz24_1, hfz24_2, hfz24_3⟩ := q14cb4 BK204.out) | (go_at_call 63; (with_reducible refine (cambiumref02_Right.calls k a0_1 t206 _ A22.out).mono ?_); rintro e w25 ⟨rfl, hb⟩; replace BK204 := Aside0.mk (blk_below q14y2 hb); replace HB := Aside0.mk (below_step q14y1 hb); (try clear hb); (try clear hb2); (try clear hk); (try clear hi)))
   go_ret
   exact ⟨by first | rfl | (simp [errW_none, errW_some] <;> rfl) | (simp [*, errW_none, errW_some] <;> rfl), by repeat (first | (with_reducible first | exact HB.out | apply below_alloc | apply pw_below_drewN | apply below_drew1 | refine below_set ?_ GE204.out) | exact HB.out)⟩
  rw [if_neg c9] at H
  have c9b0 : (a0_0 == 1) = false := beq_eq_false_iff_ne.mpr c9
  have c9b1 : (a0_0 != 1) = true := bne_iff_ne.mpr c9
  by_cases c28 : a0_2 = 0
  rotate_left
  ·rw [if_neg c28] at H
   have c28b0 : (a0_2 == 0) = false := beq_eq_false_iff_ne.mpr c28
   have c28b1 : (a0_2 != 0) = true := bne_iff_ne.mpr c28
   obtain rfl := Option.some.inj H
   go_enter Tryd.func38, Tryd.ntmps38
   go_wp2_with (first | ((with_reducible refine gate_dst (N := 1) rfl ?_); refine box_event ?hg (N := 1) ?hd (cs := #[.int .i64 a0_0, .string a0_1, .int .i64 a0_2, .bool a0_3]) (t := 51) ?hr ?_; (case hd => rfl); (case hg => rfl); (case hr => first | (go_simp; done) | (go_simp; rfl)); intro gb204 hg w47 hbox hb; have BK204 := Aside0.mk (hbox); have GW204 := Aside0.mk ((by rw [hg]; exact (below_size q14y0) : w.heap.size ≤ gb204)); have GE204 := GW204; replace HB := Aside0.mk (below_step q14y0 hb); clear hb hbox hg; obtain ⟨hcz48_0, hcz48_1, hcz48_2, hcz48_3, hfz48_0, hfz48_1, hfz48_2, hfz48_3⟩ := q14cb4 BK204.out))
   go_ret
   exact ⟨by first | rfl | (simp [errW_none, errW_some] <;> rfl) | (simp [*, errW_none, errW_some] <;> rfl), by repeat (first | (with_reducible first | exact HB.out | apply below_alloc | apply pw_below_drewN | apply below_drew1 | refine below_set ?_ GE204.out) | exact HB.out)⟩
  rw [if_pos c28] at H
  have c28b0 : (a0_2 == 0) = true := beq_iff_eq.mpr c28
  have c28b1 : (a0_2 != 0) = false := bne_eq_false_iff_eq.mpr c28
  clear c28
  by_cases c29 : a0_0 = 2
  ·rw [if_pos c29] at H
   have c29b0 : (a0_0 == 2) = true := beq_iff_eq.mpr c29
   have c29b1 : (a0_0 != 2) = false := bne_eq_false_iff_eq.mpr c29
   clear c29
   by_cases c30 : (a0_1.size : Int) ≤ 200
   rotate_left
   ·rw [if_neg c30] at H
    have c30b0 : decide ((a0_1.size : Int) ≤ 200) = false := decide_eq_false c30
    have c30b1 : decide (a0_1.size ≤ 200) = false := decide_eq_false (by omega)
    clear c30
    obtain rfl := Option.some.inj H
    go_enter Tryd.func38, Tryd.ntmps38
    go_wp2_with (first | ((with_reducible refine gate_dst (N := 1) rfl ?_); refine box_event ?hg (N := 1) ?hd (cs := #[.int .i64 a0_0, .string a0_1, .int .i64 a0_2, .bool a0_3]) (t := 51) ?hr ?_; (case hd => rfl); (case hg => rfl); (case hr => first | (go_simp; done) | (go_simp; rfl)); intro gb204 hg w35 hbox hb; have BK204 := Aside0.mk (hbox); have GW204 := Aside0.mk ((by rw [hg]; exact (below_size q14y0) : w.heap.size ≤ gb204)); have GE204 := GW204; replace HB := Aside0.mk (below_step q14y0 hb); clear hb hbox hg; obtain ⟨hcz36_0, hcz36_1, hcz36_2, hcz36_3, hfz36_0, hfz36_1, hfz36_2, hfz36_3⟩ := q14cb4 BK204.out))
    go_ret
    exact ⟨by first | rfl | (simp [errW_none, errW_some] <;> rfl) | (simp [*, errW_none, errW_some] <;> rfl), by repeat (first | (with_reducible first | exact HB.out | apply below_alloc | apply pw_below_drewN | apply below_drew1 | refine below_set ?_ GE204.out) | exact HB.out)⟩
   rw [if_pos c30] at H
   have c30b0 : decide ((a0_1.size : Int) ≤ 200) = true := decide_eq_true c30
   have c30b1 : decide (a0_1.size ≤ 200) = true := decide_eq_true (by omega)
   clear c30
   replace H := Option.bind_eq_some_iff.mp H
   obtain ⟨t207, A310, H⟩ := H
   replace H : (some t207) = some r := H
   have A31 := Aside0.mk A310
   clear A310
   obtain rfl := Option.some.inj H
   go_enter Tryd.func38, Tryd.ntmps38
   go_wp2_with (first | ((with_reducible refine gate_dst (N := 1) rfl ?_); refine box_event ?hg (N := 1) ?hd (cs := #[.int .i64 a0_0, .string a0_1, .int .i64 a0_2, .bool a0_3]) (t := 51) ?hr ?_; (case hd => rfl); (case hg => rfl); (case hr => first | (go_simp; done) | (go_simp; rfl)); intro gb204 hg w32 hbox hb; have BK204 := Aside0.mk (hbox); have GW204 := Aside0.mk ((by rw [hg]; exact (below_size q14y0) : w.heap.size ≤ gb204)); have GE204 := GW204; replace HB := Aside0.mk (below_step q14y0 hb); clear hb hbox hg; obtain ⟨hcz33_0, hcz33_1, hcz33_2, hcz33_3, hfz33_0, hfz33_1, hfz33_2, hfz33_3⟩ := q14cb4 BK204.out) | (go_at_call 63; (with_reducible refine (cambiumref02_Right.calls k a0_1 t207 _ A31.out).mono ?_); rintro e w34 ⟨rfl, hb⟩; replace BK204 := Aside0.mk (blk_below q14y2 hb); replace HB := Aside0.mk (below_step q14y1 hb); (try clear hb); (try clear hb2); (try clear hk); (try clear hi)))
   go_ret
   exact ⟨by first | rfl | (simp [errW_none, errW_some] <;> rfl) | (simp [*, errW_none, errW_some] <;> rfl), by repeat (first | (with_reducible first | exact HB.out | apply below_alloc | apply pw_below_drewN | apply below_drew1 | refine below_set ?_ GE204.out) | exact HB.out)⟩
  rw [if_neg c29] at H
  have c29b0 : (a0_0 == 2) = false := beq_eq_false_iff_ne.mpr c29
  have c29b1 : (a0_0 != 2) = true := bne_iff_ne.mpr c29
  by_cases c37 : a0_3 = true
  ·subst c37
   have H1 : (some false) = some r := by rw [if_pos rfl] at H; exact H
   clear H
   have H := H1
   clear H1
   obtain rfl := Option.some.inj H
   go_enter Tryd.func38, Tryd.ntmps38
   go_wp2_with (first | ((with_reducible refine gate_dst (N := 1) rfl ?_); refine box_event ?hg (N := 1) ?hd (cs := #[.int .i64 a0_0, .string a0_1, .int .i64 a0_2, .bool true]) (t := 51) ?hr ?_; (case hd => rfl); (case hg => rfl); (case hr => first | (go_simp; done) | (go_simp; rfl)); intro gb204 hg w38 hbox hb; have BK204 := Aside0.mk (hbox); have GW204 := Aside0.mk ((by rw [hg]; exact (below_size q14y0) : w.heap.size ≤ gb204)); have GE204 := GW204; replace HB := Aside0.mk (below_step q14y0 hb); clear hb hbox hg; obtain ⟨hcz39_0, hcz39_1, hcz39_2, hcz39_3, hfz39_0, hfz39_1, hfz39_2, hfz39_3⟩ := q14cb4 BK204.out))
   go_ret
   exact ⟨by first | rfl | (simp [errW_none, errW_some] <;> rfl) | (simp [*, errW_none, errW_some] <;> rfl), by repeat (first | (with_reducible first | exact HB.out | apply below_alloc | apply pw_below_drewN | apply below_drew1 | refine below_set ?_ GE204.out) | exact HB.out)⟩
  replace c37 := Bool.eq_false_iff.mpr c37
  subst c37
  have H1 : (if (a0_1.size : Int) ≤ 200 then ((cambiumref02_Right.f k a0_1).bind fun t208 => (some t208)) else (some false)) = some r := by rw [if_neg (show ¬ (false = true) by decide)] at H; exact H
  clear H
  have H := H1
  clear H1
  by_cases c40 : (a0_1.size : Int) ≤ 200
  rotate_left
  ·rw [if_neg c40] at H
   have c40b0 : decide ((a0_1.size : Int) ≤ 200) = false := decide_eq_false c40
   have c40b1 : decide (a0_1.size ≤ 200) = false := decide_eq_false (by omega)
   clear c40
   obtain rfl := Option.some.inj H
   go_enter Tryd.func38, Tryd.ntmps38
   go_wp2_with (first | ((with_reducible refine gate_dst (N := 1) rfl ?_); refine box_event ?hg (N := 1) ?hd (cs := #[.int .i64 a0_0, .string a0_1, .int .i64 a0_2, .bool false]) (t := 51) ?hr ?_; (case hd => rfl); (case hg => rfl); (case hr => first | (go_simp; done) | (go_simp; rfl)); intro gb204 hg w45 hbox hb; have BK204 := Aside0.mk (hbox); have GW204 := Aside0.mk ((by rw [hg]; exact (below_size q14y0) : w.heap.size ≤ gb204)); have GE204 := GW204; replace HB := Aside0.mk (below_step q14y0 hb); clear hb hbox hg; obtain ⟨hcz46_0, hcz46_1, hcz46_2, hcz46_3, hfz46_0, hfz46_1, hfz46_2, hfz46_3⟩ := q14cb4 BK204.out))
   go_ret
   exact ⟨by first | rfl | (simp [errW_none, errW_some] <;> rfl) | (simp [*, errW_none, errW_some] <;> rfl), by repeat (first | (with_reducible first | exact HB.out | apply below_alloc | apply pw_below_drewN | apply below_drew1 | refine below_set ?_ GE204.out) | exact HB.out)⟩
  rw [if_pos c40] at H
  have c40b0 : decide ((a0_1.size : Int) ≤ 200) = true := decide_eq_true c40
  have c40b1 : decide (a0_1.size ≤ 200) = true := decide_eq_true (by omega)
  clear c40
  replace H := Option.bind_eq_some_iff.mp H
  obtain ⟨t208, A410, H⟩ := H
  replace H : (some t208) = some r := H
  have A41 := Aside0.mk A410
  clear A410
  obtain rfl := Option.some.inj H
  go_enter Tryd.func38, Tryd.ntmps38
  go_wp2_with (first | ((with_reducible refine gate_dst (N := 1) rfl ?_); refine box_event ?hg (N := 1) ?hd (cs := #[.int .i64 a0_0, .string a0_1, .int .i64 a0_2, .bool false]) (t := 51) ?hr ?_; (case hd => rfl); (case hg => rfl); (case hr => first | (go_simp; done) | (go_simp; rfl)); intro gb204 hg w42 hbox hb; have BK204 := Aside0.mk (hbox); have GW204 := Aside0.mk ((by rw [hg]; exact (below_size q14y0) : w.heap.size ≤ gb204)); have GE204 := GW204; replace HB := Aside0.mk (below_step q14y0 hb); clear hb hbox hg; obtain ⟨hcz43_0, hcz43_1, hcz43_2, hcz43_3, hfz43_0, hfz43_1, hfz43_2, hfz43_3⟩ := q14cb4 BK204.out) | (go_at_call 63; (with_reducible refine (cambiumref02_Right.calls k a0_1 t208 _ A41.out).mono ?_); rintro e w44 ⟨rfl, hb⟩; replace BK204 := Aside0.mk (blk_below q14y2 hb); replace HB := Aside0.mk (below_step q14y1 hb); (try clear hb); (try clear hb2); (try clear hk); (try clear hi)))
  go_ret
  exact ⟨by first | rfl | (simp [errW_none, errW_some] <;> rfl) | (simp [*, errW_none, errW_some] <;> rfl), by repeat (first | (with_reducible first | exact HB.out | apply below_alloc | apply pw_below_drewN | apply below_drew1 | refine below_set ?_ GE204.out) | exact HB.out)⟩
 rw [if_neg c8] at H
 have c8b0 : (a0_0 == 0) = false := beq_eq_false_iff_ne.mpr c8
 have c8b1 : (a0_0 != 0) = true := bne_iff_ne.mpr c8
 by_cases c49 : a0_1.toList = ([] : List UInt8)
 rotate_left
 ·rw [if_neg c49] at H
  have c49b0 : (a0_1.toList == ([] : List UInt8)) = false := beq_eq_false_iff_ne.mpr c49
  have c49b1 : (a0_1.toList != ([] : List UInt8)) = true := bne_iff_ne.mpr c49
  obtain rfl := Option.some.inj H
  go_enter Tryd.func38, Tryd.ntmps38
  go_wp2_with (first | ((with_reducible refine gate_dst (N := 1) rfl ?_); refine box_event ?hg (N := 1) ?hd (cs := #[.int .i64 a0_0, .string a0_1, .int .i64 a0_2, .bool a0_3]) (t := 51) ?hr ?_; (case hd => rfl); (case hg => rfl); (case hr => first | (go_simp; done) | (go_simp; rfl)); intro gb204 hg w90 hbox hb; have BK204 := Aside0.mk (hbox); have GW204 := Aside0.mk ((by rw [hg]; exact (below_size q14y0) : w.heap.size ≤ gb204)); have GE204 := GW204; replace HB := Aside0.mk (below_step q14y0 hb); clear hb hbox hg; obtain ⟨hcz91_0, hcz91_1, hcz91_2, hcz91_3, hfz91_0, hfz91_1, hfz91_2, hfz91_3⟩ := q14cb4 BK204.out))
  go_ret
  exact ⟨by first | rfl | (simp [errW_none, errW_some] <;> rfl) | (simp [*, errW_none, errW_some] <;> rfl), by repeat (first | (with_reducible first | exact HB.out | apply below_alloc | apply pw_below_drewN | apply below_drew1 | refine below_set ?_ GE204.out) | exact HB.out)⟩

 rw [if_pos c49] at H
 have c49b0 : (a0_1.toList == ([] : List UInt8)) = true := beq_iff_eq.mpr c49
 have c49b1 : (a0_1.toList != ([] : List UInt8)) = false := bne_eq_false_iff_eq.mpr c49
 clear c49
 by_cases c50 : a0_0 = 1
 ·rw [if_pos c50] at H
  have c50b0 : (a0_0 == 1) = true := beq_iff_eq.mpr c50
  have c50b1 : (a0_0 != 1) = false := bne_eq_false_iff_eq.mpr c50
  clear c50
  by_cases c51 : a0_0 = 2
  ·rw [if_pos c51] at H
   have c51b0 : (a0_0 == 2) = true := beq_iff_eq.mpr c51
   have c51b1 : (a0_0 != 2) = false := bne_eq_false_iff_eq.mpr c51
   clear c51
   by_cases c52 : (a0_1.size : Int) ≤ 200
   rotate_left
   ·rw [if_neg c52] at H
    have c52b0 : decide ((a0_1.size : Int) ≤ 200) = false := decide_eq_false c52
    have c52b1 : decide (a0_1.size ≤ 200) = false := decide_eq_false (by omega)
    clear c52
    obtain rfl := Option.some.inj H
    go_enter Tryd.func38, Tryd.ntmps38
    go_wp2_with (first | ((with_reducible refine gate_dst (N := 1) rfl ?_); refine box_event ?hg (N := 1) ?hd (cs := #[.int .i64 a0_0, .string a0_1, .int .i64 a0_2, .bool a0_3]) (t := 51) ?hr ?_; (case hd => rfl); (case hg => rfl); (case hr => first | (go_simp; done) | (go_simp; rfl)); intro gb204 hg w57 hbox hb; have BK204 := Aside0.mk (hbox); have GW204 := Aside0.mk ((by rw [hg]; exact (below_size q14y0) : w.heap.size ≤ gb204)); have GE204 := GW204; replace HB := Aside0.mk (below_step q14y0 hb); clear hb hbox hg; obtain ⟨hcz58_0, hcz58_1, hcz58_2, hcz58_3, hfz58_0, hfz58_1, hfz58_2, hfz58_3⟩ := q14cb4 BK204.out))
    go_ret
    exact ⟨by first | rfl | (simp [errW_none, errW_some] <;> rfl) | (simp [*, errW_none, errW_some] <;> rfl), by repeat (first | (with_reducible first | exact HB.out | apply below_alloc | apply pw_below_drewN | apply below_drew1 | refine below_set ?_ GE204.out) | exact HB.out)⟩
   rw [if_pos c52] at H
   have c52b0 : decide ((a0_1.size : Int) ≤ 200) = true := decide_eq_true c52
   have c52b1 : decide (a0_1.size ≤ 200) = true := decide_eq_true (by omega)
   clear c52
   replace H := Option.bind_eq_some_iff.mp H
   obtain ⟨t209, A530, H⟩ := H
   replace H : (some t209) = some r := H
   have A53 := Aside0.mk A530
   clear A530
   obtain rfl := Option.some.inj H
   go_enter Tryd.func38, Tryd.ntmps38
   go_wp2_with (first | ((with_reducible refine gate_dst (N := 1) rfl ?_); refine box_event ?hg (N := 1) ?hd (cs := #[.int .i64 a0_0, .string a0_1, .int .i64 a0_2, .bool a0_3]) (t := 51) ?hr ?_; (case hd => rfl); (case hg => rfl); (case hr => first | (go_simp; done) | (go_simp; rfl)); intro gb204 hg w54 hbox hb; have BK204 := Aside0.mk (hbox); have GW204 := Aside0.mk ((by rw [hg]; exact (below_size q14y0) : w.heap.size ≤ gb204)); have GE204 := GW204; replace HB := Aside0.mk (below_step q14y0 hb); clear hb hbox hg; obtain ⟨hcz55_0, hcz55_1, hcz55_2, hcz55_3, hfz55_0, hfz55_1, hfz55_2, hfz55_3⟩ := q14cb4 BK204.out) | (go_at_call 63; (with_reducible refine (cambiumref02_Right.calls k a0_1 t209 _ A53.out).mono ?_); rintro e w56 ⟨rfl, hb⟩; replace BK204 := Aside0.mk (blk_below q14y2 hb); replace HB := Aside0.mk (below_step q14y1 hb); (try clear hb); (try clear hb2); (try clear hk); (try clear hi)))
   go_ret
   exact ⟨by first | rfl | (simp [errW_none, errW_some] <;> rfl) | (simp [*, errW_none, errW_some] <;> rfl), by repeat (first | (with_reducible first | exact HB.out | apply below_alloc | apply pw_below_drewN | apply below_drew1 | refine below_set ?_ GE204.out) | exact HB.out)⟩
  rw [if_neg c51] at H
  have c51b0 : (a0_0 == 2) = false := beq_eq_false_iff_ne.mpr c51
  have c51b1 : (a0_0 != 2) = true := bne_iff_ne.mpr c51
  by_cases c59 : a0_3 = true
  ·subst c59
   have H1 : (some false) = some r := by rw [if_pos rfl] at H; exact H
   clear H
   have H := H1
   clear H1
   obtain rfl := Option.some.inj H
   go_enter Tryd.func38, Tryd.ntmps38
   go_wp2_with (first | ((with_reducible refine gate_dst (N := 1) rfl ?_); refine box_event ?hg (N := 1) ?hd (cs := #[.int .i64 a0_0, .string a0_1, .int .i64 a0_2, .bool true]) (t := 51) ?hr ?_; (case hd => rfl); (case hg => rfl); (case hr => first | (go_simp; done) | (go_simp; rfl)); intro gb204 hg w60 hbox hb; have BK204 := Aside0.mk (hbox); have GW204 := Aside0.mk ((by rw [hg]; exact (below_size q14y0) : w.heap.size ≤ gb204)); have GE204 := GW204; replace HB := Aside0.mk (below_step q14y0 hb); clear hb hbox hg; obtain ⟨hcz61_0, hcz61_1, hcz61_2, hcz61_3, hfz61_0, hfz61_1, hfz61_2, hfz61_3⟩ := q14cb4 BK204.out))
   go_ret
   exact ⟨by first | rfl | (simp [errW_none, errW_some] <;> rfl) | (simp [*, errW_none, errW_some] <;> rfl), by repeat (first | (with_reducible first | exact HB.out | apply below_alloc | apply pw_below_drewN | apply below_drew1 | refine below_set ?_ GE204.out) | exact HB.out)⟩
  replace c59 := Bool.eq_false_iff.mpr c59
  subst c59
  have H1 : (if (a0_1.size : Int) ≤ 200 then ((cambiumref02_Right.f k a0_1).bind fun t210 => (some t210)) else (some false)) = some r := by rw [if_neg (show ¬ (false = true) by decide)] at H; exact H
  clear H
  have H := H1
  clear H1
  by_cases c62 : (a0_1.size : Int) ≤ 200
  rotate_left
  ·rw [if_neg c62] at H
   have c62b0 : decide ((a0_1.size : Int) ≤ 200) = false := decide_eq_false c62
   have c62b1 : decide (a0_1.size ≤ 200) = false := decide_eq_false (by omega)
   clear c62
   obtain rfl := Option.some.inj H
   go_enter Tryd.func38, Tryd.ntmps38
   go_wp2_with (first | ((with_reducible refine gate_dst (N := 1) rfl ?_); refine box_event ?hg (N := 1) ?hd (cs := #[.int .i64 a0_0, .string a0_1, .int .i64 a0_2, .bool false]) (t := 51) ?hr ?_; (case hd => rfl); (case hg => rfl); (case hr => first | (go_simp; done) | (go_simp; rfl)); intro gb204 hg w67 hbox hb; have BK204 := Aside0.mk (hbox); have GW204 := Aside0.mk ((by rw [hg]; exact (below_size q14y0) : w.heap.size ≤ gb204)); have GE204 := GW204; replace HB := Aside0.mk (below_step q14y0 hb); clear hb hbox hg; obtain ⟨hcz68_0, hcz68_1, hcz68_2, hcz68_3, hfz68_0, hfz68_1, hfz68_2, hfz68_3⟩ := q14cb4 BK204.out))
   go_ret
   exact ⟨by first | rfl | (simp [errW_none, errW_some] <;> rfl) | (simp [*, errW_none, errW_some] <;> rfl), by repeat (first | (with_reducible first | exact HB.out | apply below_alloc | apply pw_below_drewN | apply below_drew1 | refine below_set ?_ GE204.out) | exact HB.out)⟩
  rw [if_pos c62] at H
  have c62b0 : decide ((a0_1.size : Int) ≤ 200) = true := decide_eq_true c62
  have c62b1 : decide (a0_1.size ≤ 200) = true := decide_eq_true (by omega)
  clear c62
  replace H := Option.bind_eq_some_iff.mp H
  obtain ⟨t210, A630, H⟩ := H
  replace H : (some t210) = some r := H
  have A63 := Aside0.mk A630
  clear A630
  obtain rfl := Option.some.inj H
  go_enter Tryd.func38, Tryd.ntmps38
  go_wp2_with (first | ((with_reducible refine gate_dst (N := 1) rfl ?_); refine box_event ?hg (N := 1) ?hd (cs := #[.int .i64 a0_0, .string a0_1, .int .i64 a0_2, .bool false]) (t := 51) ?hr ?_; (case hd => rfl); (case hg => rfl); (case hr => first | (go_simp; done) | (go_simp; rfl)); intro gb204 hg w64 hbox hb; have BK204 := Aside0.mk (hbox); have GW204 := Aside0.mk ((by rw [hg]; exact (below_size q14y0) : w.heap.size ≤ gb204)); have GE204 := GW204; replace HB := Aside0.mk (below_step q14y0 hb); clear hb hbox hg; obtain ⟨hcz65_0, hcz65_1, hcz65_2, hcz65_3, hfz65_0, hfz65_1, hfz65_2, hfz65_3⟩ := q14cb4 BK204.out) | (go_at_call 63; (with_reducible refine (cambiumref02_Right.calls k a0_1 t210 _ A63.out).mono ?_); rintro e w66 ⟨rfl, hb⟩; replace BK204 := Aside0.mk (blk_below q14y2 hb); replace HB := Aside0.mk (below_step q14y1 hb); (try clear hb); (try clear hb2); (try clear hk); (try clear hi)))
  go_ret
  exact ⟨by first | rfl | (simp [errW_none, errW_some] <;> rfl) | (simp [*, errW_none, errW_some] <;> rfl), by repeat (first | (with_reducible first | exact HB.out | apply below_alloc | apply pw_below_drewN | apply below_drew1 | refine below_set ?_ GE204.out) | exact HB.out)⟩
 rw [if_neg c50] at H
 have c50b0 : (a0_0 == 1) = false := beq_eq_false_iff_ne.mpr c50
 have c50b1 : (a0_0 != 1) = true := bne_iff_ne.mpr c50
 by_cases c69 : a0_2 = 0
 rotate_left
 ·rw [if_neg c69] at H
  have c69b0 : (a0_2 == 0) = false := beq_eq_false_iff_ne.mpr c69
  have c69b1 : (a0_2 != 0) = true := bne_iff_ne.mpr c69
  obtain rfl := Option.some.inj H
  go_enter Tryd.func38, Tryd.ntmps38
  go_wp2_with (first | ((with_reducible refine gate_dst (N := 1) rfl ?_); refine box_event ?hg (N := 1) ?hd (cs := #[.int .i64 a0_0, .string a0_1, .int .i64 a0_2, .bool a0_3]) (t := 51) ?hr ?_; (case hd => rfl); (case hg => rfl); (case hr => first | (go_simp; done) | (go_simp; rfl)); intro gb204 hg w88 hbox hb; have BK204 := Aside0.mk (hbox); have GW204 := Aside0.mk ((by rw [hg]; exact (below_size q14y0) : w.heap.size ≤ gb204)); have GE204 := GW204; replace HB := Aside0.mk (below_step q14y0 hb); clear hb hbox hg; obtain ⟨hcz89_0, hcz89_1, hcz89_2, hcz89_3, hfz89_0, hfz89_1, hfz89_2, hfz89_3⟩ := q14cb4 BK204.out))
  go_ret
  exact ⟨by first | rfl | (simp [errW_none, errW_some] <;> rfl) | (simp [*, errW_none, errW_some] <;> rfl), by repeat (first | (with_reducible first | exact HB.out | apply below_alloc | apply pw_below_drewN | apply below_drew1 | refine below_set ?_ GE204.out) | exact HB.out)⟩
 rw [if_pos c69] at H
 have c69b0 : (a0_2 == 0) = true := beq_iff_eq.mpr c69
 have c69b1 : (a0_2 != 0) = false := bne_eq_false_iff_eq.mpr c69
 clear c69
 by_cases c70 : a0_0 = 2
 ·rw [if_pos c70] at H
  have c70b0 : (a0_0 == 2) = true := beq_iff_eq.mpr c70
  have c70b1 : (a0_0 != 2) = false := bne_eq_false_iff_eq.mpr c70
  clear c70
  by_cases c71 : (a0_1.size : Int) ≤ 200
  rotate_left
  ·rw [if_neg c71] at H
   have c71b0 : decide ((a0_1.size : Int) ≤ 200) = false := decide_eq_false c71
   have c71b1 : decide (a0_1.size ≤ 200) = false := decide_eq_false (by omega)
   clear c71
   obtain rfl := Option.some.inj H
   go_enter Tryd.func38, Tryd.ntmps38
   go_wp2_with (first | ((with_reducible refine gate_dst (N := 1) rfl ?_); refine box_event ?hg (N := 1) ?hd (cs := #[.int .i64 a0_0, .string a0_1, .int .i64 a0_2, .bool a0_3]) (t := 51) ?hr ?_; (case hd => rfl); (case hg => rfl); (case hr => first | (go_simp; done) | (go_simp; rfl)); intro gb204 hg w76 hbox hb; have BK204 := Aside0.mk (hbox); have GW204 := Aside0.mk ((by rw [hg]; exact (below_size q14y0) : w.heap.size ≤ gb204)); have GE204 := GW204; replace HB := Aside0.mk (below_step q14y0 hb); clear hb hbox hg; obtain ⟨hcz77_0, hcz77_1, hcz77_2, hcz77_3, hfz77_0, hfz77_1, hfz77_2, hfz77_3⟩ := q14cb4 BK204.out))
   go_ret
   exact ⟨by first | rfl | (simp [errW_none, errW_some] <;> rfl) | (simp [*, errW_none, errW_some] <;> rfl), by repeat (first | (with_reducible first | exact HB.out | apply below_alloc | apply pw_below_drewN | apply below_drew1 | refine below_set ?_ GE204.out) | exact HB.out)⟩
  rw [if_pos c71] at H
  have c71b0 : decide ((a0_1.size : Int) ≤ 200) = true := decide_eq_true c71
  have c71b1 : decide (a0_1.size ≤ 200) = true := decide_eq_true (by omega)
  clear c71
  replace H := Option.bind_eq_some_iff.mp H
  obtain ⟨t211, A720, H⟩ := H
  replace H : (some t211) = some r := H
  have A72 := Aside0.mk A720
  clear A720
  obtain rfl := Option.some.inj H
  go_enter Tryd.func38, Tryd.ntmps38
  go_wp2_with (first | ((with_reducible refine gate_dst (N := 1) rfl ?_); refine box_event ?hg (N := 1) ?hd (cs := #[.int .i64 a0_0, .string a0_1, .int .i64 a0_2, .bool a0_3]) (t := 51) ?hr ?_; (case hd => rfl); (case hg => rfl); (case hr => first | (go_simp; done) | (go_simp; rfl)); intro gb204 hg w73 hbox hb; have BK204 := Aside0.mk (hbox); have GW204 := Aside0.mk ((by rw [hg]; exact (below_size q14y0) : w.heap.size ≤ gb204)); have GE204 := GW204; replace HB := Aside0.mk (below_step q14y0 hb); clear hb hbox hg; obtain ⟨hcz74_0, hcz74_1, hcz74_2, hcz74_3, hfz74_0, hfz74_1, hfz74_2, hfz74_3⟩ := q14cb4 BK204.out) | (go_at_call 63; (with_reducible refine (cambiumref02_Right.calls k a0_1 t211 _ A72.out).mono ?_); rintro e w75 ⟨rfl, hb⟩; replace BK204 := Aside0.mk (blk_below q14y2 hb); replace HB := Aside0.mk (below_step q14y1 hb); (try clear hb); (try clear hb2); (try clear hk); (try clear hi)))
  go_ret
  exact ⟨by first | rfl | (simp [errW_none, errW_some] <;> rfl) | (simp [*, errW_none, errW_some] <;> rfl), by repeat (first | (with_reducible first | exact HB.out | apply below_alloc | apply pw_below_drewN | apply below_drew1 | refine below_set ?_ GE204.out) | exact HB.out)⟩
 rw [if_neg c70] at H
 have c70b0 : (a0_0 == 2) = false := beq_eq_false_iff_ne.mpr c70
 have c70b1 : (a0_0 != 2) = true := bne_iff_ne.mpr c70
 by_cases c78 : a0_3 = true
 ·subst c78
  have H1 : (some false) = some r := by rw [if_pos rfl] at H; exact H
  clear H
  have H := H1
  clear H1
  obtain rfl := Option.some.inj H
  go_enter Tryd.func38, Tryd.ntmps38
  go_wp2_with (first | ((with_reducible refine gate_dst (N := 1) rfl ?_); refine box_event ?hg (N := 1) ?hd (cs := #[.int .i64 a0_0, .string a0_1, .int .i64 a0_2, .bool true]) (t := 51) ?hr ?_; (case hd => rfl); (case hg => rfl); (case hr => first | (go_simp; done) | (go_simp; rfl)); intro gb204 hg w79 hbox hb; have BK204 := Aside0.mk (hbox); have GW204 := Aside0.mk ((by rw [hg]; exact (below_size q14y0) : w.heap.size ≤ gb204)); have GE204 := GW204; replace HB := Aside0.mk (below_step q14y0 hb); clear hb hbox hg; obtain ⟨hcz80_0, hcz80_1, hcz80_2, hcz80_3, hfz80_0, hfz80_1, hfz80_2, hfz80_3⟩ := q14cb4 BK204.out))
  go_ret
  exact ⟨by first | rfl | (simp [errW_none, errW_some] <;> rfl) | (simp [*, errW_none, errW_some] <;> rfl), by repeat (first | (with_reducible first | exact HB.out | apply below_alloc | apply pw_below_drewN | apply below_drew1 | refine below_set ?_ GE204.out) | exact HB.out)⟩
 replace c78 := Bool.eq_false_iff.mpr c78
 subst c78
 have H1 : (if (a0_1.size : Int) ≤ 200 then ((cambiumref02_Right.f k a0_1).bind fun t212 => (some t212)) else (some false)) = some r := by rw [if_neg (show ¬ (false = true) by decide)] at H; exact H
 clear H
 have H := H1
 clear H1
 by_cases c81 : (a0_1.size : Int) ≤ 200
 rotate_left
 ·rw [if_neg c81] at H
  have c81b0 : decide ((a0_1.size : Int) ≤ 200) = false := decide_eq_false c81
  have c81b1 : decide (a0_1.size ≤ 200) = false := decide_eq_false (by omega)
  clear c81
  obtain rfl := Option.some.inj H
  go_enter Tryd.func38, Tryd.ntmps38
  go_wp2_with (first | ((with_reducible refine gate_dst (N := 1) rfl ?_); refine box_event ?hg (N := 1) ?hd (cs := #[.int .i64 a0_0, .string a0_1, .int .i64 a0_2, .bool false]) (t := 51) ?hr ?_; (case hd => rfl); (case hg => rfl); (case hr => first | (go_simp; done) | (go_simp; rfl)); intro gb204 hg w86 hbox hb; have BK204 := Aside0.mk (hbox); have GW204 := Aside0.mk ((by rw [hg]; exact (below_size q14y0) : w.heap.size ≤ gb204)); have GE204 := GW204; replace HB := Aside0.mk (below_step q14y0 hb); clear hb hbox hg; obtain ⟨hcz87_0, hcz87_1, hcz87_2, hcz87_3, hfz87_0, hfz87_1, hfz87_2, hfz87_3⟩ := q14cb4 BK204.out))
  go_ret
  exact ⟨by first | rfl | (simp [errW_none, errW_some] <;> rfl) | (simp [*, errW_none, errW_some] <;> rfl), by repeat (first | (with_reducible first | exact HB.out | apply below_alloc | apply pw_below_drewN | apply below_drew1 | refine below_set ?_ GE204.out) | exact HB.out)⟩
 rw [if_pos c81] at H
 have c81b0 : decide ((a0_1.size : Int) ≤ 200) = true := decide_eq_true c81
 have c81b1 : decide (a0_1.size ≤ 200) = true := decide_eq_true (by omega)
 clear c81
 replace H := Option.bind_eq_some_iff.mp H
 obtain ⟨t212, A820, H⟩ := H
 replace H : (some t212) = some r := H
 have A82 := Aside0.mk A820
 clear A820
 obtain rfl := Option.some.inj H
 go_enter Tryd.func38, Tryd.ntmps38
 go_wp2_with (first | ((with_reducible refine gate_dst (N := 1) rfl ?_); refine box_event ?hg (N := 1) ?hd (cs := #[.int .i64 a0_0, .string a0_1, .int .i64 a0_2, .bool false]) (t := 51) ?hr ?_; (case hd => rfl); (case hg => rfl); (case hr => first | (go_simp; done) | (go_simp; rfl)); intro gb204 hg w83 hbox hb; have BK204 := Aside0.mk (hbox); have GW204 := Aside0.mk ((by rw [hg]; exact (below_size q14y0) : w.heap.size ≤ gb204)); have GE204 := GW204; replace HB := Aside0.mk (below_step q14y0 hb); clear hb hbox hg; obtain ⟨hcz84_0, hcz84_1, hcz84_2, hcz84_3, hfz84_0, hfz84_1, hfz84_2, hfz84_3⟩ := q14cb4 BK204.out) | (go_at_call 63; (with_reducible refine (cambiumref02_Right.calls k a0_1 t212 _ A82.out).mono ?_); rintro e w85 ⟨rfl, hb⟩; replace BK204 := Aside0.mk (blk_below q14y2 hb); replace HB := Aside0.mk (below_step q14y1 hb); (try clear hb); (try clear hb2); (try clear hk); (try clear hi)))
 go_ret
 exact ⟨by first | rfl | (simp [errW_none, errW_some] <;> rfl) | (simp [*, errW_none, errW_some] <;> rfl), by repeat (first | (with_reducible first | exact HB.out | apply below_alloc | apply pw_below_drewN | apply below_drew1 | refine below_set ?_ GE204.out) | exact HB.out)⟩
/-! ### cambiumref01_Less: function 39 -/
mutual
def cambiumref01_Less.l0 : Nat → List Int → List Int → Int → Option (Bool)
 | 0, _, _, _ => none
 | k + 1, x0, x1, x5 => if x5 < (x0.length : Int) then (cambiumref01_Less.j1 k x0 x1 x5 (decide (x5 < (x1.length : Int)))) else (cambiumref01_Less.j1 k x0 x1 x5 false)
def cambiumref01_Less.j1 : Nat → List Int → List Int → Int → Bool → Option (Bool)
 | 0, _, _, _, _ => none
 | k + 1, x0, x1, x5, x15 => if x15 = true then (if 0 ≤ x5 then (if x5 < (x0.length : Int) then (if x5 < (x1.length : Int) then (if (rd x0 x5) = (rd x1 x5) then (cambiumref01_Less.l0 k x0 x1 (wrap64 (x5 + 1))) else (some (decide ((rd x0 x5) < (rd x1 x5))))) else (none)) else (none)) else (none)) else (some (decide ((x0.length : Int) < (x1.length : Int))))
end
def cambiumref01_Less.f (k : Nat) (l0 : List Int) (l1 : List Int) : Option (Bool) := cambiumref01_Less.l0 k l0 l1 0
theorem cambiumref01_Less.mono_l : ∀ k, (∀ y0 y1 y2, LeO (cambiumref01_Less.l0 k y0 y1 y2) (cambiumref01_Less.l0 (k + 1) y0 y1 y2)) ∧ (∀ y0 y1 y2 y3, LeO (cambiumref01_Less.j1 k y0 y1 y2 y3) (cambiumref01_Less.j1 (k + 1) y0 y1 y2 y3))
 | 0 => ⟨fun _ _ _ r h => by simp [cambiumref01_Less.l0] at h, fun _ _ _ _ r h => by simp [cambiumref01_Less.j1] at h⟩
 | k + 1 => by
  obtain ⟨ih0, ih1⟩ := cambiumref01_Less.mono_l k
  refine ⟨?_, ?_⟩
  ·intro y0 y1 y2
   unfold cambiumref01_Less.l0
   repeat' first
   | (with_reducible exact ih0 _ _ _)
   | (with_reducible exact ih1 _ _ _ _)
   | (with_reducible exact LeO.refl _)
   | (with_reducible exact LeO.none _)
   | (with_reducible refine LeO.ite ?_ ?_)
   | (with_reducible refine LeO.bind ?_ (fun _ => ?_))
   | exact ih0 _ _ _
   | exact ih1 _ _ _ _
   | exact LeO.none _
   | refine LeO.ite ?_ ?_
   | refine LeO.bind ?_ (fun _ => ?_)
  ·intro y0 y1 y2 y3
   unfold cambiumref01_Less.j1
   repeat' first
   | (with_reducible exact ih0 _ _ _)
   | (with_reducible exact ih1 _ _ _ _)
   | (with_reducible exact LeO.refl _)
   | (with_reducible exact LeO.none _)
   | (with_reducible refine LeO.ite ?_ ?_)
   | (with_reducible refine LeO.bind ?_ (fun _ => ?_))
   | exact ih0 _ _ _
   | exact ih1 _ _ _ _
   | exact LeO.none _
   | refine LeO.ite ?_ ?_
   | refine LeO.bind ?_ (fun _ => ?_)
theorem cambiumref01_Less.mono : ∀ a0 a1 k, LeO (cambiumref01_Less.f k a0 a1) (cambiumref01_Less.f (k + 1) a0 a1) := by
 intro a0 a1 k
 obtain ⟨ih0, ih1⟩ := cambiumref01_Less.mono_l k
 unfold cambiumref01_Less.f
 repeat' first
   | (with_reducible exact ih0 _ _ _)
   | (with_reducible exact ih1 _ _ _ _)
   | (with_reducible exact LeO.refl _)
   | (with_reducible exact LeO.none _)
   | (with_reducible refine LeO.ite ?_ ?_)
   | (with_reducible refine LeO.bind ?_ (fun _ => ?_))
   | exact ih0 _ _ _
   | exact ih1 _ _ _ _
   | exact LeO.none _
   | refine LeO.ite ?_ ?_
   | refine LeO.bind ?_ (fun _ => ?_)
set_option maxHeartbeats 8000000 in
set_option maxRecDepth 100000 in
theorem cambiumref01_Less.calls (k : Nat) (A0 : Option Addr) (c0 : Nat) (l0 : List Int) (A1 : Option Addr) (c1 : Nat) (l1 : List Int) (r : Bool) (w : World) (hr0 : Kd.C (Kd.int .u8) w A0 l0.length l0) (hc0 : l0.length ≤ c0) (hr1 : Kd.C (Kd.int .u8) w A1 l1.length l1) (hc1 : l1.length ≤ c1) (h : cambiumref01_Less.f k l0 l1 = some r) :
  Calls Tryd.prog 39 #[.slice A0 l0.length c0, .slice A1 l1.length c1] w fun e w' => e = .returned (.bool r) ∧ Drawn0 w w' := by
 have HR0 := Aside0.mk hr0
 have HC0 := Aside0.mk hc0
 clear hr0 hc0
 have HR1 := Aside0.mk hr1
 have HC1 := Aside0.mk hc1
 clear hr1 hc1
 have H : (cambiumref01_Less.l0 k l0 l1 0) = some r := h
 clear h
 have H' := Aside0.mk H
 clear H
 go_enter Tryd.func39, Tryd.ntmps39
 go_wp2
 repeat (go_quiet (fail); try go_wp2)
 go_loopg [5] k (fun kq v5 w' => ∃ (x5_1 : Int), v5 = .int .i64 x5_1 ∧ Aside0 (cambiumref01_Less.l0 kq l0 l1 x5_1 = some r) ∧ Aside0 (kq ≤ k) ∧ Drawn0 w w')
 case atStart => exact ⟨(0), (by first | rfl | (simp; done) | (simp [*]; done)), H', ⟨Nat.le_refl _⟩, by repeat (first | exact Drawn0.refl _ | apply Drawn0.step)⟩
 case round =>
  clear H'
  try clear c1
  try clear p2
  obtain ⟨x5_1, rfl, HA, HK1, ⟨m1, rfl⟩⟩ := hrel
  cases gk with
  | zero => exact absurd HA.out (by simp [cambiumref01_Less.l0])
  | succ k1 =>
   have H := HA.out
   clear HA
   simp only [cambiumref01_Less.l0] at H
   have HC3 := Aside0.mk H
   clear H
   go_upto_region 2 with (fail)
   repeat (go_quiet (fail); go_upto_region 2 with (fail))
   go_cut [15] (fun v15 wc => ∃ (kq : Nat) (x15_2 : Bool), v15 = .bool x15_2 ∧ Aside0 (cambiumref01_Less.j1 kq l0 l1 x5_1 x15_2 = some r) ∧ Aside0 (kq ≤ k1) ∧ Drawn0 w wc)
   case first =>
    have H := HC3.out
    clear HC3
    by_cases c4 : x5_1 < (l0.length : Int)
    ·rw [if_pos c4] at H
     have c4b0 : decide (x5_1 < (l0.length : Int)) = true := decide_eq_true c4
     clear c4
     (first | rw [c4b0] | (simp only [i64_w, i32_w]; rw [c4b0]) | skip)
     have H' := Aside0.mk H
     clear H
     go_wp2
     repeat (go_quiet (fail); try go_wp2)
     go_meet
     case rel => exact ⟨_, (decide (x5_1 < (l1.length : Int))), (by first | rfl | (simp; done) | (simp [*]; done)), H', ⟨by have := HK1.out; first | omega | exact Nat.le_refl _⟩, by repeat (first | exact Drawn0.refl _ | apply Drawn0.step)⟩
    rw [if_neg c4] at H
    have c4b0 : decide (x5_1 < (l0.length : Int)) = false := decide_eq_false c4
    clear c4
    (first | rw [c4b0] | (simp only [i64_w, i32_w]; rw [c4b0]) | skip)
    have H' := Aside0.mk H
    clear H
    go_wp2
    repeat (go_quiet (fail); try go_wp2)
    go_meet
    case rel => exact ⟨_, (false), (by first | rfl | (simp; done) | (simp [*]; done)), H', ⟨by have := HK1.out; first | omega | exact Nat.le_refl _⟩, by repeat (first | exact Drawn0.refl _ | apply Drawn0.step)⟩
   case rest =>
    clear HC3
    try clear c1
    try clear p2
    try clear c3
    try clear c4
    try clear c4b0
    try clear p2
    obtain ⟨kq, x15_2, rfl, HA, HJ2, ⟨mc2, rfl⟩⟩ := hcut
    cases kq with
    | zero => exact absurd HA.out (by simp [cambiumref01_Less.j1])
    | succ kj2 =>
     have H := HA.out
     clear HA
     simp only [cambiumref01_Less.j1] at H
     by_cases c5 : x15_2 = true
     rotate_left
     ·replace c5 := Bool.eq_false_iff.mpr c5
      subst c5
      have H1 : (some (decide ((l0.length : Int) < (l1.length : Int)))) = some r := by rw [if_neg (show ¬ (false = true) by decide)] at H; exact H
      clear H
      have H := H1
      clear H1
      obtain rfl := Option.some.inj H
      go_wp2
      repeat (go_quiet (fail); try go_wp2)
      go_ret
      exact ⟨by first | rfl | (simp; done) | (simp [*]; done), by repeat (first | exact Drawn0.refl _ | apply Drawn0.step)⟩

     subst c5
     have H1 : (if 0 ≤ x5_1 then (if x5_1 < (l0.length : Int) then (if x5_1 < (l1.length : Int) then (if (rd l0 x5_1) = (rd l1 x5_1) then (cambiumref01_Less.l0 kj2 l0 l1 (wrap64 (x5_1 + 1))) else (some (decide ((rd l0 x5_1) < (rd l1 x5_1))))) else (none)) else (none)) else (none)) = some r := by rw [if_pos rfl] at H; exact H
     clear H
     have H := H1
     clear H1
     by_cases c6 : 0 ≤ x5_1
     rotate_left
     ·rw [if_neg c6] at H
      exact absurd H (by simp)
     rw [if_pos c6] at H
     have c6b0 : decide (0 ≤ x5_1) = true := decide_eq_true c6
     clear c6
     by_cases c7 : x5_1 < (l0.length : Int)
     rotate_left
     ·rw [if_neg c7] at H
      exact absurd H (by simp)
     rw [if_pos c7] at H
     have c7b0 : decide (x5_1 < (l0.length : Int)) = true := decide_eq_true c7
     clear c7
     by_cases c8 : x5_1 < (l1.length : Int)
     rotate_left
     ·rw [if_neg c8] at H
      exact absurd H (by simp)
     rw [if_pos c8] at H
     have c8b0 : decide (x5_1 < (l1.length : Int)) = true := decide_eq_true c8
     clear c8
     by_cases c9 : (rd l0 x5_1) = (rd l1 x5_1)
     ·rw [if_pos c9] at H
      have c9b0 : ((rd l0 x5_1) == (rd l1 x5_1)) = true := beq_iff_eq.mpr c9
      have c9b1 : ((rd l0 x5_1) != (rd l1 x5_1)) = false := bne_eq_false_iff_eq.mpr c9
      clear c9
      have H' := Aside0.mk H
      clear H
      have p213 : 0 ≤ (x5_1 : Int) := of_decide_eq_true q14y3
      have q213 : x5_1 < (l0.length : Int) := of_decide_eq_true q14y3
      obtain ⟨ad213, e213, hx213_0⟩ := Kd.at_int HR0.out x5_1 p213 q213
      cases e213
      replace p213 := eq_true p213
      replace q213 := eq_true q213
      have p214 : 0 ≤ (x5_1 : Int) := of_decide_eq_true q14y3
      have q214 : x5_1 < (l1.length : Int) := of_decide_eq_true q14y3
      obtain ⟨ad214, e214, hx214_0⟩ := Kd.at_int HR1.out x5_1 p214 q214
      cases e214
      replace p214 := eq_true p214
      replace q214 := eq_true q214
      go_wp2
      repeat (go_quiet (fail); try go_wp2)
      go_roundg kj2
      case measure => have := HK1.out; have := HJ2.out; omega
      case rel => exact ⟨(wrap64 (x5_1 + 1)), (by first | rfl | (simp; done) | (simp [*]; done)), H', ⟨by have := HK1.out; have := HJ2.out; omega⟩, by repeat (first | exact Drawn0.refl _ | apply Drawn0.step)⟩
     rw [if_neg c9] at H
     have c9b0 : ((rd l0 x5_1) == (rd l1 x5_1)) = false := beq_eq_false_iff_ne.mpr c9
     have c9b1 : ((rd l0 x5_1) != (rd l1 x5_1)) = true := bne_iff_ne.mpr c9
     obtain rfl := Option.some.inj H
     have p213 : 0 ≤ (x5_1 : Int) := of_decide_eq_true q14y3
     have q213 : x5_1 < (l0.length : Int) := of_decide_eq_true q14y3
     obtain ⟨ad213, e213, hx213_0⟩ := Kd.at_int HR0.out x5_1 p213 q213
     cases e213
     replace p213 := eq_true p213
     replace q213 := eq_true q213
     have p214 : 0 ≤ (x5_1 : Int) := of_decide_eq_true q14y3
     have q214 : x5_1 < (l1.length : Int) := of_decide_eq_true q14y3
     obtain ⟨ad214, e214, hx214_0⟩ := Kd.at_int HR1.out x5_1 p214 q214
     cases e214
     replace p214 := eq_true p214
     replace q214 := eq_true q214
     have p215 : 0 ≤ (x5_1 : Int) := of_decide_eq_true q14y3
     have q215 : x5_1 < (l0.length : Int) := of_decide_eq_true q14y3
     obtain ⟨ad215, e215, hx215_0⟩ := Kd.at_int HR0.out x5_1 p215 q215
     obtain rfl : ad213 = ad215 := (by injection e215)
     replace p215 := eq_true p215
     replace q215 := eq_true q215
     have p216 : 0 ≤ (x5_1 : Int) := of_decide_eq_true q14y3
     have q216 : x5_1 < (l1.length : Int) := of_decide_eq_true q14y3
     obtain ⟨ad216, e216, hx216_0⟩ := Kd.at_int HR1.out x5_1 p216 q216
     obtain rfl : ad214 = ad216 := (by injection e216)
     replace p216 := eq_true p216
     replace q216 := eq_true q216
     go_wp2
     repeat (go_quiet (fail); try go_wp2)
     go_ret
     exact ⟨by first | rfl | (simp; done) | (simp [*]; done), by repeat (first | exact Drawn0.refl _ | apply Drawn0.step)⟩
end Go.Proofs.YtkgpnfjmahjlcaaDoor.PAll
