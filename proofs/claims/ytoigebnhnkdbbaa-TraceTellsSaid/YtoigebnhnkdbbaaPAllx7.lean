-- Written by a program: the kit's print.py, driven for several laws at once. Not trusted: Lean checks it.
import Derived.Test.YtoigebnhnkdbbaaPAllx0
import Derived.Test.YtoigebnhnkdbbaaPAllx6
namespace Go.Proofs.Ytoigebnhnkdbbaa.PAll
open Go.RowKit Go.Proofs.YtoigebnhnkdbbaaW.PrintWords Go.Proofs.YtoigebnhnkdbbaaW.PrintLast Go.Proofs.YtoigebnhnkdbbaaW.PrintMore
attribute [local go_sem] max2_int min2_int max_two min_two max_three min_three max_four min_four   -- for this text's walks alone
set_option linter.unusedVariables false
set_option linter.unusedSimpArgs false

/-! ### cambiumlaw26_small: function 8 -/
def q7m (n m : Nat) : Array Bool := ((List.range n).map (Nat.testBit m)).toArray
theorem q7a {α : Type} (xs : List α) (i : Nat) (x : α) : xs.toArray.setIfInBounds i x = (xs.set i x).toArray := List.setIfInBounds_toArray ..
theorem q7b {α : Type} (x y : α) (xs : List α) : (x :: xs).set 0 y = y :: xs := List.set_cons_zero ..
theorem q7c {α : Type} (x y : α) (xs : List α) (n : Nat) : (x :: xs).set (n + 1) y = x :: xs.set n y := List.set_cons_succ ..
theorem q7h {w w' : World} {p : Addr} {v : Value} (h : Below w.heap.size w w') (x : w.cell? p = some v) : w'.cell? p = some v := (h.cell (World.block_lt_of_cell? w _ x)).trans x
theorem q7p {P : Program} {md : Region.Mode} {ops : Array Oper} {Q : Exit → Act → World → Prop} {S : World → Prop} {ds : List Nat} {T : Bool × List (List Nat × List Nat)} {i : Nat} {N : Option Tmp} {oi : Oper} {v : Value} {fuel : Nat} {l : Array Bool} {a : Act} {w : World} (l' : Array Bool) (hT : rtab md ops = T) {a' : Act}
    (h : wpAnyLast P md ops Q S ds fuel l' a' w) (hi : ops[i]? = some oi := by rfl) (hN : oi.dst = N := by rfl) (hc : anyT T l.toList l'.toList i = true := by kernel_rfl) (hQ : ∀ c a w, Q (.panic c) (a.put oi.dst v) w → Q (.panic c) a w := by exact fun _ _ _ h => h)
    (hw : Region.wanted oi (yielded ops a.tmps) = true := by rfl) (hy : ∀ w', (execOp a.eval oi).run P w' = .ok (.value v) w' := by intro w'; go_simp; with_reducible rfl) (ha : a.put N v = a' := by simp only [Act.put, q7a, q7b, q7c, i64_w, i32_w]; rfl) :
    wpAnyLast P md ops Q S ds (fuel + 1) l a w := pure_ l' hi hN (any_of hT hc) hQ (Or.inl ⟨hw, hy⟩) ha h
theorem q7u {P : Program} {md : Region.Mode} {ops : Array Oper} {Q : Exit → Act → World → Prop} {S : World → Prop} {ds : List Nat} {T : Bool × List (List Nat × List Nat)} {i : Nat} {N : Option Tmp} {oi : Oper} {fuel : Nat} {l : Array Bool} {a : Act} {w : World} (l' : Array Bool) (hT : rtab md ops = T) {a' : Act}
    (h : wpAnyLast P md ops Q S ds fuel l' a' w) (hi : ops[i]? = some oi := by rfl) (hN : oi.dst = N := by rfl) (hc : anyT T l.toList l'.toList i = true := by kernel_rfl) (hQ : ∀ c a w, Q (.panic c) (a.put oi.dst undef) w → Q (.panic c) a w := by exact fun _ _ _ h => h)
    (hw : Region.wanted oi (yielded ops a.tmps) = false := by rfl) (ha : a.put N undef = a' := by simp only [Act.put, q7a, q7b, q7c, i64_w, i32_w]; rfl) :
    wpAnyLast P md ops Q S ds (fuel + 1) l a w := pure_ l' hi hN (any_of hT hc) hQ (Or.inr ⟨hw, rfl⟩) ha h
theorem q7k {w : World} {g : Nat} {cs : Array Value} {t : TypeId} (h : w.heap[g]? = some (.cells cs t (0, 0))) (i : Nat) {v : Value} (e : cs[i]? = some v := by rfl) : w.cell? ⟨g, i, none⟩ = some v := (blk_cell h i).trans e
theorem q7y0 {P : Prop} (h : P := by first | (with_reducible assumption) | assumption) : P := h
theorem q7y1 {P : Prop} (h : P := by (try simp only [List.map_toArray, List.map_cons, List.map_nil]); first | done | rfl | (simp only [List.length_drop, List.length_take]; rfl)) : P := h
theorem q7y2 {P : Prop} (h : P := by repeat (first | (with_reducible first | exact HB.out | apply below_alloc | apply pw_below_drewN | apply below_drew1) | exact HB.out)) : P := h

def cambiumlaw26_small.l0 : Nat → List (S38) → Int → Option (Bool)
 | 0, _, _ => none
 | k + 1, x0, x3 => if x3 < (x0.length : Int) then (if 0 ≤ x3 then ((cambiumref16_Small.f k ((rd_T38 x0 x3).f0) ((rd_T38 x0 x3).f1) ((rd_T38 x0 x3).f2) ((rd_T38 x0 x3).f3) ((rd_T38 x0 x3).f4) ((rd_T38 x0 x3).f5) ((rd_T38 x0 x3).f6) ((rd_T38 x0 x3).f7) ((rd_T38 x0 x3).f8) ((rd_T38 x0 x3).f9) ((rd_T38 x0 x3).f10)).bind fun t128 => (if t128 = true then (if ((rd_T38 x0 x3).f5) > 2305843009213693952 then (some false) else (if ((rd_T38 x0 x3).f5) < (-2305843009213693952) then (some false) else (if ((rd_T38 x0 x3).f6) > 2305843009213693952 then (some false) else (if ((rd_T38 x0 x3).f6) < (-2305843009213693952) then (some false) else (cambiumlaw26_small.l0 k x0 (wrap64 (x3 + 1))))))) else (some false))) else (none)) else (some true)
def cambiumlaw26_small.f (k : Nat) (l0 : List (S38)) : Option (Bool) := if (l0.length : Int) > 80 then (some false) else (cambiumlaw26_small.l0 k l0 0)
theorem cambiumlaw26_small.mono_l : ∀ k, (∀ y0 y1, LeO (cambiumlaw26_small.l0 k y0 y1) (cambiumlaw26_small.l0 (k + 1) y0 y1))
 | 0 => fun _ _ r h => by simp [cambiumlaw26_small.l0] at h
 | k + 1 => by
  have ih0 := cambiumlaw26_small.mono_l k
  ·intro y0 y1
   unfold cambiumlaw26_small.l0
   repeat' first
   | (with_reducible exact ih0 _ _)
   | (with_reducible exact cambiumref16_Small.mono _ _ _ _ _ _ _ _ _ _ _ _)
   | (with_reducible exact LeO.refl _)
   | (with_reducible exact LeO.none _)
   | (with_reducible refine LeO.ite ?_ ?_)
   | (with_reducible refine LeO.bind ?_ (fun _ => ?_))
   | exact ih0 _ _
   | exact cambiumref16_Small.mono _ _ _ _ _ _ _ _ _ _ _ _
   | exact LeO.none _
   | refine LeO.ite ?_ ?_
   | refine LeO.bind ?_ (fun _ => ?_)
theorem cambiumlaw26_small.mono : ∀ a0 k, LeO (cambiumlaw26_small.f k a0) (cambiumlaw26_small.f (k + 1) a0) := by
 intro a0 k
 have ih0 := cambiumlaw26_small.mono_l k
 unfold cambiumlaw26_small.f
 repeat' first
   | (with_reducible exact ih0 _ _)
   | (with_reducible exact cambiumref16_Small.mono _ _ _ _ _ _ _ _ _ _ _ _)
   | (with_reducible exact LeO.refl _)
   | (with_reducible exact LeO.none _)
   | (with_reducible refine LeO.ite ?_ ?_)
   | (with_reducible refine LeO.bind ?_ (fun _ => ?_))
   | exact ih0 _ _
   | exact cambiumref16_Small.mono _ _ _ _ _ _ _ _ _ _ _ _
   | exact LeO.none _
   | refine LeO.ite ?_ ?_
   | refine LeO.bind ?_ (fun _ => ?_)
set_option maxHeartbeats 8000000 in
set_option maxRecDepth 100000 in
theorem cambiumlaw26_small.calls (k : Nat) (A0 : Option Addr) (c0 : Nat) (l0 : List (S38)) (r : Bool) (w : World) (hr0 : Kd.C k38 w A0 l0.length l0) (hc0 : l0.length ≤ c0) (h : cambiumlaw26_small.f k l0 = some r) :
  Calls Try.prog 8 #[.slice A0 l0.length c0] w fun e w' => e = .returned (.bool r) ∧ Below w.heap.size w w' := by
 have hu38 := Try.underlying38
 have HR0 := Aside0.mk hr0
 have HC0 := Aside0.mk hc0
 clear hr0 hc0
 have HB := Aside0.mk (Below.refl w.heap.size w)
 have H : (if (l0.length : Int) > 80 then (some false) else (cambiumlaw26_small.l0 k l0 0)) = some r := h
 clear h
 by_cases c2 : (l0.length : Int) > 80
 ·rw [if_pos c2] at H
  have c2b0 : decide (80 < (l0.length : Int)) = true := decide_eq_true c2
  have c2b1 : decide (80 < l0.length) = true := decide_eq_true (by omega)
  clear c2
  obtain rfl := Option.some.inj H
  go_enter Try.func8, Try.ntmps8
  go_wp2
  go_ret
  exact ⟨by first | rfl | (simp [errW_none, errW_some] <;> rfl) | (simp [*, errW_none, errW_some] <;> rfl), by repeat (first | (with_reducible first | exact HB.out | apply below_alloc | apply pw_below_drewN | apply below_drew1) | exact HB.out)⟩
 rw [if_neg c2] at H
 have c2b0 : decide (80 < (l0.length : Int)) = false := decide_eq_false c2
 have c2b1 : decide (80 < l0.length) = false := decide_eq_false (by omega)
 clear c2
 have H' := Aside0.mk H
 clear H
 go_enter Try.func8, Try.ntmps8
 go_wp2
 go_loopg [3] k (fun kq v3 w' => ∃ (x3_1 : Int), v3 = .int .i64 x3_1 ∧ Aside0 (cambiumlaw26_small.l0 kq l0 x3_1 = some r) ∧ Aside0 (kq ≤ k) ∧ Aside0 (Below w.heap.size w w'))
 case atStart => exact ⟨(0), (by first | rfl | (simp; done) | (simp [*]; done)), H', ⟨Nat.le_refl _⟩, ⟨by repeat (first | (with_reducible first | exact HB.out | apply below_alloc | apply pw_below_drewN | apply below_drew1) | exact HB.out)⟩⟩
 case round =>
  clear H'
  try clear c2
  try clear c2b0
  try clear c2b1
  try clear p2
  obtain ⟨x3_1, rfl, HA, HK1, HB⟩ := hrel
  cases gk with
  | zero => exact absurd HA.out (by simp [cambiumlaw26_small.l0])
  | succ k1 =>
   have H := HA.out
   clear HA
   simp only [cambiumlaw26_small.l0] at H
   by_cases c3 : x3_1 < (l0.length : Int)
   rotate_left
   ·rw [if_neg c3] at H
    have c3b0 : decide (x3_1 < (l0.length : Int)) = false := decide_eq_false c3
    clear c3
    obtain rfl := Option.some.inj H
    go_wp2
    go_ret
    exact ⟨by first | rfl | (simp [errW_none, errW_some] <;> rfl) | (simp [*, errW_none, errW_some] <;> rfl), by repeat (first | (with_reducible first | exact HB.out | apply below_alloc | apply pw_below_drewN | apply below_drew1) | exact HB.out)⟩

   rw [if_pos c3] at H
   have c3b0 : decide (x3_1 < (l0.length : Int)) = true := decide_eq_true c3
   clear c3
   by_cases c4 : 0 ≤ x3_1
   rotate_left
   ·rw [if_neg c4] at H
    exact absurd H (by simp)
   rw [if_pos c4] at H
   have c4b0 : decide (0 ≤ x3_1) = true := decide_eq_true c4
   clear c4
   replace H := Option.bind_eq_some_iff.mp H
   obtain ⟨t128, A50, H⟩ := H
   replace H : (if t128 = true then (if ((rd_T38 l0 x3_1).f5) > 2305843009213693952 then (some false) else (if ((rd_T38 l0 x3_1).f5) < (-2305843009213693952) then (some false) else (if ((rd_T38 l0 x3_1).f6) > 2305843009213693952 then (some false) else (if ((rd_T38 l0 x3_1).f6) < (-2305843009213693952) then (some false) else (cambiumlaw26_small.l0 k1 l0 (wrap64 (x3_1 + 1))))))) else (some false)) = some r := H
   have A5 := Aside0.mk A50
   clear A50
   by_cases c6 : t128 = true
   rotate_left
   ·replace c6 := Bool.eq_false_iff.mpr c6
    subst c6
    have H1 : (some false) = some r := by rw [if_neg (show ¬ (false = true) by decide)] at H; exact H
    clear H
    have H := H1
    clear H1
    obtain rfl := Option.some.inj H
    have p127 : 0 ≤ (x3_1 : Int) := of_decide_eq_true q7y0
    have q127 : x3_1 < (l0.length : Int) := of_decide_eq_true q7y0
    obtain ⟨ad127, A127_8, c127_8, A127_9, c127_9, A127_10, c127_10, e127, hx127_0, hx127_1, hx127_2, hx127_3, hx127_4, hx127_5, hx127_6, hx127_7, hx127_8, hx127_9, hx127_10, hl127_8, hi127_8, hl127_9, hi127_9, hl127_10, hi127_10⟩ := at_T38 HR0.out x3_1 p127 q127
    cases e127
    replace hx127_0 := (HB.out.cell (World.block_lt_of_cell? w _ hx127_0)).trans hx127_0
    replace hx127_1 := (HB.out.cell (World.block_lt_of_cell? w _ hx127_1)).trans hx127_1
    replace hx127_2 := (HB.out.cell (World.block_lt_of_cell? w _ hx127_2)).trans hx127_2
    replace hx127_3 := (HB.out.cell (World.block_lt_of_cell? w _ hx127_3)).trans hx127_3
    replace hx127_4 := (HB.out.cell (World.block_lt_of_cell? w _ hx127_4)).trans hx127_4
    replace hx127_5 := (HB.out.cell (World.block_lt_of_cell? w _ hx127_5)).trans hx127_5
    replace hx127_6 := (HB.out.cell (World.block_lt_of_cell? w _ hx127_6)).trans hx127_6
    replace hx127_7 := (HB.out.cell (World.block_lt_of_cell? w _ hx127_7)).trans hx127_7
    replace hx127_8 := (HB.out.cell (World.block_lt_of_cell? w _ hx127_8)).trans hx127_8
    replace hx127_9 := (HB.out.cell (World.block_lt_of_cell? w _ hx127_9)).trans hx127_9
    replace hx127_10 := (HB.out.cell (World.block_lt_of_cell? w _ hx127_10)).trans hx127_10
    have HR127_8 := Aside0.mk hi127_8
    have HC127_8 := Aside0.mk hl127_8
    clear hi127_8 hl127_8
    have HR127_9 := Aside0.mk hi127_9
    have HC127_9 := Aside0.mk hl127_9
    clear hi127_9 hl127_9
    have HR127_10 := Aside0.mk hi127_10
    have HC127_10 := Aside0.mk hl127_10
    clear hi127_10 hl127_10
    replace p127 := eq_true p127
    replace q127 := eq_true q127
    go_wp2_with (first | ((with_reducible refine gate_callee (f := 19) rfl ?_); refine goesL_ (some 17) rfl rfl Try.func19 (by kernel_rfl) rfl #[.agg #[.int .u64 ((rd_T38 l0 x3_1).f0), .int .u64 ((rd_T38 l0 x3_1).f1), .int .u64 ((rd_T38 l0 x3_1).f2), .string ((rd_T38 l0 x3_1).f3), .string ((rd_T38 l0 x3_1).f4), .int .i64 ((rd_T38 l0 x3_1).f5), .int .i64 ((rd_T38 l0 x3_1).f6), .int .i64 ((rd_T38 l0 x3_1).f7), .slice A127_8 ((rd_T38 l0 x3_1).f8).length c127_8, .slice A127_9 ((rd_T38 l0 x3_1).f9).length c127_9, .slice A127_10 ((rd_T38 l0 x3_1).f10).length c127_10]] rfl q7y1 ?_; (with_reducible refine (cambiumref16_Small.calls k1 ((rd_T38 l0 x3_1).f0) ((rd_T38 l0 x3_1).f1) ((rd_T38 l0 x3_1).f2) ((rd_T38 l0 x3_1).f3) ((rd_T38 l0 x3_1).f4) ((rd_T38 l0 x3_1).f5) ((rd_T38 l0 x3_1).f6) ((rd_T38 l0 x3_1).f7) _ _ ((rd_T38 l0 x3_1).f8) _ _ ((rd_T38 l0 x3_1).f9) _ _ ((rd_T38 l0 x3_1).f10) false _ ?side1 ?side2 ?side3 ?side4 ?side5 ?side6 A5.out).mono ?_); (case side1 => repeat (first | exact (Kd.C_below HR127_8.out HB.out) | (with_reducible refine Kd.C_alloc ?_ _) | (with_reducible refine Kd.C_drewN ?_ _) | (with_reducible refine Kd.C_drew ?_))); (case side2 => exact HC127_8.out); (case side3 => repeat (first | exact (Kd.C_below HR127_9.out HB.out) | (with_reducible refine Kd.C_alloc ?_ _) | (with_reducible refine Kd.C_drewN ?_ _) | (with_reducible refine Kd.C_drew ?_))); (case side4 => exact HC127_9.out); (case side5 => repeat (first | exact (Kd.C_below HR127_10.out HB.out) | (with_reducible refine Kd.C_alloc ?_ _) | (with_reducible refine Kd.C_drewN ?_ _) | (with_reducible refine Kd.C_drew ?_))); (case side6 => exact HC127_10.out); rintro e w16 ⟨rfl, hb⟩; refine ⟨_, rfl, ?_⟩; have n0_ := Aside0.mk (below_step q7y2 hb); clear HB; have HB := n0_; clear n0_; (try clear hb); (try clear hb2); (try clear hk); (try clear hi)))
    go_ret
    exact ⟨by first | rfl | (simp [errW_none, errW_some] <;> rfl) | (simp [*, errW_none, errW_some] <;> rfl), by repeat (first | (with_reducible first | exact HB.out | apply below_alloc | apply pw_below_drewN | apply below_drew1) | exact HB.out)⟩
   subst c6
   have H1 : (if ((rd_T38 l0 x3_1).f5) > 2305843009213693952 then (some false) else (if ((rd_T38 l0 x3_1).f5) < (-2305843009213693952) then (some false) else (if ((rd_T38 l0 x3_1).f6) > 2305843009213693952 then (some false) else (if ((rd_T38 l0 x3_1).f6) < (-2305843009213693952) then (some false) else (cambiumlaw26_small.l0 k1 l0 (wrap64 (x3_1 + 1))))))) = some r := by rw [if_pos rfl] at H; exact H
   clear H
   have H := H1
   clear H1
   by_cases c7 : ((rd_T38 l0 x3_1).f5) > 2305843009213693952
   ·rw [if_pos c7] at H
    have c7b0 : decide (2305843009213693952 < ((rd_T38 l0 x3_1).f5)) = true := decide_eq_true c7
    clear c7
    obtain rfl := Option.some.inj H
    have p127 : 0 ≤ (x3_1 : Int) := of_decide_eq_true q7y0
    have q127 : x3_1 < (l0.length : Int) := of_decide_eq_true q7y0
    obtain ⟨ad127, A127_8, c127_8, A127_9, c127_9, A127_10, c127_10, e127, hx127_0, hx127_1, hx127_2, hx127_3, hx127_4, hx127_5, hx127_6, hx127_7, hx127_8, hx127_9, hx127_10, hl127_8, hi127_8, hl127_9, hi127_9, hl127_10, hi127_10⟩ := at_T38 HR0.out x3_1 p127 q127
    cases e127
    replace hx127_0 := (HB.out.cell (World.block_lt_of_cell? w _ hx127_0)).trans hx127_0
    replace hx127_1 := (HB.out.cell (World.block_lt_of_cell? w _ hx127_1)).trans hx127_1
    replace hx127_2 := (HB.out.cell (World.block_lt_of_cell? w _ hx127_2)).trans hx127_2
    replace hx127_3 := (HB.out.cell (World.block_lt_of_cell? w _ hx127_3)).trans hx127_3
    replace hx127_4 := (HB.out.cell (World.block_lt_of_cell? w _ hx127_4)).trans hx127_4
    replace hx127_5 := (HB.out.cell (World.block_lt_of_cell? w _ hx127_5)).trans hx127_5
    replace hx127_6 := (HB.out.cell (World.block_lt_of_cell? w _ hx127_6)).trans hx127_6
    replace hx127_7 := (HB.out.cell (World.block_lt_of_cell? w _ hx127_7)).trans hx127_7
    replace hx127_8 := (HB.out.cell (World.block_lt_of_cell? w _ hx127_8)).trans hx127_8
    replace hx127_9 := (HB.out.cell (World.block_lt_of_cell? w _ hx127_9)).trans hx127_9
    replace hx127_10 := (HB.out.cell (World.block_lt_of_cell? w _ hx127_10)).trans hx127_10
    have HR127_8 := Aside0.mk hi127_8
    have HC127_8 := Aside0.mk hl127_8
    clear hi127_8 hl127_8
    have HR127_9 := Aside0.mk hi127_9
    have HC127_9 := Aside0.mk hl127_9
    clear hi127_9 hl127_9
    have HR127_10 := Aside0.mk hi127_10
    have HC127_10 := Aside0.mk hl127_10
    clear hi127_10 hl127_10
    replace p127 := eq_true p127
    replace q127 := eq_true q127
    go_wp2_with (first | ((with_reducible refine gate_callee (f := 19) rfl ?_); refine goesL_ (some 17) rfl rfl Try.func19 (by kernel_rfl) rfl #[.agg #[.int .u64 ((rd_T38 l0 x3_1).f0), .int .u64 ((rd_T38 l0 x3_1).f1), .int .u64 ((rd_T38 l0 x3_1).f2), .string ((rd_T38 l0 x3_1).f3), .string ((rd_T38 l0 x3_1).f4), .int .i64 ((rd_T38 l0 x3_1).f5), .int .i64 ((rd_T38 l0 x3_1).f6), .int .i64 ((rd_T38 l0 x3_1).f7), .slice A127_8 ((rd_T38 l0 x3_1).f8).length c127_8, .slice A127_9 ((rd_T38 l0 x3_1).f9).length c127_9, .slice A127_10 ((rd_T38 l0 x3_1).f10).length c127_10]] rfl q7y1 ?_; (with_reducible refine (cambiumref16_Small.calls k1 ((rd_T38 l0 x3_1).f0) ((rd_T38 l0 x3_1).f1) ((rd_T38 l0 x3_1).f2) ((rd_T38 l0 x3_1).f3) ((rd_T38 l0 x3_1).f4) ((rd_T38 l0 x3_1).f5) ((rd_T38 l0 x3_1).f6) ((rd_T38 l0 x3_1).f7) _ _ ((rd_T38 l0 x3_1).f8) _ _ ((rd_T38 l0 x3_1).f9) _ _ ((rd_T38 l0 x3_1).f10) true _ ?side1 ?side2 ?side3 ?side4 ?side5 ?side6 A5.out).mono ?_); (case side1 => repeat (first | exact (Kd.C_below HR127_8.out HB.out) | (with_reducible refine Kd.C_alloc ?_ _) | (with_reducible refine Kd.C_drewN ?_ _) | (with_reducible refine Kd.C_drew ?_))); (case side2 => exact HC127_8.out); (case side3 => repeat (first | exact (Kd.C_below HR127_9.out HB.out) | (with_reducible refine Kd.C_alloc ?_ _) | (with_reducible refine Kd.C_drewN ?_ _) | (with_reducible refine Kd.C_drew ?_))); (case side4 => exact HC127_9.out); (case side5 => repeat (first | exact (Kd.C_below HR127_10.out HB.out) | (with_reducible refine Kd.C_alloc ?_ _) | (with_reducible refine Kd.C_drewN ?_ _) | (with_reducible refine Kd.C_drew ?_))); (case side6 => exact HC127_10.out); rintro e w8 ⟨rfl, hb⟩; refine ⟨_, rfl, ?_⟩; have n0_ := Aside0.mk (below_step q7y2 hb); clear HB; have HB := n0_; clear n0_; (try clear hb); (try clear hb2); (try clear hk); (try clear hi); have p129 : 0 ≤ (x3_1 : Int) := of_decide_eq_true q7y0; have q129 : x3_1 < (l0.length : Int) := of_decide_eq_true q7y0; obtain ⟨ad129, A129_8, c129_8, A129_9, c129_9, A129_10, c129_10, e129, hx129_0, hx129_1, hx129_2, hx129_3, hx129_4, hx129_5, hx129_6, hx129_7, hx129_8, hx129_9, hx129_10, hl129_8, hi129_8, hl129_9, hi129_9, hl129_10, hi129_10⟩ := at_T38 HR0.out x3_1 p129 q129; obtain rfl : ad127 = ad129 := (by injection e129); replace hx129_0 := (HB.out.cell (World.block_lt_of_cell? w _ hx129_0)).trans hx129_0; replace hx129_1 := (HB.out.cell (World.block_lt_of_cell? w _ hx129_1)).trans hx129_1; replace hx129_2 := (HB.out.cell (World.block_lt_of_cell? w _ hx129_2)).trans hx129_2; replace hx129_3 := (HB.out.cell (World.block_lt_of_cell? w _ hx129_3)).trans hx129_3; replace hx129_4 := (HB.out.cell (World.block_lt_of_cell? w _ hx129_4)).trans hx129_4; replace hx129_5 := (HB.out.cell (World.block_lt_of_cell? w _ hx129_5)).trans hx129_5; replace hx129_6 := (HB.out.cell (World.block_lt_of_cell? w _ hx129_6)).trans hx129_6; replace hx129_7 := (HB.out.cell (World.block_lt_of_cell? w _ hx129_7)).trans hx129_7; replace hx129_8 := (HB.out.cell (World.block_lt_of_cell? w _ hx129_8)).trans hx129_8; replace hx129_9 := (HB.out.cell (World.block_lt_of_cell? w _ hx129_9)).trans hx129_9; replace hx129_10 := (HB.out.cell (World.block_lt_of_cell? w _ hx129_10)).trans hx129_10; have HR129_8 := Aside0.mk hi129_8; have HC129_8 := Aside0.mk hl129_8; clear hi129_8 hl129_8; have HR129_9 := Aside0.mk hi129_9; have HC129_9 := Aside0.mk hl129_9; clear hi129_9 hl129_9; have HR129_10 := Aside0.mk hi129_10; have HC129_10 := Aside0.mk hl129_10; clear hi129_10 hl129_10; replace p129 := eq_true p129; replace q129 := eq_true q129))
    go_ret
    exact ⟨by first | rfl | (simp [errW_none, errW_some] <;> rfl) | (simp [*, errW_none, errW_some] <;> rfl), by repeat (first | (with_reducible first | exact HB.out | apply below_alloc | apply pw_below_drewN | apply below_drew1) | exact HB.out)⟩
   rw [if_neg c7] at H
   have c7b0 : decide (2305843009213693952 < ((rd_T38 l0 x3_1).f5)) = false := decide_eq_false c7
   clear c7
   by_cases c9 : ((rd_T38 l0 x3_1).f5) < (-2305843009213693952)
   ·rw [if_pos c9] at H
    have c9b0 : decide (((rd_T38 l0 x3_1).f5) < (-2305843009213693952)) = true := decide_eq_true c9
    clear c9
    obtain rfl := Option.some.inj H
    have p127 : 0 ≤ (x3_1 : Int) := of_decide_eq_true q7y0
    have q127 : x3_1 < (l0.length : Int) := of_decide_eq_true q7y0
    obtain ⟨ad127, A127_8, c127_8, A127_9, c127_9, A127_10, c127_10, e127, hx127_0, hx127_1, hx127_2, hx127_3, hx127_4, hx127_5, hx127_6, hx127_7, hx127_8, hx127_9, hx127_10, hl127_8, hi127_8, hl127_9, hi127_9, hl127_10, hi127_10⟩ := at_T38 HR0.out x3_1 p127 q127
    cases e127
    replace hx127_0 := (HB.out.cell (World.block_lt_of_cell? w _ hx127_0)).trans hx127_0
    replace hx127_1 := (HB.out.cell (World.block_lt_of_cell? w _ hx127_1)).trans hx127_1
    replace hx127_2 := (HB.out.cell (World.block_lt_of_cell? w _ hx127_2)).trans hx127_2
    replace hx127_3 := (HB.out.cell (World.block_lt_of_cell? w _ hx127_3)).trans hx127_3
    replace hx127_4 := (HB.out.cell (World.block_lt_of_cell? w _ hx127_4)).trans hx127_4
    replace hx127_5 := (HB.out.cell (World.block_lt_of_cell? w _ hx127_5)).trans hx127_5
    replace hx127_6 := (HB.out.cell (World.block_lt_of_cell? w _ hx127_6)).trans hx127_6
    replace hx127_7 := (HB.out.cell (World.block_lt_of_cell? w _ hx127_7)).trans hx127_7
    replace hx127_8 := (HB.out.cell (World.block_lt_of_cell? w _ hx127_8)).trans hx127_8
    replace hx127_9 := (HB.out.cell (World.block_lt_of_cell? w _ hx127_9)).trans hx127_9
    replace hx127_10 := (HB.out.cell (World.block_lt_of_cell? w _ hx127_10)).trans hx127_10
    have HR127_8 := Aside0.mk hi127_8
    have HC127_8 := Aside0.mk hl127_8
    clear hi127_8 hl127_8
    have HR127_9 := Aside0.mk hi127_9
    have HC127_9 := Aside0.mk hl127_9
    clear hi127_9 hl127_9
    have HR127_10 := Aside0.mk hi127_10
    have HC127_10 := Aside0.mk hl127_10
    clear hi127_10 hl127_10
    replace p127 := eq_true p127
    replace q127 := eq_true q127
    go_wp2_with (first | ((with_reducible refine gate_callee (f := 19) rfl ?_); refine goesL_ (some 17) rfl rfl Try.func19 (by kernel_rfl) rfl #[.agg #[.int .u64 ((rd_T38 l0 x3_1).f0), .int .u64 ((rd_T38 l0 x3_1).f1), .int .u64 ((rd_T38 l0 x3_1).f2), .string ((rd_T38 l0 x3_1).f3), .string ((rd_T38 l0 x3_1).f4), .int .i64 ((rd_T38 l0 x3_1).f5), .int .i64 ((rd_T38 l0 x3_1).f6), .int .i64 ((rd_T38 l0 x3_1).f7), .slice A127_8 ((rd_T38 l0 x3_1).f8).length c127_8, .slice A127_9 ((rd_T38 l0 x3_1).f9).length c127_9, .slice A127_10 ((rd_T38 l0 x3_1).f10).length c127_10]] rfl q7y1 ?_; (with_reducible refine (cambiumref16_Small.calls k1 ((rd_T38 l0 x3_1).f0) ((rd_T38 l0 x3_1).f1) ((rd_T38 l0 x3_1).f2) ((rd_T38 l0 x3_1).f3) ((rd_T38 l0 x3_1).f4) ((rd_T38 l0 x3_1).f5) ((rd_T38 l0 x3_1).f6) ((rd_T38 l0 x3_1).f7) _ _ ((rd_T38 l0 x3_1).f8) _ _ ((rd_T38 l0 x3_1).f9) _ _ ((rd_T38 l0 x3_1).f10) true _ ?side1 ?side2 ?side3 ?side4 ?side5 ?side6 A5.out).mono ?_); (case side1 => repeat (first | exact (Kd.C_below HR127_8.out HB.out) | (with_reducible refine Kd.C_alloc ?_ _) | (with_reducible refine Kd.C_drewN ?_ _) | (with_reducible refine Kd.C_drew ?_))); (case side2 => exact HC127_8.out); (case side3 => repeat (first | exact (Kd.C_below HR127_9.out HB.out) | (with_reducible refine Kd.C_alloc ?_ _) | (with_reducible refine Kd.C_drewN ?_ _) | (with_reducible refine Kd.C_drew ?_))); (case side4 => exact HC127_9.out); (case side5 => repeat (first | exact (Kd.C_below HR127_10.out HB.out) | (with_reducible refine Kd.C_alloc ?_ _) | (with_reducible refine Kd.C_drewN ?_ _) | (with_reducible refine Kd.C_drew ?_))); (case side6 => exact HC127_10.out); rintro e w10 ⟨rfl, hb⟩; refine ⟨_, rfl, ?_⟩; have n0_ := Aside0.mk (below_step q7y2 hb); clear HB; have HB := n0_; clear n0_; (try clear hb); (try clear hb2); (try clear hk); (try clear hi); have p129 : 0 ≤ (x3_1 : Int) := of_decide_eq_true q7y0; have q129 : x3_1 < (l0.length : Int) := of_decide_eq_true q7y0; obtain ⟨ad129, A129_8, c129_8, A129_9, c129_9, A129_10, c129_10, e129, hx129_0, hx129_1, hx129_2, hx129_3, hx129_4, hx129_5, hx129_6, hx129_7, hx129_8, hx129_9, hx129_10, hl129_8, hi129_8, hl129_9, hi129_9, hl129_10, hi129_10⟩ := at_T38 HR0.out x3_1 p129 q129; obtain rfl : ad127 = ad129 := (by injection e129); replace hx129_0 := (HB.out.cell (World.block_lt_of_cell? w _ hx129_0)).trans hx129_0; replace hx129_1 := (HB.out.cell (World.block_lt_of_cell? w _ hx129_1)).trans hx129_1; replace hx129_2 := (HB.out.cell (World.block_lt_of_cell? w _ hx129_2)).trans hx129_2; replace hx129_3 := (HB.out.cell (World.block_lt_of_cell? w _ hx129_3)).trans hx129_3; replace hx129_4 := (HB.out.cell (World.block_lt_of_cell? w _ hx129_4)).trans hx129_4; replace hx129_5 := (HB.out.cell (World.block_lt_of_cell? w _ hx129_5)).trans hx129_5; replace hx129_6 := (HB.out.cell (World.block_lt_of_cell? w _ hx129_6)).trans hx129_6; replace hx129_7 := (HB.out.cell (World.block_lt_of_cell? w _ hx129_7)).trans hx129_7; replace hx129_8 := (HB.out.cell (World.block_lt_of_cell? w _ hx129_8)).trans hx129_8; replace hx129_9 := (HB.out.cell (World.block_lt_of_cell? w _ hx129_9)).trans hx129_9; replace hx129_10 := (HB.out.cell (World.block_lt_of_cell? w _ hx129_10)).trans hx129_10; have HR129_8 := Aside0.mk hi129_8; have HC129_8 := Aside0.mk hl129_8; clear hi129_8 hl129_8; have HR129_9 := Aside0.mk hi129_9; have HC129_9 := Aside0.mk hl129_9; clear hi129_9 hl129_9; have HR129_10 := Aside0.mk hi129_10; have HC129_10 := Aside0.mk hl129_10; clear hi129_10 hl129_10; replace p129 := eq_true p129; replace q129 := eq_true q129; have p130 : 0 ≤ (x3_1 : Int) := of_decide_eq_true q7y0; have q130 : x3_1 < (l0.length : Int) := of_decide_eq_true q7y0; obtain ⟨ad130, A130_8, c130_8, A130_9, c130_9, A130_10, c130_10, e130, hx130_0, hx130_1, hx130_2, hx130_3, hx130_4, hx130_5, hx130_6, hx130_7, hx130_8, hx130_9, hx130_10, hl130_8, hi130_8, hl130_9, hi130_9, hl130_10, hi130_10⟩ := at_T38 HR0.out x3_1 p130 q130; obtain rfl : ad127 = ad130 := (by injection e130); replace hx130_0 := (HB.out.cell (World.block_lt_of_cell? w _ hx130_0)).trans hx130_0; replace hx130_1 := (HB.out.cell (World.block_lt_of_cell? w _ hx130_1)).trans hx130_1; replace hx130_2 := (HB.out.cell (World.block_lt_of_cell? w _ hx130_2)).trans hx130_2; replace hx130_3 := (HB.out.cell (World.block_lt_of_cell? w _ hx130_3)).trans hx130_3; replace hx130_4 := (HB.out.cell (World.block_lt_of_cell? w _ hx130_4)).trans hx130_4; replace hx130_5 := (HB.out.cell (World.block_lt_of_cell? w _ hx130_5)).trans hx130_5; replace hx130_6 := (HB.out.cell (World.block_lt_of_cell? w _ hx130_6)).trans hx130_6; replace hx130_7 := (HB.out.cell (World.block_lt_of_cell? w _ hx130_7)).trans hx130_7; replace hx130_8 := (HB.out.cell (World.block_lt_of_cell? w _ hx130_8)).trans hx130_8; replace hx130_9 := (HB.out.cell (World.block_lt_of_cell? w _ hx130_9)).trans hx130_9; replace hx130_10 := (HB.out.cell (World.block_lt_of_cell? w _ hx130_10)).trans hx130_10; have HR130_8 := Aside0.mk hi130_8; have HC130_8 := Aside0.mk hl130_8; clear hi130_8 hl130_8; have HR130_9 := Aside0.mk hi130_9; have HC130_9 := Aside0.mk hl130_9; clear hi130_9 hl130_9; have HR130_10 := Aside0.mk hi130_10; have HC130_10 := Aside0.mk hl130_10; clear hi130_10 hl130_10; replace p130 := eq_true p130; replace q130 := eq_true q130; have ea_ := Option.some.inj (hx129_8.symm.trans hx130_8); injection ea_ with ea_ en_ ec_; subst ea_; subst ec_; clear en_; have ea_ := Option.some.inj (hx129_9.symm.trans hx130_9); injection ea_ with ea_ en_ ec_; subst ea_; subst ec_; clear en_; have ea_ := Option.some.inj (hx129_10.symm.trans hx130_10); injection ea_ with ea_ en_ ec_; subst ea_; subst ec_; clear en_))
    go_ret
    exact ⟨by first | rfl | (simp [errW_none, errW_some] <;> rfl) | (simp [*, errW_none, errW_some] <;> rfl), by repeat (first | (with_reducible first | exact HB.out | apply below_alloc | apply pw_below_drewN | apply below_drew1) | exact HB.out)⟩
   rw [if_neg c9] at H
   have c9b0 : decide (((rd_T38 l0 x3_1).f5) < (-2305843009213693952)) = false := decide_eq_false c9
   clear c9
   by_cases c11 : ((rd_T38 l0 x3_1).f6) > 2305843009213693952
   ·rw [if_pos c11] at H
    have c11b0 : decide (2305843009213693952 < ((rd_T38 l0 x3_1).f6)) = true := decide_eq_true c11
    clear c11
    obtain rfl := Option.some.inj H
    have p127 : 0 ≤ (x3_1 : Int) := of_decide_eq_true q7y0
    have q127 : x3_1 < (l0.length : Int) := of_decide_eq_true q7y0
    obtain ⟨ad127, A127_8, c127_8, A127_9, c127_9, A127_10, c127_10, e127, hx127_0, hx127_1, hx127_2, hx127_3, hx127_4, hx127_5, hx127_6, hx127_7, hx127_8, hx127_9, hx127_10, hl127_8, hi127_8, hl127_9, hi127_9, hl127_10, hi127_10⟩ := at_T38 HR0.out x3_1 p127 q127
    cases e127
    replace hx127_0 := (HB.out.cell (World.block_lt_of_cell? w _ hx127_0)).trans hx127_0
    replace hx127_1 := (HB.out.cell (World.block_lt_of_cell? w _ hx127_1)).trans hx127_1
    replace hx127_2 := (HB.out.cell (World.block_lt_of_cell? w _ hx127_2)).trans hx127_2
    replace hx127_3 := (HB.out.cell (World.block_lt_of_cell? w _ hx127_3)).trans hx127_3
    replace hx127_4 := (HB.out.cell (World.block_lt_of_cell? w _ hx127_4)).trans hx127_4
    replace hx127_5 := (HB.out.cell (World.block_lt_of_cell? w _ hx127_5)).trans hx127_5
    replace hx127_6 := (HB.out.cell (World.block_lt_of_cell? w _ hx127_6)).trans hx127_6
    replace hx127_7 := (HB.out.cell (World.block_lt_of_cell? w _ hx127_7)).trans hx127_7
    replace hx127_8 := (HB.out.cell (World.block_lt_of_cell? w _ hx127_8)).trans hx127_8
    replace hx127_9 := (HB.out.cell (World.block_lt_of_cell? w _ hx127_9)).trans hx127_9
    replace hx127_10 := (HB.out.cell (World.block_lt_of_cell? w _ hx127_10)).trans hx127_10
    have HR127_8 := Aside0.mk hi127_8
    have HC127_8 := Aside0.mk hl127_8
    clear hi127_8 hl127_8
    have HR127_9 := Aside0.mk hi127_9
    have HC127_9 := Aside0.mk hl127_9
    clear hi127_9 hl127_9
    have HR127_10 := Aside0.mk hi127_10
    have HC127_10 := Aside0.mk hl127_10
    clear hi127_10 hl127_10
    replace p127 := eq_true p127
    replace q127 := eq_true q127
    go_wp2_with (first | ((with_reducible refine gate_callee (f := 19) rfl ?_); refine goesL_ (some 17) rfl rfl Try.func19 (by kernel_rfl) rfl #[.agg #[.int .u64 ((rd_T38 l0 x3_1).f0), .int .u64 ((rd_T38 l0 x3_1).f1), .int .u64 ((rd_T38 l0 x3_1).f2), .string ((rd_T38 l0 x3_1).f3), .string ((rd_T38 l0 x3_1).f4), .int .i64 ((rd_T38 l0 x3_1).f5), .int .i64 ((rd_T38 l0 x3_1).f6), .int .i64 ((rd_T38 l0 x3_1).f7), .slice A127_8 ((rd_T38 l0 x3_1).f8).length c127_8, .slice A127_9 ((rd_T38 l0 x3_1).f9).length c127_9, .slice A127_10 ((rd_T38 l0 x3_1).f10).length c127_10]] rfl q7y1 ?_; (with_reducible refine (cambiumref16_Small.calls k1 ((rd_T38 l0 x3_1).f0) ((rd_T38 l0 x3_1).f1) ((rd_T38 l0 x3_1).f2) ((rd_T38 l0 x3_1).f3) ((rd_T38 l0 x3_1).f4) ((rd_T38 l0 x3_1).f5) ((rd_T38 l0 x3_1).f6) ((rd_T38 l0 x3_1).f7) _ _ ((rd_T38 l0 x3_1).f8) _ _ ((rd_T38 l0 x3_1).f9) _ _ ((rd_T38 l0 x3_1).f10) true _ ?side1 ?side2 ?side3 ?side4 ?side5 ?side6 A5.out).mono ?_); (case side1 => repeat (first | exact (Kd.C_below HR127_8.out HB.out) | (with_reducible refine Kd.C_alloc ?_ _) | (with_reducible refine Kd.C_drewN ?_ _) | (with_reducible refine Kd.C_drew ?_))); (case side2 => exact HC127_8.out); (case side3 => repeat (first | exact (Kd.C_below HR127_9.out HB.out) | (with_reducible refine Kd.C_alloc ?_ _) | (with_reducible refine Kd.C_drewN ?_ _) | (with_reducible refine Kd.C_drew ?_))); (case side4 => exact HC127_9.out); (case side5 => repeat (first | exact (Kd.C_below HR127_10.out HB.out) | (with_reducible refine Kd.C_alloc ?_ _) | (with_reducible refine Kd.C_drewN ?_ _) | (with_reducible refine Kd.C_drew ?_))); (case side6 => exact HC127_10.out); rintro e w12 ⟨rfl, hb⟩; refine ⟨_, rfl, ?_⟩; have n0_ := Aside0.mk (below_step q7y2 hb); clear HB; have HB := n0_; clear n0_; (try clear hb); (try clear hb2); (try clear hk); (try clear hi); have p129 : 0 ≤ (x3_1 : Int) := of_decide_eq_true q7y0; have q129 : x3_1 < (l0.length : Int) := of_decide_eq_true q7y0; obtain ⟨ad129, A129_8, c129_8, A129_9, c129_9, A129_10, c129_10, e129, hx129_0, hx129_1, hx129_2, hx129_3, hx129_4, hx129_5, hx129_6, hx129_7, hx129_8, hx129_9, hx129_10, hl129_8, hi129_8, hl129_9, hi129_9, hl129_10, hi129_10⟩ := at_T38 HR0.out x3_1 p129 q129; obtain rfl : ad127 = ad129 := (by injection e129); replace hx129_0 := (HB.out.cell (World.block_lt_of_cell? w _ hx129_0)).trans hx129_0; replace hx129_1 := (HB.out.cell (World.block_lt_of_cell? w _ hx129_1)).trans hx129_1; replace hx129_2 := (HB.out.cell (World.block_lt_of_cell? w _ hx129_2)).trans hx129_2; replace hx129_3 := (HB.out.cell (World.block_lt_of_cell? w _ hx129_3)).trans hx129_3; replace hx129_4 := (HB.out.cell (World.block_lt_of_cell? w _ hx129_4)).trans hx129_4; replace hx129_5 := (HB.out.cell (World.block_lt_of_cell? w _ hx129_5)).trans hx129_5; replace hx129_6 := (HB.out.cell (World.block_lt_of_cell? w _ hx129_6)).trans hx129_6; replace hx129_7 := (HB.out.cell (World.block_lt_of_cell? w _ hx129_7)).trans hx129_7; replace hx129_8 := (HB.out.cell (World.block_lt_of_cell? w _ hx129_8)).trans hx129_8; replace hx129_9 := (HB.out.cell (World.block_lt_of_cell? w _ hx129_9)).trans hx129_9; replace hx129_10 := (HB.out.cell (World.block_lt_of_cell? w _ hx129_10)).trans hx129_10; have HR129_8 := Aside0.mk hi129_8; have HC129_8 := Aside0.mk hl129_8; clear hi129_8 hl129_8; have HR129_9 := Aside0.mk hi129_9; have HC129_9 := Aside0.mk hl129_9; clear hi129_9 hl129_9; have HR129_10 := Aside0.mk hi129_10; have HC129_10 := Aside0.mk hl129_10; clear hi129_10 hl129_10; replace p129 := eq_true p129; replace q129 := eq_true q129; have p130 : 0 ≤ (x3_1 : Int) := of_decide_eq_true q7y0; have q130 : x3_1 < (l0.length : Int) := of_decide_eq_true q7y0; obtain ⟨ad130, A130_8, c130_8, A130_9, c130_9, A130_10, c130_10, e130, hx130_0, hx130_1, hx130_2, hx130_3, hx130_4, hx130_5, hx130_6, hx130_7, hx130_8, hx130_9, hx130_10, hl130_8, hi130_8, hl130_9, hi130_9, hl130_10, hi130_10⟩ := at_T38 HR0.out x3_1 p130 q130; obtain rfl : ad127 = ad130 := (by injection e130); replace hx130_0 := (HB.out.cell (World.block_lt_of_cell? w _ hx130_0)).trans hx130_0; replace hx130_1 := (HB.out.cell (World.block_lt_of_cell? w _ hx130_1)).trans hx130_1; replace hx130_2 := (HB.out.cell (World.block_lt_of_cell? w _ hx130_2)).trans hx130_2; replace hx130_3 := (HB.out.cell (World.block_lt_of_cell? w _ hx130_3)).trans hx130_3; replace hx130_4 := (HB.out.cell (World.block_lt_of_cell? w _ hx130_4)).trans hx130_4; replace hx130_5 := (HB.out.cell (World.block_lt_of_cell? w _ hx130_5)).trans hx130_5; replace hx130_6 := (HB.out.cell (World.block_lt_of_cell? w _ hx130_6)).trans hx130_6; replace hx130_7 := (HB.out.cell (World.block_lt_of_cell? w _ hx130_7)).trans hx130_7; replace hx130_8 := (HB.out.cell (World.block_lt_of_cell? w _ hx130_8)).trans hx130_8; replace hx130_9 := (HB.out.cell (World.block_lt_of_cell? w _ hx130_9)).trans hx130_9; replace hx130_10 := (HB.out.cell (World.block_lt_of_cell? w _ hx130_10)).trans hx130_10; have HR130_8 := Aside0.mk hi130_8; have HC130_8 := Aside0.mk hl130_8; clear hi130_8 hl130_8; have HR130_9 := Aside0.mk hi130_9; have HC130_9 := Aside0.mk hl130_9; clear hi130_9 hl130_9; have HR130_10 := Aside0.mk hi130_10; have HC130_10 := Aside0.mk hl130_10; clear hi130_10 hl130_10; replace p130 := eq_true p130; replace q130 := eq_true q130; have ea_ := Option.some.inj (hx129_8.symm.trans hx130_8); injection ea_ with ea_ en_ ec_; subst ea_; subst ec_; clear en_; have ea_ := Option.some.inj (hx129_9.symm.trans hx130_9); injection ea_ with ea_ en_ ec_; subst ea_; subst ec_; clear en_; have ea_ := Option.some.inj (hx129_10.symm.trans hx130_10); injection ea_ with ea_ en_ ec_; subst ea_; subst ec_; clear en_; have p131 : 0 ≤ (x3_1 : Int) := of_decide_eq_true q7y0; have q131 : x3_1 < (l0.length : Int) := of_decide_eq_true q7y0; obtain ⟨ad131, A131_8, c131_8, A131_9, c131_9, A131_10, c131_10, e131, hx131_0, hx131_1, hx131_2, hx131_3, hx131_4, hx131_5, hx131_6, hx131_7, hx131_8, hx131_9, hx131_10, hl131_8, hi131_8, hl131_9, hi131_9, hl131_10, hi131_10⟩ := at_T38 HR0.out x3_1 p131 q131; obtain rfl : ad127 = ad131 := (by injection e131); replace hx131_0 := (HB.out.cell (World.block_lt_of_cell? w _ hx131_0)).trans hx131_0; replace hx131_1 := (HB.out.cell (World.block_lt_of_cell? w _ hx131_1)).trans hx131_1; replace hx131_2 := (HB.out.cell (World.block_lt_of_cell? w _ hx131_2)).trans hx131_2; replace hx131_3 := (HB.out.cell (World.block_lt_of_cell? w _ hx131_3)).trans hx131_3; replace hx131_4 := (HB.out.cell (World.block_lt_of_cell? w _ hx131_4)).trans hx131_4; replace hx131_5 := (HB.out.cell (World.block_lt_of_cell? w _ hx131_5)).trans hx131_5; replace hx131_6 := (HB.out.cell (World.block_lt_of_cell? w _ hx131_6)).trans hx131_6; replace hx131_7 := (HB.out.cell (World.block_lt_of_cell? w _ hx131_7)).trans hx131_7; replace hx131_8 := (HB.out.cell (World.block_lt_of_cell? w _ hx131_8)).trans hx131_8; replace hx131_9 := (HB.out.cell (World.block_lt_of_cell? w _ hx131_9)).trans hx131_9; replace hx131_10 := (HB.out.cell (World.block_lt_of_cell? w _ hx131_10)).trans hx131_10; have HR131_8 := Aside0.mk hi131_8; have HC131_8 := Aside0.mk hl131_8; clear hi131_8 hl131_8; have HR131_9 := Aside0.mk hi131_9; have HC131_9 := Aside0.mk hl131_9; clear hi131_9 hl131_9; have HR131_10 := Aside0.mk hi131_10; have HC131_10 := Aside0.mk hl131_10; clear hi131_10 hl131_10; replace p131 := eq_true p131; replace q131 := eq_true q131; have ea_ := Option.some.inj (hx129_8.symm.trans hx131_8); injection ea_ with ea_ en_ ec_; subst ea_; subst ec_; clear en_; have ea_ := Option.some.inj (hx129_9.symm.trans hx131_9); injection ea_ with ea_ en_ ec_; subst ea_; subst ec_; clear en_; have ea_ := Option.some.inj (hx129_10.symm.trans hx131_10); injection ea_ with ea_ en_ ec_; subst ea_; subst ec_; clear en_))
    go_ret
    exact ⟨by first | rfl | (simp [errW_none, errW_some] <;> rfl) | (simp [*, errW_none, errW_some] <;> rfl), by repeat (first | (with_reducible first | exact HB.out | apply below_alloc | apply pw_below_drewN | apply below_drew1) | exact HB.out)⟩
   rw [if_neg c11] at H
   have c11b0 : decide (2305843009213693952 < ((rd_T38 l0 x3_1).f6)) = false := decide_eq_false c11
   clear c11
   by_cases c13 : ((rd_T38 l0 x3_1).f6) < (-2305843009213693952)
   ·rw [if_pos c13] at H
    have c13b0 : decide (((rd_T38 l0 x3_1).f6) < (-2305843009213693952)) = true := decide_eq_true c13
    clear c13
    obtain rfl := Option.some.inj H
    have p127 : 0 ≤ (x3_1 : Int) := of_decide_eq_true q7y0
    have q127 : x3_1 < (l0.length : Int) := of_decide_eq_true q7y0
    obtain ⟨ad127, A127_8, c127_8, A127_9, c127_9, A127_10, c127_10, e127, hx127_0, hx127_1, hx127_2, hx127_3, hx127_4, hx127_5, hx127_6, hx127_7, hx127_8, hx127_9, hx127_10, hl127_8, hi127_8, hl127_9, hi127_9, hl127_10, hi127_10⟩ := at_T38 HR0.out x3_1 p127 q127
    cases e127
    replace hx127_0 := (HB.out.cell (World.block_lt_of_cell? w _ hx127_0)).trans hx127_0
    replace hx127_1 := (HB.out.cell (World.block_lt_of_cell? w _ hx127_1)).trans hx127_1
    replace hx127_2 := (HB.out.cell (World.block_lt_of_cell? w _ hx127_2)).trans hx127_2
    replace hx127_3 := (HB.out.cell (World.block_lt_of_cell? w _ hx127_3)).trans hx127_3
    replace hx127_4 := (HB.out.cell (World.block_lt_of_cell? w _ hx127_4)).trans hx127_4
    replace hx127_5 := (HB.out.cell (World.block_lt_of_cell? w _ hx127_5)).trans hx127_5
    replace hx127_6 := (HB.out.cell (World.block_lt_of_cell? w _ hx127_6)).trans hx127_6
    replace hx127_7 := (HB.out.cell (World.block_lt_of_cell? w _ hx127_7)).trans hx127_7
    replace hx127_8 := (HB.out.cell (World.block_lt_of_cell? w _ hx127_8)).trans hx127_8
    replace hx127_9 := (HB.out.cell (World.block_lt_of_cell? w _ hx127_9)).trans hx127_9
    replace hx127_10 := (HB.out.cell (World.block_lt_of_cell? w _ hx127_10)).trans hx127_10
    have HR127_8 := Aside0.mk hi127_8
    have HC127_8 := Aside0.mk hl127_8
    clear hi127_8 hl127_8
    have HR127_9 := Aside0.mk hi127_9
    have HC127_9 := Aside0.mk hl127_9
    clear hi127_9 hl127_9
    have HR127_10 := Aside0.mk hi127_10
    have HC127_10 := Aside0.mk hl127_10
    clear hi127_10 hl127_10
    replace p127 := eq_true p127
    replace q127 := eq_true q127
    go_wp2_with (first | ((with_reducible refine gate_callee (f := 19) rfl ?_); refine goesL_ (some 17) rfl rfl Try.func19 (by kernel_rfl) rfl #[.agg #[.int .u64 ((rd_T38 l0 x3_1).f0), .int .u64 ((rd_T38 l0 x3_1).f1), .int .u64 ((rd_T38 l0 x3_1).f2), .string ((rd_T38 l0 x3_1).f3), .string ((rd_T38 l0 x3_1).f4), .int .i64 ((rd_T38 l0 x3_1).f5), .int .i64 ((rd_T38 l0 x3_1).f6), .int .i64 ((rd_T38 l0 x3_1).f7), .slice A127_8 ((rd_T38 l0 x3_1).f8).length c127_8, .slice A127_9 ((rd_T38 l0 x3_1).f9).length c127_9, .slice A127_10 ((rd_T38 l0 x3_1).f10).length c127_10]] rfl q7y1 ?_; (with_reducible refine (cambiumref16_Small.calls k1 ((rd_T38 l0 x3_1).f0) ((rd_T38 l0 x3_1).f1) ((rd_T38 l0 x3_1).f2) ((rd_T38 l0 x3_1).f3) ((rd_T38 l0 x3_1).f4) ((rd_T38 l0 x3_1).f5) ((rd_T38 l0 x3_1).f6) ((rd_T38 l0 x3_1).f7) _ _ ((rd_T38 l0 x3_1).f8) _ _ ((rd_T38 l0 x3_1).f9) _ _ ((rd_T38 l0 x3_1).f10) true _ ?side1 ?side2 ?side3 ?side4 ?side5 ?side6 A5.out).mono ?_); (case side1 => repeat (first | exact (Kd.C_below HR127_8.out HB.out) | (with_reducible refine Kd.C_alloc ?_ _) | (with_reducible refine Kd.C_drewN ?_ _) | (with_reducible refine Kd.C_drew ?_))); (case side2 => exact HC127_8.out); (case side3 => repeat (first | exact (Kd.C_below HR127_9.out HB.out) | (with_reducible refine Kd.C_alloc ?_ _) | (with_reducible refine Kd.C_drewN ?_ _) | (with_reducible refine Kd.C_drew ?_))); (case side4 => exact HC127_9.out); (case side5 => repeat (first | exact (Kd.C_below HR127_10.out HB.out) | (with_reducible refine Kd.C_alloc ?_ _) | (with_reducible refine Kd.C_drewN ?_ _) | (with_reducible refine Kd.C_drew ?_))); (case side6 => exact HC127_10.out); rintro e w14 ⟨rfl, hb⟩; refine ⟨_, rfl, ?_⟩; have n0_ := Aside0.mk (below_step q7y2 hb); clear HB; have HB := n0_; clear n0_; (try clear hb); (try clear hb2); (try clear hk); (try clear hi); have p129 : 0 ≤ (x3_1 : Int) := of_decide_eq_true q7y0; have q129 : x3_1 < (l0.length : Int) := of_decide_eq_true q7y0; obtain ⟨ad129, A129_8, c129_8, A129_9, c129_9, A129_10, c129_10, e129, hx129_0, hx129_1, hx129_2, hx129_3, hx129_4, hx129_5, hx129_6, hx129_7, hx129_8, hx129_9, hx129_10, hl129_8, hi129_8, hl129_9, hi129_9, hl129_10, hi129_10⟩ := at_T38 HR0.out x3_1 p129 q129; obtain rfl : ad127 = ad129 := (by injection e129); replace hx129_0 := (HB.out.cell (World.block_lt_of_cell? w _ hx129_0)).trans hx129_0; replace hx129_1 := (HB.out.cell (World.block_lt_of_cell? w _ hx129_1)).trans hx129_1; replace hx129_2 := (HB.out.cell (World.block_lt_of_cell? w _ hx129_2)).trans hx129_2; replace hx129_3 := (HB.out.cell (World.block_lt_of_cell? w _ hx129_3)).trans hx129_3; replace hx129_4 := (HB.out.cell (World.block_lt_of_cell? w _ hx129_4)).trans hx129_4; replace hx129_5 := (HB.out.cell (World.block_lt_of_cell? w _ hx129_5)).trans hx129_5; replace hx129_6 := (HB.out.cell (World.block_lt_of_cell? w _ hx129_6)).trans hx129_6; replace hx129_7 := (HB.out.cell (World.block_lt_of_cell? w _ hx129_7)).trans hx129_7; replace hx129_8 := (HB.out.cell (World.block_lt_of_cell? w _ hx129_8)).trans hx129_8; replace hx129_9 := (HB.out.cell (World.block_lt_of_cell? w _ hx129_9)).trans hx129_9; replace hx129_10 := (HB.out.cell (World.block_lt_of_cell? w _ hx129_10)).trans hx129_10; have HR129_8 := Aside0.mk hi129_8; have HC129_8 := Aside0.mk hl129_8; clear hi129_8 hl129_8; have HR129_9 := Aside0.mk hi129_9; have HC129_9 := Aside0.mk hl129_9; clear hi129_9 hl129_9; have HR129_10 := Aside0.mk hi129_10; have HC129_10 := Aside0.mk hl129_10; clear hi129_10 hl129_10; replace p129 := eq_true p129; replace q129 := eq_true q129; have p130 : 0 ≤ (x3_1 : Int) := of_decide_eq_true q7y0; have q130 : x3_1 < (l0.length : Int) := of_decide_eq_true q7y0; obtain ⟨ad130, A130_8, c130_8, A130_9, c130_9, A130_10, c130_10, e130, hx130_0, hx130_1, hx130_2, hx130_3, hx130_4, hx130_5, hx130_6, hx130_7, hx130_8, hx130_9, hx130_10, hl130_8, hi130_8, hl130_9, hi130_9, hl130_10, hi130_10⟩ := at_T38 HR0.out x3_1 p130 q130; obtain rfl : ad127 = ad130 := (by injection e130); replace hx130_0 := (HB.out.cell (World.block_lt_of_cell? w _ hx130_0)).trans hx130_0; replace hx130_1 := (HB.out.cell (World.block_lt_of_cell? w _ hx130_1)).trans hx130_1; replace hx130_2 := (HB.out.cell (World.block_lt_of_cell? w _ hx130_2)).trans hx130_2; replace hx130_3 := (HB.out.cell (World.block_lt_of_cell? w _ hx130_3)).trans hx130_3; replace hx130_4 := (HB.out.cell (World.block_lt_of_cell? w _ hx130_4)).trans hx130_4; replace hx130_5 := (HB.out.cell (World.block_lt_of_cell? w _ hx130_5)).trans hx130_5; replace hx130_6 := (HB.out.cell (World.block_lt_of_cell? w _ hx130_6)).trans hx130_6; replace hx130_7 := (HB.out.cell (World.block_lt_of_cell? w _ hx130_7)).trans hx130_7; replace hx130_8 := (HB.out.cell (World.block_lt_of_cell? w _ hx130_8)).trans hx130_8; replace hx130_9 := (HB.out.cell (World.block_lt_of_cell? w _ hx130_9)).trans hx130_9; replace hx130_10 := (HB.out.cell (World.block_lt_of_cell? w _ hx130_10)).trans hx130_10; have HR130_8 := Aside0.mk hi130_8; have HC130_8 := Aside0.mk hl130_8; clear hi130_8 hl130_8; have HR130_9 := Aside0.mk hi130_9; have HC130_9 := Aside0.mk hl130_9; clear hi130_9 hl130_9; have HR130_10 := Aside0.mk hi130_10; have HC130_10 := Aside0.mk hl130_10; clear hi130_10 hl130_10; replace p130 := eq_true p130; replace q130 := eq_true q130; have ea_ := Option.some.inj (hx129_8.symm.trans hx130_8); injection ea_ with ea_ en_ ec_; subst ea_; subst ec_; clear en_; have ea_ := Option.some.inj (hx129_9.symm.trans hx130_9); injection ea_ with ea_ en_ ec_; subst ea_; subst ec_; clear en_; have ea_ := Option.some.inj (hx129_10.symm.trans hx130_10); injection ea_ with ea_ en_ ec_; subst ea_; subst ec_; clear en_; have p131 : 0 ≤ (x3_1 : Int) := of_decide_eq_true q7y0; have q131 : x3_1 < (l0.length : Int) := of_decide_eq_true q7y0; obtain ⟨ad131, A131_8, c131_8, A131_9, c131_9, A131_10, c131_10, e131, hx131_0, hx131_1, hx131_2, hx131_3, hx131_4, hx131_5, hx131_6, hx131_7, hx131_8, hx131_9, hx131_10, hl131_8, hi131_8, hl131_9, hi131_9, hl131_10, hi131_10⟩ := at_T38 HR0.out x3_1 p131 q131; obtain rfl : ad127 = ad131 := (by injection e131); replace hx131_0 := (HB.out.cell (World.block_lt_of_cell? w _ hx131_0)).trans hx131_0; replace hx131_1 := (HB.out.cell (World.block_lt_of_cell? w _ hx131_1)).trans hx131_1; replace hx131_2 := (HB.out.cell (World.block_lt_of_cell? w _ hx131_2)).trans hx131_2; replace hx131_3 := (HB.out.cell (World.block_lt_of_cell? w _ hx131_3)).trans hx131_3; replace hx131_4 := (HB.out.cell (World.block_lt_of_cell? w _ hx131_4)).trans hx131_4; replace hx131_5 := (HB.out.cell (World.block_lt_of_cell? w _ hx131_5)).trans hx131_5; replace hx131_6 := (HB.out.cell (World.block_lt_of_cell? w _ hx131_6)).trans hx131_6; replace hx131_7 := (HB.out.cell (World.block_lt_of_cell? w _ hx131_7)).trans hx131_7; replace hx131_8 := (HB.out.cell (World.block_lt_of_cell? w _ hx131_8)).trans hx131_8; replace hx131_9 := (HB.out.cell (World.block_lt_of_cell? w _ hx131_9)).trans hx131_9; replace hx131_10 := (HB.out.cell (World.block_lt_of_cell? w _ hx131_10)).trans hx131_10; have HR131_8 := Aside0.mk hi131_8; have HC131_8 := Aside0.mk hl131_8; clear hi131_8 hl131_8; have HR131_9 := Aside0.mk hi131_9; have HC131_9 := Aside0.mk hl131_9; clear hi131_9 hl131_9; have HR131_10 := Aside0.mk hi131_10; have HC131_10 := Aside0.mk hl131_10; clear hi131_10 hl131_10; replace p131 := eq_true p131; replace q131 := eq_true q131; have ea_ := Option.some.inj (hx129_8.symm.trans hx131_8); injection ea_ with ea_ en_ ec_; subst ea_; subst ec_; clear en_; have ea_ := Option.some.inj (hx129_9.symm.trans hx131_9); injection ea_ with ea_ en_ ec_; subst ea_; subst ec_; clear en_; have ea_ := Option.some.inj (hx129_10.symm.trans hx131_10); injection ea_ with ea_ en_ ec_; subst ea_; subst ec_; clear en_; have p132 : 0 ≤ (x3_1 : Int) := of_decide_eq_true q7y0; have q132 : x3_1 < (l0.length : Int) := of_decide_eq_true q7y0; obtain ⟨ad132, A132_8, c132_8, A132_9, c132_9, A132_10, c132_10, e132, hx132_0, hx132_1, hx132_2, hx132_3, hx132_4, hx132_5, hx132_6, hx132_7, hx132_8, hx132_9, hx132_10, hl132_8, hi132_8, hl132_9, hi132_9, hl132_10, hi132_10⟩ := at_T38 HR0.out x3_1 p132 q132; obtain rfl : ad127 = ad132 := (by injection e132); replace hx132_0 := (HB.out.cell (World.block_lt_of_cell? w _ hx132_0)).trans hx132_0; replace hx132_1 := (HB.out.cell (World.block_lt_of_cell? w _ hx132_1)).trans hx132_1; replace hx132_2 := (HB.out.cell (World.block_lt_of_cell? w _ hx132_2)).trans hx132_2; replace hx132_3 := (HB.out.cell (World.block_lt_of_cell? w _ hx132_3)).trans hx132_3; replace hx132_4 := (HB.out.cell (World.block_lt_of_cell? w _ hx132_4)).trans hx132_4; replace hx132_5 := (HB.out.cell (World.block_lt_of_cell? w _ hx132_5)).trans hx132_5; replace hx132_6 := (HB.out.cell (World.block_lt_of_cell? w _ hx132_6)).trans hx132_6; replace hx132_7 := (HB.out.cell (World.block_lt_of_cell? w _ hx132_7)).trans hx132_7; replace hx132_8 := (HB.out.cell (World.block_lt_of_cell? w _ hx132_8)).trans hx132_8; replace hx132_9 := (HB.out.cell (World.block_lt_of_cell? w _ hx132_9)).trans hx132_9; replace hx132_10 := (HB.out.cell (World.block_lt_of_cell? w _ hx132_10)).trans hx132_10; have HR132_8 := Aside0.mk hi132_8; have HC132_8 := Aside0.mk hl132_8; clear hi132_8 hl132_8; have HR132_9 := Aside0.mk hi132_9; have HC132_9 := Aside0.mk hl132_9; clear hi132_9 hl132_9; have HR132_10 := Aside0.mk hi132_10; have HC132_10 := Aside0.mk hl132_10; clear hi132_10 hl132_10; replace p132 := eq_true p132; replace q132 := eq_true q132; have ea_ := Option.some.inj (hx129_8.symm.trans hx132_8); injection ea_ with ea_ en_ ec_; subst ea_; subst ec_; clear en_; have ea_ := Option.some.inj (hx129_9.symm.trans hx132_9); injection ea_ with ea_ en_ ec_; subst ea_; subst ec_; clear en_; have ea_ := Option.some.inj (hx129_10.symm.trans hx132_10); injection ea_ with ea_ en_ ec_; subst ea_; subst ec_; clear en_))
    go_ret
    exact ⟨by first | rfl | (simp [errW_none, errW_some] <;> rfl) | (simp [*, errW_none, errW_some] <;> rfl), by repeat (first | (with_reducible first | exact HB.out | apply below_alloc | apply pw_below_drewN | apply below_drew1) | exact HB.out)⟩
   rw [if_neg c13] at H
   have c13b0 : decide (((rd_T38 l0 x3_1).f6) < (-2305843009213693952)) = false := decide_eq_false c13
   clear c13
   have H' := Aside0.mk H
   clear H
   have p127 : 0 ≤ (x3_1 : Int) := of_decide_eq_true q7y0
   have q127 : x3_1 < (l0.length : Int) := of_decide_eq_true q7y0
   obtain ⟨ad127, A127_8, c127_8, A127_9, c127_9, A127_10, c127_10, e127, hx127_0, hx127_1, hx127_2, hx127_3, hx127_4, hx127_5, hx127_6, hx127_7, hx127_8, hx127_9, hx127_10, hl127_8, hi127_8, hl127_9, hi127_9, hl127_10, hi127_10⟩ := at_T38 HR0.out x3_1 p127 q127
   cases e127
   replace hx127_0 := (HB.out.cell (World.block_lt_of_cell? w _ hx127_0)).trans hx127_0
   replace hx127_1 := (HB.out.cell (World.block_lt_of_cell? w _ hx127_1)).trans hx127_1
   replace hx127_2 := (HB.out.cell (World.block_lt_of_cell? w _ hx127_2)).trans hx127_2
   replace hx127_3 := (HB.out.cell (World.block_lt_of_cell? w _ hx127_3)).trans hx127_3
   replace hx127_4 := (HB.out.cell (World.block_lt_of_cell? w _ hx127_4)).trans hx127_4
   replace hx127_5 := (HB.out.cell (World.block_lt_of_cell? w _ hx127_5)).trans hx127_5
   replace hx127_6 := (HB.out.cell (World.block_lt_of_cell? w _ hx127_6)).trans hx127_6
   replace hx127_7 := (HB.out.cell (World.block_lt_of_cell? w _ hx127_7)).trans hx127_7
   replace hx127_8 := (HB.out.cell (World.block_lt_of_cell? w _ hx127_8)).trans hx127_8
   replace hx127_9 := (HB.out.cell (World.block_lt_of_cell? w _ hx127_9)).trans hx127_9
   replace hx127_10 := (HB.out.cell (World.block_lt_of_cell? w _ hx127_10)).trans hx127_10
   have HR127_8 := Aside0.mk hi127_8
   have HC127_8 := Aside0.mk hl127_8
   clear hi127_8 hl127_8
   have HR127_9 := Aside0.mk hi127_9
   have HC127_9 := Aside0.mk hl127_9
   clear hi127_9 hl127_9
   have HR127_10 := Aside0.mk hi127_10
   have HC127_10 := Aside0.mk hl127_10
   clear hi127_10 hl127_10
   replace p127 := eq_true p127
   replace q127 := eq_true q127
   go_wp2_with (first | ((with_reducible refine gate_callee (f := 19) rfl ?_); refine goesL_ (some 17) rfl rfl Try.func19 (by kernel_rfl) rfl #[.agg #[.int .u64 ((rd_T38 l0 x3_1).f0), .int .u64 ((rd_T38 l0 x3_1).f1), .int .u64 ((rd_T38 l0 x3_1).f2), .string ((rd_T38 l0 x3_1).f3), .string ((rd_T38 l0 x3_1).f4), .int .i64 ((rd_T38 l0 x3_1).f5), .int .i64 ((rd_T38 l0 x3_1).f6), .int .i64 ((rd_T38 l0 x3_1).f7), .slice A127_8 ((rd_T38 l0 x3_1).f8).length c127_8, .slice A127_9 ((rd_T38 l0 x3_1).f9).length c127_9, .slice A127_10 ((rd_T38 l0 x3_1).f10).length c127_10]] rfl q7y1 ?_; (with_reducible refine (cambiumref16_Small.calls k1 ((rd_T38 l0 x3_1).f0) ((rd_T38 l0 x3_1).f1) ((rd_T38 l0 x3_1).f2) ((rd_T38 l0 x3_1).f3) ((rd_T38 l0 x3_1).f4) ((rd_T38 l0 x3_1).f5) ((rd_T38 l0 x3_1).f6) ((rd_T38 l0 x3_1).f7) _ _ ((rd_T38 l0 x3_1).f8) _ _ ((rd_T38 l0 x3_1).f9) _ _ ((rd_T38 l0 x3_1).f10) true _ ?side1 ?side2 ?side3 ?side4 ?side5 ?side6 A5.out).mono ?_); (case side1 => repeat (first | exact (Kd.C_below HR127_8.out HB.out) | (with_reducible refine Kd.C_alloc ?_ _) | (with_reducible refine Kd.C_drewN ?_ _) | (with_reducible refine Kd.C_drew ?_))); (case side2 => exact HC127_8.out); (case side3 => repeat (first | exact (Kd.C_below HR127_9.out HB.out) | (with_reducible refine Kd.C_alloc ?_ _) | (with_reducible refine Kd.C_drewN ?_ _) | (with_reducible refine Kd.C_drew ?_))); (case side4 => exact HC127_9.out); (case side5 => repeat (first | exact (Kd.C_below HR127_10.out HB.out) | (with_reducible refine Kd.C_alloc ?_ _) | (with_reducible refine Kd.C_drewN ?_ _) | (with_reducible refine Kd.C_drew ?_))); (case side6 => exact HC127_10.out); rintro e w15 ⟨rfl, hb⟩; refine ⟨_, rfl, ?_⟩; have n0_ := Aside0.mk (below_step q7y2 hb); clear HB; have HB := n0_; clear n0_; (try clear hb); (try clear hb2); (try clear hk); (try clear hi); have p129 : 0 ≤ (x3_1 : Int) := of_decide_eq_true q7y0; have q129 : x3_1 < (l0.length : Int) := of_decide_eq_true q7y0; obtain ⟨ad129, A129_8, c129_8, A129_9, c129_9, A129_10, c129_10, e129, hx129_0, hx129_1, hx129_2, hx129_3, hx129_4, hx129_5, hx129_6, hx129_7, hx129_8, hx129_9, hx129_10, hl129_8, hi129_8, hl129_9, hi129_9, hl129_10, hi129_10⟩ := at_T38 HR0.out x3_1 p129 q129; obtain rfl : ad127 = ad129 := (by injection e129); replace hx129_0 := (HB.out.cell (World.block_lt_of_cell? w _ hx129_0)).trans hx129_0; replace hx129_1 := (HB.out.cell (World.block_lt_of_cell? w _ hx129_1)).trans hx129_1; replace hx129_2 := (HB.out.cell (World.block_lt_of_cell? w _ hx129_2)).trans hx129_2; replace hx129_3 := (HB.out.cell (World.block_lt_of_cell? w _ hx129_3)).trans hx129_3; replace hx129_4 := (HB.out.cell (World.block_lt_of_cell? w _ hx129_4)).trans hx129_4; replace hx129_5 := (HB.out.cell (World.block_lt_of_cell? w _ hx129_5)).trans hx129_5; replace hx129_6 := (HB.out.cell (World.block_lt_of_cell? w _ hx129_6)).trans hx129_6; replace hx129_7 := (HB.out.cell (World.block_lt_of_cell? w _ hx129_7)).trans hx129_7; replace hx129_8 := (HB.out.cell (World.block_lt_of_cell? w _ hx129_8)).trans hx129_8; replace hx129_9 := (HB.out.cell (World.block_lt_of_cell? w _ hx129_9)).trans hx129_9; replace hx129_10 := (HB.out.cell (World.block_lt_of_cell? w _ hx129_10)).trans hx129_10; have HR129_8 := Aside0.mk hi129_8; have HC129_8 := Aside0.mk hl129_8; clear hi129_8 hl129_8; have HR129_9 := Aside0.mk hi129_9; have HC129_9 := Aside0.mk hl129_9; clear hi129_9 hl129_9; have HR129_10 := Aside0.mk hi129_10; have HC129_10 := Aside0.mk hl129_10; clear hi129_10 hl129_10; replace p129 := eq_true p129; replace q129 := eq_true q129; have p130 : 0 ≤ (x3_1 : Int) := of_decide_eq_true q7y0; have q130 : x3_1 < (l0.length : Int) := of_decide_eq_true q7y0; obtain ⟨ad130, A130_8, c130_8, A130_9, c130_9, A130_10, c130_10, e130, hx130_0, hx130_1, hx130_2, hx130_3, hx130_4, hx130_5, hx130_6, hx130_7, hx130_8, hx130_9, hx130_10, hl130_8, hi130_8, hl130_9, hi130_9, hl130_10, hi130_10⟩ := at_T38 HR0.out x3_1 p130 q130; obtain rfl : ad127 = ad130 := (by injection e130); replace hx130_0 := (HB.out.cell (World.block_lt_of_cell? w _ hx130_0)).trans hx130_0; replace hx130_1 := (HB.out.cell (World.block_lt_of_cell? w _ hx130_1)).trans hx130_1; replace hx130_2 := (HB.out.cell (World.block_lt_of_cell? w _ hx130_2)).trans hx130_2; replace hx130_3 := (HB.out.cell (World.block_lt_of_cell? w _ hx130_3)).trans hx130_3; replace hx130_4 := (HB.out.cell (World.block_lt_of_cell? w _ hx130_4)).trans hx130_4; replace hx130_5 := (HB.out.cell (World.block_lt_of_cell? w _ hx130_5)).trans hx130_5; replace hx130_6 := (HB.out.cell (World.block_lt_of_cell? w _ hx130_6)).trans hx130_6; replace hx130_7 := (HB.out.cell (World.block_lt_of_cell? w _ hx130_7)).trans hx130_7; replace hx130_8 := (HB.out.cell (World.block_lt_of_cell? w _ hx130_8)).trans hx130_8; replace hx130_9 := (HB.out.cell (World.block_lt_of_cell? w _ hx130_9)).trans hx130_9; replace hx130_10 := (HB.out.cell (World.block_lt_of_cell? w _ hx130_10)).trans hx130_10; have HR130_8 := Aside0.mk hi130_8; have HC130_8 := Aside0.mk hl130_8; clear hi130_8 hl130_8; have HR130_9 := Aside0.mk hi130_9; have HC130_9 := Aside0.mk hl130_9; clear hi130_9 hl130_9; have HR130_10 := Aside0.mk hi130_10; have HC130_10 := Aside0.mk hl130_10; clear hi130_10 hl130_10; replace p130 := eq_true p130; replace q130 := eq_true q130; have ea_ := Option.some.inj (hx129_8.symm.trans hx130_8); injection ea_ with ea_ en_ ec_; subst ea_; subst ec_; clear en_; have ea_ := Option.some.inj (hx129_9.symm.trans hx130_9); injection ea_ with ea_ en_ ec_; subst ea_; subst ec_; clear en_; have ea_ := Option.some.inj (hx129_10.symm.trans hx130_10); injection ea_ with ea_ en_ ec_; subst ea_; subst ec_; clear en_; have p131 : 0 ≤ (x3_1 : Int) := of_decide_eq_true q7y0; have q131 : x3_1 < (l0.length : Int) := of_decide_eq_true q7y0; obtain ⟨ad131, A131_8, c131_8, A131_9, c131_9, A131_10, c131_10, e131, hx131_0, hx131_1, hx131_2, hx131_3, hx131_4, hx131_5, hx131_6, hx131_7, hx131_8, hx131_9, hx131_10, hl131_8, hi131_8, hl131_9, hi131_9, hl131_10, hi131_10⟩ := at_T38 HR0.out x3_1 p131 q131; obtain rfl : ad127 = ad131 := (by injection e131); replace hx131_0 := (HB.out.cell (World.block_lt_of_cell? w _ hx131_0)).trans hx131_0; replace hx131_1 := (HB.out.cell (World.block_lt_of_cell? w _ hx131_1)).trans hx131_1; replace hx131_2 := (HB.out.cell (World.block_lt_of_cell? w _ hx131_2)).trans hx131_2; replace hx131_3 := (HB.out.cell (World.block_lt_of_cell? w _ hx131_3)).trans hx131_3; replace hx131_4 := (HB.out.cell (World.block_lt_of_cell? w _ hx131_4)).trans hx131_4; replace hx131_5 := (HB.out.cell (World.block_lt_of_cell? w _ hx131_5)).trans hx131_5; replace hx131_6 := (HB.out.cell (World.block_lt_of_cell? w _ hx131_6)).trans hx131_6; replace hx131_7 := (HB.out.cell (World.block_lt_of_cell? w _ hx131_7)).trans hx131_7; replace hx131_8 := (HB.out.cell (World.block_lt_of_cell? w _ hx131_8)).trans hx131_8; replace hx131_9 := (HB.out.cell (World.block_lt_of_cell? w _ hx131_9)).trans hx131_9; replace hx131_10 := (HB.out.cell (World.block_lt_of_cell? w _ hx131_10)).trans hx131_10; have HR131_8 := Aside0.mk hi131_8; have HC131_8 := Aside0.mk hl131_8; clear hi131_8 hl131_8; have HR131_9 := Aside0.mk hi131_9; have HC131_9 := Aside0.mk hl131_9; clear hi131_9 hl131_9; have HR131_10 := Aside0.mk hi131_10; have HC131_10 := Aside0.mk hl131_10; clear hi131_10 hl131_10; replace p131 := eq_true p131; replace q131 := eq_true q131; have ea_ := Option.some.inj (hx129_8.symm.trans hx131_8); injection ea_ with ea_ en_ ec_; subst ea_; subst ec_; clear en_; have ea_ := Option.some.inj (hx129_9.symm.trans hx131_9); injection ea_ with ea_ en_ ec_; subst ea_; subst ec_; clear en_; have ea_ := Option.some.inj (hx129_10.symm.trans hx131_10); injection ea_ with ea_ en_ ec_; subst ea_; subst ec_; clear en_; have p132 : 0 ≤ (x3_1 : Int) := of_decide_eq_true q7y0; have q132 : x3_1 < (l0.length : Int) := of_decide_eq_true q7y0; obtain ⟨ad132, A132_8, c132_8, A132_9, c132_9, A132_10, c132_10, e132, hx132_0, hx132_1, hx132_2, hx132_3, hx132_4, hx132_5, hx132_6, hx132_7, hx132_8, hx132_9, hx132_10, hl132_8, hi132_8, hl132_9, hi132_9, hl132_10, hi132_10⟩ := at_T38 HR0.out x3_1 p132 q132; obtain rfl : ad127 = ad132 := (by injection e132); replace hx132_0 := (HB.out.cell (World.block_lt_of_cell? w _ hx132_0)).trans hx132_0; replace hx132_1 := (HB.out.cell (World.block_lt_of_cell? w _ hx132_1)).trans hx132_1; replace hx132_2 := (HB.out.cell (World.block_lt_of_cell? w _ hx132_2)).trans hx132_2; replace hx132_3 := (HB.out.cell (World.block_lt_of_cell? w _ hx132_3)).trans hx132_3; replace hx132_4 := (HB.out.cell (World.block_lt_of_cell? w _ hx132_4)).trans hx132_4; replace hx132_5 := (HB.out.cell (World.block_lt_of_cell? w _ hx132_5)).trans hx132_5; replace hx132_6 := (HB.out.cell (World.block_lt_of_cell? w _ hx132_6)).trans hx132_6; replace hx132_7 := (HB.out.cell (World.block_lt_of_cell? w _ hx132_7)).trans hx132_7; replace hx132_8 := (HB.out.cell (World.block_lt_of_cell? w _ hx132_8)).trans hx132_8; replace hx132_9 := (HB.out.cell (World.block_lt_of_cell? w _ hx132_9)).trans hx132_9; replace hx132_10 := (HB.out.cell (World.block_lt_of_cell? w _ hx132_10)).trans hx132_10; have HR132_8 := Aside0.mk hi132_8; have HC132_8 := Aside0.mk hl132_8; clear hi132_8 hl132_8; have HR132_9 := Aside0.mk hi132_9; have HC132_9 := Aside0.mk hl132_9; clear hi132_9 hl132_9; have HR132_10 := Aside0.mk hi132_10; have HC132_10 := Aside0.mk hl132_10; clear hi132_10 hl132_10; replace p132 := eq_true p132; replace q132 := eq_true q132; have ea_ := Option.some.inj (hx129_8.symm.trans hx132_8); injection ea_ with ea_ en_ ec_; subst ea_; subst ec_; clear en_; have ea_ := Option.some.inj (hx129_9.symm.trans hx132_9); injection ea_ with ea_ en_ ec_; subst ea_; subst ec_; clear en_; have ea_ := Option.some.inj (hx129_10.symm.trans hx132_10); injection ea_ with ea_ en_ ec_; subst ea_; subst ec_; clear en_))
   go_roundg k1
   case measure => have := HK1.out; omega
   case rel => exact ⟨(wrap64 (x3_1 + 1)), (by first | rfl | (simp; done) | (simp [*]; done)), H', ⟨by have := HK1.out; omega⟩, ⟨by repeat (first | (with_reducible first | exact HB.out | apply below_alloc | apply pw_below_drewN | apply below_drew1) | exact HB.out)⟩⟩
end Go.Proofs.Ytoigebnhnkdbbaa.PAll
