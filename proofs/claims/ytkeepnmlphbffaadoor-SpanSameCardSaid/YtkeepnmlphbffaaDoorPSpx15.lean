-- Written by a program: the kit's print.py, driven for several laws at once. Not trusted: Lean checks it.
import Derived.Test.YtkeepnmlphbffaaDoorPSpx0
import Derived.Test.YtkeepnmlphbffaaDoorPSpx2
import Derived.Test.YtkeepnmlphbffaaDoorPSpx3
import Derived.Test.YtkeepnmlphbffaaDoorPSpx4
namespace Go.Proofs.YtkeepnmlphbffaaDoor.PSp
open Go.RowKit Go.Proofs.YtkeepnmlphbffaaDoorW.PrintWords Go.Proofs.YtkeepnmlphbffaaDoorW.PrintLast Go.Proofs.YtkeepnmlphbffaaDoorW.PrintMore
attribute [local go_sem] max2_int min2_int max_two min_two max_three min_three max_four min_four   -- for this text's walks alone
set_option linter.unusedVariables false
set_option linter.unusedSimpArgs false

attribute [local go_sem high] eqA43 eqA59 eqA62
/-! ### api_Attr: function 35 -/
def q15m (n m : Nat) : Array Bool := ((List.range n).map (Nat.testBit m)).toArray
theorem q15a {α : Type} (xs : List α) (i : Nat) (x : α) : xs.toArray.setIfInBounds i x = (xs.set i x).toArray := List.setIfInBounds_toArray ..
theorem q15b {α : Type} (x y : α) (xs : List α) : (x :: xs).set 0 y = y :: xs := List.set_cons_zero ..
theorem q15c {α : Type} (x y : α) (xs : List α) (n : Nat) : (x :: xs).set (n + 1) y = x :: xs.set n y := List.set_cons_succ ..
theorem q15h {w w' : World} {p : Addr} {v : Value} (h : Below w.heap.size w w') (x : w.cell? p = some v) : w'.cell? p = some v := (h.cell (World.block_lt_of_cell? w _ x)).trans x
theorem q15p {P : Program} {md : Region.Mode} {ops : Array Oper} {Q : Exit → Act → World → Prop} {S : World → Prop} {ds : List Nat} {T : Bool × List (List Nat × List Nat)} {i : Nat} {N : Option Tmp} {oi : Oper} {v : Value} {fuel : Nat} {l : Array Bool} {a : Act} {w : World} (l' : Array Bool) (hT : rtab md ops = T) {a' : Act}
    (h : wpAnyLast P md ops Q S ds fuel l' a' w) (hi : ops[i]? = some oi := by rfl) (hN : oi.dst = N := by rfl) (hc : anyT T l.toList l'.toList i = true := by kernel_rfl) (hQ : ∀ c a w, Q (.panic c) (a.put oi.dst v) w → Q (.panic c) a w := by exact fun _ _ _ h => h)
    (hw : Region.wanted oi (yielded ops a.tmps) = true := by rfl) (hy : ∀ w', (execOp a.eval oi).run P w' = .ok (.value v) w' := by intro w'; go_simp; with_reducible rfl) (ha : a.put N v = a' := by simp only [Act.put, q15a, q15b, q15c, i64_w, i32_w]; rfl) :
    wpAnyLast P md ops Q S ds (fuel + 1) l a w := pure_ l' hi hN (any_of hT hc) hQ (Or.inl ⟨hw, hy⟩) ha h
theorem q15u {P : Program} {md : Region.Mode} {ops : Array Oper} {Q : Exit → Act → World → Prop} {S : World → Prop} {ds : List Nat} {T : Bool × List (List Nat × List Nat)} {i : Nat} {N : Option Tmp} {oi : Oper} {fuel : Nat} {l : Array Bool} {a : Act} {w : World} (l' : Array Bool) (hT : rtab md ops = T) {a' : Act}
    (h : wpAnyLast P md ops Q S ds fuel l' a' w) (hi : ops[i]? = some oi := by rfl) (hN : oi.dst = N := by rfl) (hc : anyT T l.toList l'.toList i = true := by kernel_rfl) (hQ : ∀ c a w, Q (.panic c) (a.put oi.dst undef) w → Q (.panic c) a w := by exact fun _ _ _ h => h)
    (hw : Region.wanted oi (yielded ops a.tmps) = false := by rfl) (ha : a.put N undef = a' := by simp only [Act.put, q15a, q15b, q15c, i64_w, i32_w]; rfl) :
    wpAnyLast P md ops Q S ds (fuel + 1) l a w := pure_ l' hi hN (any_of hT hc) hQ (Or.inr ⟨hw, rfl⟩) ha h
theorem q15k {w : World} {g : Nat} {cs : Array Value} {t : TypeId} (h : w.heap[g]? = some (.cells cs t (0, 0))) (i : Nat) {v : Value} (e : cs[i]? = some v := by rfl) : w.cell? ⟨g, i, none⟩ = some v := (blk_cell h i).trans e

def api_Attr.l0 : Nat → List (S43) → List (S43) → Int → Int → Option (Bool)
 | 0, _, _, _, _ => none
 | k + 1, x0, x1, x12, x13 => if x13 < x12 then (if 0 ≤ x13 then (if x13 < (x0.length : Int) then (if x13 < (x1.length : Int) then (if (!((((rd_T43 x0 x13).f0).toList) == (((rd_T43 x1 x13).f0).toList)) || ((!(((rd_T43 x0 x13).f1.f0) == ((rd_T43 x1 x13).f1.f0)) || (!((((rd_T43 x0 x13).f1.f1).toList) == (((rd_T43 x1 x13).f1.f1).toList)) || (!(((rd_T43 x0 x13).f1.f2) == ((rd_T43 x1 x13).f1.f2)) || (!(((rd_T43 x0 x13).f1.f3) == ((rd_T43 x1 x13).f1.f3)))))))) = true then (some false) else (api_Attr.l0 k x0 x1 x12 (wrap64 (x13 + 1)))) else (none)) else (none)) else (none)) else (some true)
def api_Attr.f (k : Nat) (l0 : List (S43)) (l1 : List (S43)) : Option (Bool) := if (l0.length : Int) = (l1.length : Int) then (api_Attr.l0 k l0 l1 (l0.length : Int) 0) else (some false)
theorem api_Attr.mono_l : ∀ k, (∀ y0 y1 y2 y3, LeO (api_Attr.l0 k y0 y1 y2 y3) (api_Attr.l0 (k + 1) y0 y1 y2 y3))
 | 0 => fun _ _ _ _ r h => by simp [api_Attr.l0] at h
 | k + 1 => by
  have ih0 := api_Attr.mono_l k
  ·intro y0 y1 y2 y3
   unfold api_Attr.l0
   repeat' first
   | (with_reducible exact ih0 _ _ _ _)
   | (with_reducible exact LeO.refl _)
   | (with_reducible exact LeO.none _)
   | (with_reducible refine LeO.ite ?_ ?_)
   | (with_reducible refine LeO.bind ?_ (fun _ => ?_))
   | exact ih0 _ _ _ _
   | exact LeO.none _
   | refine LeO.ite ?_ ?_
   | refine LeO.bind ?_ (fun _ => ?_)
theorem api_Attr.mono : ∀ a0 a1 k, LeO (api_Attr.f k a0 a1) (api_Attr.f (k + 1) a0 a1) := by
 intro a0 a1 k
 have ih0 := api_Attr.mono_l k
 unfold api_Attr.f
 repeat' first
   | (with_reducible exact ih0 _ _ _ _)
   | (with_reducible exact LeO.refl _)
   | (with_reducible exact LeO.none _)
   | (with_reducible refine LeO.ite ?_ ?_)
   | (with_reducible refine LeO.bind ?_ (fun _ => ?_))
   | exact ih0 _ _ _ _
   | exact LeO.none _
   | refine LeO.ite ?_ ?_
   | refine LeO.bind ?_ (fun _ => ?_)
set_option maxHeartbeats 8000000 in
set_option maxRecDepth 100000 in
theorem api_Attr.calls (k : Nat) (A0 : Option Addr) (c0 : Nat) (l0 : List (S43)) (A1 : Option Addr) (c1 : Nat) (l1 : List (S43)) (r : Bool) (w : World) (hr0 : Kd.C k43 w A0 l0.length l0) (hc0 : l0.length ≤ c0) (hr1 : Kd.C k43 w A1 l1.length l1) (hc1 : l1.length ≤ c1) (h : api_Attr.f k l0 l1 = some r) :
  Calls Tryd.prog 35 #[.slice A0 l0.length c0, .slice A1 l1.length c1] w fun e w' => e = .returned (.bool r) ∧ Drawn0 w w' := by
 have hu43 := Tryd.underlying43
 have HR0 := Aside0.mk hr0
 have HC0 := Aside0.mk hc0
 clear hr0 hc0
 have HR1 := Aside0.mk hr1
 have HC1 := Aside0.mk hc1
 clear hr1 hc1
 have H : (if (l0.length : Int) = (l1.length : Int) then (api_Attr.l0 k l0 l1 (l0.length : Int) 0) else (some false)) = some r := h
 clear h
 by_cases c3 : (l0.length : Int) = (l1.length : Int)
 rotate_left
 ·rw [if_neg c3] at H
  have c3b0 : ((l0.length : Int) == (l1.length : Int)) = false := beq_eq_false_iff_ne.mpr c3
  have c3b1 : ((l0.length : Int) != (l1.length : Int)) = true := bne_iff_ne.mpr c3
  have c3b2 : (l0.length == l1.length) = false := by first | simpa using c3 | (simp at c3 ⊢; omega)
  obtain rfl := Option.some.inj H
  go_enter Tryd.func35, Tryd.ntmps35
  go_wp2
  repeat (go_quiet (fail); try go_wp2)
  go_ret
  exact ⟨by first | rfl | (simp; done) | (simp [*]; done), by repeat (first | exact Drawn0.refl _ | apply Drawn0.step)⟩

 rw [if_pos c3] at H
 have c3b0 : ((l0.length : Int) == (l1.length : Int)) = true := beq_iff_eq.mpr c3
 have c3b1 : ((l0.length : Int) != (l1.length : Int)) = false := bne_eq_false_iff_eq.mpr c3
 have c3b2 : (l0.length == l1.length) = true := by first | simpa using c3 | (simp at c3 ⊢; omega)
 clear c3
 have H' := Aside0.mk H
 clear H
 go_enter Tryd.func35, Tryd.ntmps35
 go_wp2
 repeat (go_quiet (fail); try go_wp2)
 go_loopg [13] k (fun kq v13 w' => ∃ (x13_1 : Int), v13 = .int .i64 x13_1 ∧ Aside0 (api_Attr.l0 kq l0 l1 (l0.length : Int) x13_1 = some r) ∧ Aside0 (kq ≤ k) ∧ Drawn0 w w')
 case atStart => exact ⟨(0), (by first | rfl | (simp; done) | (simp [*]; done)), H', ⟨Nat.le_refl _⟩, by repeat (first | exact Drawn0.refl _ | apply Drawn0.step)⟩
 case round =>
  clear H'
  try clear c1
  try clear p2
  try clear c3
  try clear c3b0
  try clear c3b1
  try clear c3b2
  obtain ⟨x13_1, rfl, HA, HK1, ⟨m1, rfl⟩⟩ := hrel
  cases gk with
  | zero => exact absurd HA.out (by simp [api_Attr.l0])
  | succ k1 =>
   have H := HA.out
   clear HA
   simp only [api_Attr.l0] at H
   by_cases c4 : x13_1 < (l0.length : Int)
   rotate_left
   ·rw [if_neg c4] at H
    have c4b0 : decide (x13_1 < (l0.length : Int)) = false := decide_eq_false c4
    clear c4
    obtain rfl := Option.some.inj H
    go_wp2
    repeat (go_quiet (fail); try go_wp2)
    go_ret
    exact ⟨by first | rfl | (simp; done) | (simp [*]; done), by repeat (first | exact Drawn0.refl _ | apply Drawn0.step)⟩
   rw [if_pos c4] at H
   have c4b0 : decide (x13_1 < (l0.length : Int)) = true := decide_eq_true c4
   clear c4
   by_cases c5 : 0 ≤ x13_1
   rotate_left
   ·rw [if_neg c5] at H
    exact absurd H (by simp)
   rw [if_pos c5] at H
   have c5b0 : decide (0 ≤ x13_1) = true := decide_eq_true c5
   clear c5
   by_cases c6 : x13_1 < (l0.length : Int)
   rotate_left
   ·rw [if_neg c6] at H
    exact absurd H (by simp)
   rw [if_pos c6] at H
   have c6b0 : decide (x13_1 < (l0.length : Int)) = true := decide_eq_true c6
   clear c6
   by_cases c7 : x13_1 < (l1.length : Int)
   rotate_left
   ·rw [if_neg c7] at H
    exact absurd H (by simp)
   rw [if_pos c7] at H
   have c7b0 : decide (x13_1 < (l1.length : Int)) = true := decide_eq_true c7
   clear c7
   by_cases c8 : (!((((rd_T43 l0 x13_1).f0).toList) == (((rd_T43 l1 x13_1).f0).toList)) || ((!(((rd_T43 l0 x13_1).f1.f0) == ((rd_T43 l1 x13_1).f1.f0)) || (!((((rd_T43 l0 x13_1).f1.f1).toList) == (((rd_T43 l1 x13_1).f1.f1).toList)) || (!(((rd_T43 l0 x13_1).f1.f2) == ((rd_T43 l1 x13_1).f1.f2)) || (!(((rd_T43 l0 x13_1).f1.f3) == ((rd_T43 l1 x13_1).f1.f3)))))))) = true
   ·rw [if_pos c8] at H
    have c8b0 : (!((((rd_T43 l0 x13_1).f0).toList) == (((rd_T43 l1 x13_1).f0).toList)) || ((!(((rd_T43 l0 x13_1).f1.f0) == ((rd_T43 l1 x13_1).f1.f0)) || (!((((rd_T43 l0 x13_1).f1.f1).toList) == (((rd_T43 l1 x13_1).f1.f1).toList)) || (!(((rd_T43 l0 x13_1).f1.f2) == ((rd_T43 l1 x13_1).f1.f2)) || (!(((rd_T43 l0 x13_1).f1.f3) == ((rd_T43 l1 x13_1).f1.f3)))))))) = true := c8
    clear c8
    obtain rfl := Option.some.inj H
    have p207 : 0 ≤ (x13_1 : Int) := of_decide_eq_true (by first | (with_reducible assumption) | assumption)
    have q207 : x13_1 < (l0.length : Int) := of_decide_eq_true (by first | (with_reducible assumption) | assumption)
    obtain ⟨ad207, e207, hx207_0, hx207_1, hx207_2, hx207_3, hx207_4⟩ := at_T43 HR0.out x13_1 p207 q207
    cases e207
    replace p207 := eq_true p207
    replace q207 := eq_true q207
    have p208 : 0 ≤ (x13_1 : Int) := of_decide_eq_true (by first | (with_reducible assumption) | assumption)
    have q208 : x13_1 < (l1.length : Int) := of_decide_eq_true (by first | (with_reducible assumption) | assumption)
    obtain ⟨ad208, e208, hx208_0, hx208_1, hx208_2, hx208_3, hx208_4⟩ := at_T43 HR1.out x13_1 p208 q208
    cases e208
    replace p208 := eq_true p208
    replace q208 := eq_true q208
    go_wp2
    repeat (go_quiet (fail); try go_wp2)
    go_ret
    exact ⟨by first | rfl | (simp; done) | (simp [*]; done), by repeat (first | exact Drawn0.refl _ | apply Drawn0.step)⟩
   rw [if_neg c8] at H
   have c8b0 : (!((((rd_T43 l0 x13_1).f0).toList) == (((rd_T43 l1 x13_1).f0).toList)) || ((!(((rd_T43 l0 x13_1).f1.f0) == ((rd_T43 l1 x13_1).f1.f0)) || (!((((rd_T43 l0 x13_1).f1.f1).toList) == (((rd_T43 l1 x13_1).f1.f1).toList)) || (!(((rd_T43 l0 x13_1).f1.f2) == ((rd_T43 l1 x13_1).f1.f2)) || (!(((rd_T43 l0 x13_1).f1.f3) == ((rd_T43 l1 x13_1).f1.f3)))))))) = false := by simpa using c8
   clear c8
   have H' := Aside0.mk H
   clear H
   have p207 : 0 ≤ (x13_1 : Int) := of_decide_eq_true (by first | (with_reducible assumption) | assumption)
   have q207 : x13_1 < (l0.length : Int) := of_decide_eq_true (by first | (with_reducible assumption) | assumption)
   obtain ⟨ad207, e207, hx207_0, hx207_1, hx207_2, hx207_3, hx207_4⟩ := at_T43 HR0.out x13_1 p207 q207
   cases e207
   replace p207 := eq_true p207
   replace q207 := eq_true q207
   have p208 : 0 ≤ (x13_1 : Int) := of_decide_eq_true (by first | (with_reducible assumption) | assumption)
   have q208 : x13_1 < (l1.length : Int) := of_decide_eq_true (by first | (with_reducible assumption) | assumption)
   obtain ⟨ad208, e208, hx208_0, hx208_1, hx208_2, hx208_3, hx208_4⟩ := at_T43 HR1.out x13_1 p208 q208
   cases e208
   replace p208 := eq_true p208
   replace q208 := eq_true q208
   go_wp2
   repeat (go_quiet (fail); try go_wp2)
   go_roundg k1
   case measure => have := HK1.out; omega
   case rel => exact ⟨(wrap64 (x13_1 + 1)), (by first | rfl | (simp; done) | (simp [*]; done)), H', ⟨by have := HK1.out; omega⟩, by repeat (first | exact Drawn0.refl _ | apply Drawn0.step)⟩
/-! ### api_Event: function 36 -/
def api_Event.l0 : Nat → List (S59) → List (S59) → Int → Int → Option (Bool)
 | 0, _, _, _, _ => none
 | k + 1, x0, x1, x12, x13 => if x13 < x12 then (if 0 ≤ x13 then (if x13 < (x0.length : Int) then (if x13 < (x1.length : Int) then (if (!(((rd_T59 x0 x13).f0) == ((rd_T59 x1 x13).f0)) || (!((((rd_T59 x0 x13).f1).toList) == (((rd_T59 x1 x13).f1).toList)))) = true then (some false) else (api_Event.l0 k x0 x1 x12 (wrap64 (x13 + 1)))) else (none)) else (none)) else (none)) else (some true)
def api_Event.f (k : Nat) (l0 : List (S59)) (l1 : List (S59)) : Option (Bool) := if (l0.length : Int) = (l1.length : Int) then (api_Event.l0 k l0 l1 (l0.length : Int) 0) else (some false)
theorem api_Event.mono_l : ∀ k, (∀ y0 y1 y2 y3, LeO (api_Event.l0 k y0 y1 y2 y3) (api_Event.l0 (k + 1) y0 y1 y2 y3))
 | 0 => fun _ _ _ _ r h => by simp [api_Event.l0] at h
 | k + 1 => by
  have ih0 := api_Event.mono_l k
  ·intro y0 y1 y2 y3
   unfold api_Event.l0
   repeat' first
   | (with_reducible exact ih0 _ _ _ _)
   | (with_reducible exact LeO.refl _)
   | (with_reducible exact LeO.none _)
   | (with_reducible refine LeO.ite ?_ ?_)
   | (with_reducible refine LeO.bind ?_ (fun _ => ?_))
   | exact ih0 _ _ _ _
   | exact LeO.none _
   | refine LeO.ite ?_ ?_
   | refine LeO.bind ?_ (fun _ => ?_)
theorem api_Event.mono : ∀ a0 a1 k, LeO (api_Event.f k a0 a1) (api_Event.f (k + 1) a0 a1) := by
 intro a0 a1 k
 have ih0 := api_Event.mono_l k
 unfold api_Event.f
 repeat' first
   | (with_reducible exact ih0 _ _ _ _)
   | (with_reducible exact LeO.refl _)
   | (with_reducible exact LeO.none _)
   | (with_reducible refine LeO.ite ?_ ?_)
   | (with_reducible refine LeO.bind ?_ (fun _ => ?_))
   | exact ih0 _ _ _ _
   | exact LeO.none _
   | refine LeO.ite ?_ ?_
   | refine LeO.bind ?_ (fun _ => ?_)
set_option maxHeartbeats 8000000 in
set_option maxRecDepth 100000 in
theorem api_Event.calls (k : Nat) (A0 : Option Addr) (c0 : Nat) (l0 : List (S59)) (A1 : Option Addr) (c1 : Nat) (l1 : List (S59)) (r : Bool) (w : World) (hr0 : Kd.C k59 w A0 l0.length l0) (hc0 : l0.length ≤ c0) (hr1 : Kd.C k59 w A1 l1.length l1) (hc1 : l1.length ≤ c1) (h : api_Event.f k l0 l1 = some r) :
  Calls Tryd.prog 36 #[.slice A0 l0.length c0, .slice A1 l1.length c1] w fun e w' => e = .returned (.bool r) ∧ Drawn0 w w' := by
 have hu59 := Tryd.underlying59
 have HR0 := Aside0.mk hr0
 have HC0 := Aside0.mk hc0
 clear hr0 hc0
 have HR1 := Aside0.mk hr1
 have HC1 := Aside0.mk hc1
 clear hr1 hc1
 have H : (if (l0.length : Int) = (l1.length : Int) then (api_Event.l0 k l0 l1 (l0.length : Int) 0) else (some false)) = some r := h
 clear h
 by_cases c3 : (l0.length : Int) = (l1.length : Int)
 rotate_left
 ·rw [if_neg c3] at H
  have c3b0 : ((l0.length : Int) == (l1.length : Int)) = false := beq_eq_false_iff_ne.mpr c3
  have c3b1 : ((l0.length : Int) != (l1.length : Int)) = true := bne_iff_ne.mpr c3
  have c3b2 : (l0.length == l1.length) = false := by first | simpa using c3 | (simp at c3 ⊢; omega)
  obtain rfl := Option.some.inj H
  go_enter Tryd.func36, Tryd.ntmps36
  go_wp2
  repeat (go_quiet (fail); try go_wp2)
  go_ret
  exact ⟨by first | rfl | (simp; done) | (simp [*]; done), by repeat (first | exact Drawn0.refl _ | apply Drawn0.step)⟩

 rw [if_pos c3] at H
 have c3b0 : ((l0.length : Int) == (l1.length : Int)) = true := beq_iff_eq.mpr c3
 have c3b1 : ((l0.length : Int) != (l1.length : Int)) = false := bne_eq_false_iff_eq.mpr c3
 have c3b2 : (l0.length == l1.length) = true := by first | simpa using c3 | (simp at c3 ⊢; omega)
 clear c3
 have H' := Aside0.mk H
 clear H
 go_enter Tryd.func36, Tryd.ntmps36
 go_wp2
 repeat (go_quiet (fail); try go_wp2)
 go_loopg [13] k (fun kq v13 w' => ∃ (x13_1 : Int), v13 = .int .i64 x13_1 ∧ Aside0 (api_Event.l0 kq l0 l1 (l0.length : Int) x13_1 = some r) ∧ Aside0 (kq ≤ k) ∧ Drawn0 w w')
 case atStart => exact ⟨(0), (by first | rfl | (simp; done) | (simp [*]; done)), H', ⟨Nat.le_refl _⟩, by repeat (first | exact Drawn0.refl _ | apply Drawn0.step)⟩
 case round =>
  clear H'
  try clear c1
  try clear p2
  try clear c3
  try clear c3b0
  try clear c3b1
  try clear c3b2
  obtain ⟨x13_1, rfl, HA, HK1, ⟨m1, rfl⟩⟩ := hrel
  cases gk with
  | zero => exact absurd HA.out (by simp [api_Event.l0])
  | succ k1 =>
   have H := HA.out
   clear HA
   simp only [api_Event.l0] at H
   by_cases c4 : x13_1 < (l0.length : Int)
   rotate_left
   ·rw [if_neg c4] at H
    have c4b0 : decide (x13_1 < (l0.length : Int)) = false := decide_eq_false c4
    clear c4
    obtain rfl := Option.some.inj H
    go_wp2
    repeat (go_quiet (fail); try go_wp2)
    go_ret
    exact ⟨by first | rfl | (simp; done) | (simp [*]; done), by repeat (first | exact Drawn0.refl _ | apply Drawn0.step)⟩
   rw [if_pos c4] at H
   have c4b0 : decide (x13_1 < (l0.length : Int)) = true := decide_eq_true c4
   clear c4
   by_cases c5 : 0 ≤ x13_1
   rotate_left
   ·rw [if_neg c5] at H
    exact absurd H (by simp)
   rw [if_pos c5] at H
   have c5b0 : decide (0 ≤ x13_1) = true := decide_eq_true c5
   clear c5
   by_cases c6 : x13_1 < (l0.length : Int)
   rotate_left
   ·rw [if_neg c6] at H
    exact absurd H (by simp)
   rw [if_pos c6] at H
   have c6b0 : decide (x13_1 < (l0.length : Int)) = true := decide_eq_true c6
   clear c6
   by_cases c7 : x13_1 < (l1.length : Int)
   rotate_left
   ·rw [if_neg c7] at H
    exact absurd H (by simp)
   rw [if_pos c7] at H
   have c7b0 : decide (x13_1 < (l1.length : Int)) = true := decide_eq_true c7
   clear c7
   by_cases c8 : (!(((rd_T59 l0 x13_1).f0) == ((rd_T59 l1 x13_1).f0)) || (!((((rd_T59 l0 x13_1).f1).toList) == (((rd_T59 l1 x13_1).f1).toList)))) = true
   ·rw [if_pos c8] at H
    have c8b0 : (!(((rd_T59 l0 x13_1).f0) == ((rd_T59 l1 x13_1).f0)) || (!((((rd_T59 l0 x13_1).f1).toList) == (((rd_T59 l1 x13_1).f1).toList)))) = true := c8
    clear c8
    obtain rfl := Option.some.inj H
    have p209 : 0 ≤ (x13_1 : Int) := of_decide_eq_true (by first | (with_reducible assumption) | assumption)
    have q209 : x13_1 < (l0.length : Int) := of_decide_eq_true (by first | (with_reducible assumption) | assumption)
    obtain ⟨ad209, e209, hx209_0, hx209_1⟩ := at_T59 HR0.out x13_1 p209 q209
    cases e209
    replace p209 := eq_true p209
    replace q209 := eq_true q209
    have p210 : 0 ≤ (x13_1 : Int) := of_decide_eq_true (by first | (with_reducible assumption) | assumption)
    have q210 : x13_1 < (l1.length : Int) := of_decide_eq_true (by first | (with_reducible assumption) | assumption)
    obtain ⟨ad210, e210, hx210_0, hx210_1⟩ := at_T59 HR1.out x13_1 p210 q210
    cases e210
    replace p210 := eq_true p210
    replace q210 := eq_true q210
    go_wp2
    repeat (go_quiet (fail); try go_wp2)
    go_ret
    exact ⟨by first | rfl | (simp; done) | (simp [*]; done), by repeat (first | exact Drawn0.refl _ | apply Drawn0.step)⟩
   rw [if_neg c8] at H
   have c8b0 : (!(((rd_T59 l0 x13_1).f0) == ((rd_T59 l1 x13_1).f0)) || (!((((rd_T59 l0 x13_1).f1).toList) == (((rd_T59 l1 x13_1).f1).toList)))) = false := by simpa using c8
   clear c8
   have H' := Aside0.mk H
   clear H
   have p209 : 0 ≤ (x13_1 : Int) := of_decide_eq_true (by first | (with_reducible assumption) | assumption)
   have q209 : x13_1 < (l0.length : Int) := of_decide_eq_true (by first | (with_reducible assumption) | assumption)
   obtain ⟨ad209, e209, hx209_0, hx209_1⟩ := at_T59 HR0.out x13_1 p209 q209
   cases e209
   replace p209 := eq_true p209
   replace q209 := eq_true q209
   have p210 : 0 ≤ (x13_1 : Int) := of_decide_eq_true (by first | (with_reducible assumption) | assumption)
   have q210 : x13_1 < (l1.length : Int) := of_decide_eq_true (by first | (with_reducible assumption) | assumption)
   obtain ⟨ad210, e210, hx210_0, hx210_1⟩ := at_T59 HR1.out x13_1 p210 q210
   cases e210
   replace p210 := eq_true p210
   replace q210 := eq_true q210
   go_wp2
   repeat (go_quiet (fail); try go_wp2)
   go_roundg k1
   case measure => have := HK1.out; omega
   case rel => exact ⟨(wrap64 (x13_1 + 1)), (by first | rfl | (simp; done) | (simp [*]; done)), H', ⟨by have := HK1.out; omega⟩, by repeat (first | exact Drawn0.refl _ | apply Drawn0.step)⟩
/-! ### api_Link: function 37 -/
def api_Link.l0 : Nat → List (S62) → List (S62) → Int → Int → Option (Bool)
 | 0, _, _, _, _ => none
 | k + 1, x0, x1, x12, x13 => if x13 < x12 then (if 0 ≤ x13 then (if x13 < (x0.length : Int) then (if x13 < (x1.length : Int) then (if (!(((rd_T62 x0 x13).f0) == ((rd_T62 x1 x13).f0)) || (!(((rd_T62 x0 x13).f1) == ((rd_T62 x1 x13).f1)))) = true then (some false) else (api_Link.l0 k x0 x1 x12 (wrap64 (x13 + 1)))) else (none)) else (none)) else (none)) else (some true)
def api_Link.f (k : Nat) (l0 : List (S62)) (l1 : List (S62)) : Option (Bool) := if (l0.length : Int) = (l1.length : Int) then (api_Link.l0 k l0 l1 (l0.length : Int) 0) else (some false)
theorem api_Link.mono_l : ∀ k, (∀ y0 y1 y2 y3, LeO (api_Link.l0 k y0 y1 y2 y3) (api_Link.l0 (k + 1) y0 y1 y2 y3))
 | 0 => fun _ _ _ _ r h => by simp [api_Link.l0] at h
 | k + 1 => by
  have ih0 := api_Link.mono_l k
  ·intro y0 y1 y2 y3
   unfold api_Link.l0
   repeat' first
   | (with_reducible exact ih0 _ _ _ _)
   | (with_reducible exact LeO.refl _)
   | (with_reducible exact LeO.none _)
   | (with_reducible refine LeO.ite ?_ ?_)
   | (with_reducible refine LeO.bind ?_ (fun _ => ?_))
   | exact ih0 _ _ _ _
   | exact LeO.none _
   | refine LeO.ite ?_ ?_
   | refine LeO.bind ?_ (fun _ => ?_)
theorem api_Link.mono : ∀ a0 a1 k, LeO (api_Link.f k a0 a1) (api_Link.f (k + 1) a0 a1) := by
 intro a0 a1 k
 have ih0 := api_Link.mono_l k
 unfold api_Link.f
 repeat' first
   | (with_reducible exact ih0 _ _ _ _)
   | (with_reducible exact LeO.refl _)
   | (with_reducible exact LeO.none _)
   | (with_reducible refine LeO.ite ?_ ?_)
   | (with_reducible refine LeO.bind ?_ (fun _ => ?_))
   | exact ih0 _ _ _ _
   | exact LeO.none _
   | refine LeO.ite ?_ ?_
   | refine LeO.bind ?_ (fun _ => ?_)
set_option maxHeartbeats 8000000 in
set_option maxRecDepth 100000 in
theorem api_Link.calls (k : Nat) (A0 : Option Addr) (c0 : Nat) (l0 : List (S62)) (A1 : Option Addr) (c1 : Nat) (l1 : List (S62)) (r : Bool) (w : World) (hr0 : Kd.C k62 w A0 l0.length l0) (hc0 : l0.length ≤ c0) (hr1 : Kd.C k62 w A1 l1.length l1) (hc1 : l1.length ≤ c1) (h : api_Link.f k l0 l1 = some r) :
  Calls Tryd.prog 37 #[.slice A0 l0.length c0, .slice A1 l1.length c1] w fun e w' => e = .returned (.bool r) ∧ Drawn0 w w' := by
 have hu62 := Tryd.underlying62
 have HR0 := Aside0.mk hr0
 have HC0 := Aside0.mk hc0
 clear hr0 hc0
 have HR1 := Aside0.mk hr1
 have HC1 := Aside0.mk hc1
 clear hr1 hc1
 have H : (if (l0.length : Int) = (l1.length : Int) then (api_Link.l0 k l0 l1 (l0.length : Int) 0) else (some false)) = some r := h
 clear h
 by_cases c3 : (l0.length : Int) = (l1.length : Int)
 rotate_left
 ·rw [if_neg c3] at H
  have c3b0 : ((l0.length : Int) == (l1.length : Int)) = false := beq_eq_false_iff_ne.mpr c3
  have c3b1 : ((l0.length : Int) != (l1.length : Int)) = true := bne_iff_ne.mpr c3
  have c3b2 : (l0.length == l1.length) = false := by first | simpa using c3 | (simp at c3 ⊢; omega)
  obtain rfl := Option.some.inj H
  go_enter Tryd.func37, Tryd.ntmps37
  go_wp2
  repeat (go_quiet (fail); try go_wp2)
  go_ret
  exact ⟨by first | rfl | (simp; done) | (simp [*]; done), by repeat (first | exact Drawn0.refl _ | apply Drawn0.step)⟩

 rw [if_pos c3] at H
 have c3b0 : ((l0.length : Int) == (l1.length : Int)) = true := beq_iff_eq.mpr c3
 have c3b1 : ((l0.length : Int) != (l1.length : Int)) = false := bne_eq_false_iff_eq.mpr c3
 have c3b2 : (l0.length == l1.length) = true := by first | simpa using c3 | (simp at c3 ⊢; omega)
 clear c3
 have H' := Aside0.mk H
 clear H
 go_enter Tryd.func37, Tryd.ntmps37
 go_wp2
 repeat (go_quiet (fail); try go_wp2)
 go_loopg [13] k (fun kq v13 w' => ∃ (x13_1 : Int), v13 = .int .i64 x13_1 ∧ Aside0 (api_Link.l0 kq l0 l1 (l0.length : Int) x13_1 = some r) ∧ Aside0 (kq ≤ k) ∧ Drawn0 w w')
 case atStart => exact ⟨(0), (by first | rfl | (simp; done) | (simp [*]; done)), H', ⟨Nat.le_refl _⟩, by repeat (first | exact Drawn0.refl _ | apply Drawn0.step)⟩
 case round =>
  clear H'
  try clear c1
  try clear p2
  try clear c3
  try clear c3b0
  try clear c3b1
  try clear c3b2
  obtain ⟨x13_1, rfl, HA, HK1, ⟨m1, rfl⟩⟩ := hrel
  cases gk with
  | zero => exact absurd HA.out (by simp [api_Link.l0])
  | succ k1 =>
   have H := HA.out
   clear HA
   simp only [api_Link.l0] at H
   by_cases c4 : x13_1 < (l0.length : Int)
   rotate_left
   ·rw [if_neg c4] at H
    have c4b0 : decide (x13_1 < (l0.length : Int)) = false := decide_eq_false c4
    clear c4
    obtain rfl := Option.some.inj H
    go_wp2
    repeat (go_quiet (fail); try go_wp2)
    go_ret
    exact ⟨by first | rfl | (simp; done) | (simp [*]; done), by repeat (first | exact Drawn0.refl _ | apply Drawn0.step)⟩
   rw [if_pos c4] at H
   have c4b0 : decide (x13_1 < (l0.length : Int)) = true := decide_eq_true c4
   clear c4
   by_cases c5 : 0 ≤ x13_1
   rotate_left
   ·rw [if_neg c5] at H
    exact absurd H (by simp)
   rw [if_pos c5] at H
   have c5b0 : decide (0 ≤ x13_1) = true := decide_eq_true c5
   clear c5
   by_cases c6 : x13_1 < (l0.length : Int)
   rotate_left
   ·rw [if_neg c6] at H
    exact absurd H (by simp)
   rw [if_pos c6] at H
   have c6b0 : decide (x13_1 < (l0.length : Int)) = true := decide_eq_true c6
   clear c6
   by_cases c7 : x13_1 < (l1.length : Int)
   rotate_left
   ·rw [if_neg c7] at H
    exact absurd H (by simp)
   rw [if_pos c7] at H
   have c7b0 : decide (x13_1 < (l1.length : Int)) = true := decide_eq_true c7
   clear c7
   by_cases c8 : (!(((rd_T62 l0 x13_1).f0) == ((rd_T62 l1 x13_1).f0)) || (!(((rd_T62 l0 x13_1).f1) == ((rd_T62 l1 x13_1).f1)))) = true
   ·rw [if_pos c8] at H
    have c8b0 : (!(((rd_T62 l0 x13_1).f0) == ((rd_T62 l1 x13_1).f0)) || (!(((rd_T62 l0 x13_1).f1) == ((rd_T62 l1 x13_1).f1)))) = true := c8
    clear c8
    obtain rfl := Option.some.inj H
    have p211 : 0 ≤ (x13_1 : Int) := of_decide_eq_true (by first | (with_reducible assumption) | assumption)
    have q211 : x13_1 < (l0.length : Int) := of_decide_eq_true (by first | (with_reducible assumption) | assumption)
    obtain ⟨ad211, e211, hx211_0, hx211_1⟩ := at_T62 HR0.out x13_1 p211 q211
    cases e211
    replace p211 := eq_true p211
    replace q211 := eq_true q211
    have p212 : 0 ≤ (x13_1 : Int) := of_decide_eq_true (by first | (with_reducible assumption) | assumption)
    have q212 : x13_1 < (l1.length : Int) := of_decide_eq_true (by first | (with_reducible assumption) | assumption)
    obtain ⟨ad212, e212, hx212_0, hx212_1⟩ := at_T62 HR1.out x13_1 p212 q212
    cases e212
    replace p212 := eq_true p212
    replace q212 := eq_true q212
    go_wp2
    repeat (go_quiet (fail); try go_wp2)
    go_ret
    exact ⟨by first | rfl | (simp; done) | (simp [*]; done), by repeat (first | exact Drawn0.refl _ | apply Drawn0.step)⟩
   rw [if_neg c8] at H
   have c8b0 : (!(((rd_T62 l0 x13_1).f0) == ((rd_T62 l1 x13_1).f0)) || (!(((rd_T62 l0 x13_1).f1) == ((rd_T62 l1 x13_1).f1)))) = false := by simpa using c8
   clear c8
   have H' := Aside0.mk H
   clear H
   have p211 : 0 ≤ (x13_1 : Int) := of_decide_eq_true (by first | (with_reducible assumption) | assumption)
   have q211 : x13_1 < (l0.length : Int) := of_decide_eq_true (by first | (with_reducible assumption) | assumption)
   obtain ⟨ad211, e211, hx211_0, hx211_1⟩ := at_T62 HR0.out x13_1 p211 q211
   cases e211
   replace p211 := eq_true p211
   replace q211 := eq_true q211
   have p212 : 0 ≤ (x13_1 : Int) := of_decide_eq_true (by first | (with_reducible assumption) | assumption)
   have q212 : x13_1 < (l1.length : Int) := of_decide_eq_true (by first | (with_reducible assumption) | assumption)
   obtain ⟨ad212, e212, hx212_0, hx212_1⟩ := at_T62 HR1.out x13_1 p212 q212
   cases e212
   replace p212 := eq_true p212
   replace q212 := eq_true q212
   go_wp2
   repeat (go_quiet (fail); try go_wp2)
   go_roundg k1
   case measure => have := HK1.out; omega
   case rel => exact ⟨(wrap64 (x13_1 + 1)), (by first | rfl | (simp; done) | (simp [*]; done)), H', ⟨by have := HK1.out; omega⟩, by repeat (first | exact Drawn0.refl _ | apply Drawn0.step)⟩
/-! ### span_Same: function 18 -/
def span_Same.f (k : Nat) (a0_0 : Int) (a0_1 : Int) (a0_2 : Int) (a0_3 : ByteArray) (a0_4 : ByteArray) (a0_5 : Int) (a0_6 : Int) (a0_7 : Int) (l0_8 : List (S43)) (l0_9 : List (S59)) (l0_10 : List (S62)) (a1_0 : Int) (a1_1 : Int) (a1_2 : Int) (a1_3 : ByteArray) (a1_4 : ByteArray) (a1_5 : Int) (a1_6 : Int) (a1_7 : Int) (l1_8 : List (S43)) (l1_9 : List (S59)) (l1_10 : List (S62)) : Option (Bool) := if a0_0 = a1_0 then (if a0_1 = a1_1 then (if a0_2 = a1_2 then (if a0_3.toList = a1_3.toList then (if a0_4.toList = a1_4.toList then (if a0_5 = a1_5 then (if a0_6 = a1_6 then (if a0_7 = a1_7 then ((api_Attr.f k l0_8 l1_8).bind fun t215 => (if t215 = true then ((api_Event.f k l0_9 l1_9).bind fun t216 => (if t216 = true then ((api_Link.f k l0_10 l1_10).bind fun t217 => (some t217)) else (some false))) else (some false))) else (some false)) else (some false)) else (some false)) else (some false)) else (some false)) else (some false)) else (some false)) else (some false)
theorem span_Same.mono : ∀ a0 a1 a2 a3 a4 a5 a6 a7 a8 a9 a10 a11 a12 a13 a14 a15 a16 a17 a18 a19 a20 a21 k, LeO (span_Same.f k a0 a1 a2 a3 a4 a5 a6 a7 a8 a9 a10 a11 a12 a13 a14 a15 a16 a17 a18 a19 a20 a21) (span_Same.f (k + 1) a0 a1 a2 a3 a4 a5 a6 a7 a8 a9 a10 a11 a12 a13 a14 a15 a16 a17 a18 a19 a20 a21) := by
 intro a0 a1 a2 a3 a4 a5 a6 a7 a8 a9 a10 a11 a12 a13 a14 a15 a16 a17 a18 a19 a20 a21 k
 unfold span_Same.f
 repeat' first
   | (with_reducible exact api_Attr.mono _ _ _)
   | (with_reducible exact api_Event.mono _ _ _)
   | (with_reducible exact api_Link.mono _ _ _)
   | (with_reducible exact LeO.refl _)
   | (with_reducible exact LeO.none _)
   | (with_reducible refine LeO.ite ?_ ?_)
   | (with_reducible refine LeO.bind ?_ (fun _ => ?_))
   | exact api_Attr.mono _ _ _
   | exact api_Event.mono _ _ _
   | exact api_Link.mono _ _ _
   | exact LeO.none _
   | refine LeO.ite ?_ ?_
   | refine LeO.bind ?_ (fun _ => ?_)
set_option maxHeartbeats 8000000 in
set_option maxRecDepth 100000 in
theorem span_Same.calls (k : Nat) (a0_0 : Int) (a0_1 : Int) (a0_2 : Int) (a0_3 : ByteArray) (a0_4 : ByteArray) (a0_5 : Int) (a0_6 : Int) (a0_7 : Int) (A0_8 : Option Addr) (c0_8 : Nat) (l0_8 : List (S43)) (A0_9 : Option Addr) (c0_9 : Nat) (l0_9 : List (S59)) (A0_10 : Option Addr) (c0_10 : Nat) (l0_10 : List (S62)) (a1_0 : Int) (a1_1 : Int) (a1_2 : Int) (a1_3 : ByteArray) (a1_4 : ByteArray) (a1_5 : Int) (a1_6 : Int) (a1_7 : Int) (A1_8 : Option Addr) (c1_8 : Nat) (l1_8 : List (S43)) (A1_9 : Option Addr) (c1_9 : Nat) (l1_9 : List (S59)) (A1_10 : Option Addr) (c1_10 : Nat) (l1_10 : List (S62)) (r : Bool) (w : World) (hr0_8 : Kd.C k43 w A0_8 l0_8.length l0_8) (hc0_8 : l0_8.length ≤ c0_8) (hr0_9 : Kd.C k59 w A0_9 l0_9.length l0_9) (hc0_9 : l0_9.length ≤ c0_9) (hr0_10 : Kd.C k62 w A0_10 l0_10.length l0_10) (hc0_10 : l0_10.length ≤ c0_10) (hr1_8 : Kd.C k43 w A1_8 l1_8.length l1_8) (hc1_8 : l1_8.length ≤ c1_8) (hr1_9 : Kd.C k59 w A1_9 l1_9.length l1_9) (hc1_9 : l1_9.length ≤ c1_9) (hr1_10 : Kd.C k62 w A1_10 l1_10.length l1_10) (hc1_10 : l1_10.length ≤ c1_10) (h : span_Same.f k a0_0 a0_1 a0_2 a0_3 a0_4 a0_5 a0_6 a0_7 l0_8 l0_9 l0_10 a1_0 a1_1 a1_2 a1_3 a1_4 a1_5 a1_6 a1_7 l1_8 l1_9 l1_10 = some r) :
  Calls Tryd.prog 18 #[.agg #[.int .u64 a0_0, .int .u64 a0_1, .int .u64 a0_2, .string a0_3, .string a0_4, .int .i64 a0_5, .int .i64 a0_6, .int .i64 a0_7, .slice A0_8 l0_8.length c0_8, .slice A0_9 l0_9.length c0_9, .slice A0_10 l0_10.length c0_10], .agg #[.int .u64 a1_0, .int .u64 a1_1, .int .u64 a1_2, .string a1_3, .string a1_4, .int .i64 a1_5, .int .i64 a1_6, .int .i64 a1_7, .slice A1_8 l1_8.length c1_8, .slice A1_9 l1_9.length c1_9, .slice A1_10 l1_10.length c1_10]] w fun e w' => e = .returned (.bool r) ∧ Below w.heap.size w w' := by
 have hu36 := Tryd.underlying36
 have HR0_8 := Aside0.mk hr0_8
 have HC0_8 := Aside0.mk hc0_8
 clear hr0_8 hc0_8
 have HR0_9 := Aside0.mk hr0_9
 have HC0_9 := Aside0.mk hc0_9
 clear hr0_9 hc0_9
 have HR0_10 := Aside0.mk hr0_10
 have HC0_10 := Aside0.mk hc0_10
 clear hr0_10 hc0_10
 have HR1_8 := Aside0.mk hr1_8
 have HC1_8 := Aside0.mk hc1_8
 clear hr1_8 hc1_8
 have HR1_9 := Aside0.mk hr1_9
 have HC1_9 := Aside0.mk hc1_9
 clear hr1_9 hc1_9
 have HR1_10 := Aside0.mk hr1_10
 have HC1_10 := Aside0.mk hc1_10
 clear hr1_10 hc1_10
 have HB := Aside0.mk (Below.refl w.heap.size w)
 have H : (if a0_0 = a1_0 then (if a0_1 = a1_1 then (if a0_2 = a1_2 then (if a0_3.toList = a1_3.toList then (if a0_4.toList = a1_4.toList then (if a0_5 = a1_5 then (if a0_6 = a1_6 then (if a0_7 = a1_7 then ((api_Attr.f k l0_8 l1_8).bind fun t215 => (if t215 = true then ((api_Event.f k l0_9 l1_9).bind fun t216 => (if t216 = true then ((api_Link.f k l0_10 l1_10).bind fun t217 => (some t217)) else (some false))) else (some false))) else (some false)) else (some false)) else (some false)) else (some false)) else (some false)) else (some false)) else (some false)) else (some false)) = some r := h
 clear h
 by_cases c3 : a0_0 = a1_0
 rotate_left
 ·rw [if_neg c3] at H
  have c3b0 : (a0_0 == a1_0) = false := beq_eq_false_iff_ne.mpr c3
  have c3b1 : (a0_0 != a1_0) = true := bne_iff_ne.mpr c3
  obtain rfl := Option.some.inj H
  go_enter Tryd.func18, Tryd.ntmps18
  go_wp2_with (first | ((with_reducible refine gate_dst (N := 2) rfl ?_); refine box_event ?hg (N := 2) ?hd (cs := #[.int .u64 a0_0, .int .u64 a0_1, .int .u64 a0_2, .string a0_3, .string a0_4, .int .i64 a0_5, .int .i64 a0_6, .int .i64 a0_7, .slice A0_8 l0_8.length c0_8, .slice A0_9 l0_9.length c0_9, .slice A0_10 l0_10.length c0_10]) (t := 36) ?hr ?_; (case hd => rfl); (case hg => rfl); (case hr => first | (go_simp; done) | (go_simp; rfl)); intro gb213 hg w66 hbox hb; have n0_ := Aside0.mk (below_step (by repeat (first | (with_reducible first | exact HB.out | apply below_alloc | apply pw_below_drewN | apply below_drew1) | exact HB.out)) hb); have n1_ := Aside0.mk (hbox); have n2_ := Aside0.mk ((by rw [hg]; exact (below_size (by repeat (first | (with_reducible first | exact HB.out | apply below_alloc | apply pw_below_drewN | apply below_drew1) | exact HB.out))) : w.heap.size ≤ gb213)); have n3_ := Aside0.mk ((by rw [hg]; exact (below_size (by repeat (first | (with_reducible first | exact HB.out | apply below_alloc | apply pw_below_drewN | apply below_drew1) | exact HB.out))) : w.heap.size ≤ gb213)); clear HB; have HB := n0_; have BK213 := n1_; have GW213 := n2_; have GE213 := n3_; clear n0_ n1_ n2_ n3_; clear hb hbox hg) | ((with_reducible refine gate_dst (N := 3) rfl ?_); refine box_event ?hg (N := 3) ?hd (cs := #[.int .u64 a1_0, .int .u64 a1_1, .int .u64 a1_2, .string a1_3, .string a1_4, .int .i64 a1_5, .int .i64 a1_6, .int .i64 a1_7, .slice A1_8 l1_8.length c1_8, .slice A1_9 l1_9.length c1_9, .slice A1_10 l1_10.length c1_10]) (t := 36) ?hr ?_; (case hd => rfl); (case hg => rfl); (case hr => first | (go_simp; done) | (go_simp; rfl)); intro gb214 hg w67 hbox hb; have n0_ := Aside0.mk (blk_below (g := gb213) (o := .cells #[.int .u64 a0_0, .int .u64 a0_1, .int .u64 a0_2, .string a0_3, .string a0_4, .int .i64 a0_5, .int .i64 a0_6, .int .i64 a0_7, .slice A0_8 l0_8.length c0_8, .slice A0_9 l0_9.length c0_9, .slice A0_10 l0_10.length c0_10] 36 (0, 0)) (by (with_reducible repeat (first | refine blk_drewN ?_ _ | refine blk_drew ?_ | refine blk_alloc ?_ _)); exact BK213.out) hb); have n1_ := Aside0.mk (below_step (by repeat (first | (with_reducible first | exact HB.out | apply below_alloc | apply pw_below_drewN | apply below_drew1 | refine below_set ?_ GE213.out) | exact HB.out)) hb); have n2_ := Aside0.mk (hbox); have n3_ := Aside0.mk ((by rw [hg]; exact (below_size (by repeat (first | (with_reducible first | exact HB.out | apply below_alloc | apply pw_below_drewN | apply below_drew1 | refine below_set ?_ GE213.out) | exact HB.out))) : w.heap.size ≤ gb214)); have n4_ := Aside0.mk ((by rw [hg]; exact (below_size (by repeat (first | (with_reducible first | exact HB.out | apply below_alloc | apply pw_below_drewN | apply below_drew1 | refine below_set ?_ GE213.out) | exact HB.out))) : w.heap.size ≤ gb214)); have n5_ := Aside0.mk ((by rw [hg]; exact Nat.ne_of_lt (blk_lt (g := gb213) (o := .cells #[.int .u64 a0_0, .int .u64 a0_1, .int .u64 a0_2, .string a0_3, .string a0_4, .int .i64 a0_5, .int .i64 a0_6, .int .i64 a0_7, .slice A0_8 l0_8.length c0_8, .slice A0_9 l0_9.length c0_9, .slice A0_10 l0_10.length c0_10] 36 (0, 0)) (by (with_reducible repeat (first | refine blk_drewN ?_ _ | refine blk_drew ?_ | refine blk_alloc ?_ _)); exact BK213.out)) : gb213 ≠ gb214)); have n6_ := Aside0.mk ((by rw [hg]; exact Nat.ne_of_gt (blk_lt (g := gb213) (o := .cells #[.int .u64 a0_0, .int .u64 a0_1, .int .u64 a0_2, .string a0_3, .string a0_4, .int .i64 a0_5, .int .i64 a0_6, .int .i64 a0_7, .slice A0_8 l0_8.length c0_8, .slice A0_9 l0_9.length c0_9, .slice A0_10 l0_10.length c0_10] 36 (0, 0)) (by (with_reducible repeat (first | refine blk_drewN ?_ _ | refine blk_drew ?_ | refine blk_alloc ?_ _)); exact BK213.out)) : gb214 ≠ gb213)); clear BK213; clear HB; have BK213 := n0_; have HB := n1_; have BK214 := n2_; have GW214 := n3_; have GE214 := n4_; have NB213_214 := n5_; have NB214_213 := n6_; clear n0_ n1_ n2_ n3_ n4_ n5_ n6_; clear hb hbox hg; have hnb68 := NB213_214.out; have hnc68 := NB214_213.out; have hcz69_0 : w67.cell? ⟨gb213, 0, none⟩ = some (.int .u64 a0_0) := (blk_cell BK213.out 0).trans rfl; have hcz69_1 : w67.cell? ⟨gb213, 1, none⟩ = some (.int .u64 a0_1) := (blk_cell BK213.out 1).trans rfl; have hcz69_2 : w67.cell? ⟨gb213, 2, none⟩ = some (.int .u64 a0_2) := (blk_cell BK213.out 2).trans rfl; have hcz69_3 : w67.cell? ⟨gb213, 3, none⟩ = some (.string a0_3) := (blk_cell BK213.out 3).trans rfl; have hcz69_4 : w67.cell? ⟨gb213, 4, none⟩ = some (.string a0_4) := (blk_cell BK213.out 4).trans rfl; have hcz69_5 : w67.cell? ⟨gb213, 5, none⟩ = some (.int .i64 a0_5) := (blk_cell BK213.out 5).trans rfl; have hcz69_6 : w67.cell? ⟨gb213, 6, none⟩ = some (.int .i64 a0_6) := (blk_cell BK213.out 6).trans rfl; have hcz69_7 : w67.cell? ⟨gb213, 7, none⟩ = some (.int .i64 a0_7) := (blk_cell BK213.out 7).trans rfl; have hcz69_8 : w67.cell? ⟨gb213, 8, none⟩ = some (.slice A0_8 l0_8.length c0_8) := (blk_cell BK213.out 8).trans rfl; have hcz69_9 : w67.cell? ⟨gb213, 9, none⟩ = some (.slice A0_9 l0_9.length c0_9) := (blk_cell BK213.out 9).trans rfl; have hcz69_10 : w67.cell? ⟨gb213, 10, none⟩ = some (.slice A0_10 l0_10.length c0_10) := (blk_cell BK213.out 10).trans rfl; have hfz69_0 := blk_frozen BK213.out 0; have hfz69_1 := blk_frozen BK213.out 1; have hfz69_2 := blk_frozen BK213.out 2; have hfz69_3 := blk_frozen BK213.out 3; have hfz69_4 := blk_frozen BK213.out 4; have hfz69_5 := blk_frozen BK213.out 5; have hfz69_6 := blk_frozen BK213.out 6; have hfz69_7 := blk_frozen BK213.out 7; have hfz69_8 := blk_frozen BK213.out 8; have hfz69_9 := blk_frozen BK213.out 9; have hfz69_10 := blk_frozen BK213.out 10; have hcz70_0 : w67.cell? ⟨gb214, 0, none⟩ = some (.int .u64 a1_0) := (blk_cell BK214.out 0).trans rfl; have hcz70_1 : w67.cell? ⟨gb214, 1, none⟩ = some (.int .u64 a1_1) := (blk_cell BK214.out 1).trans rfl; have hcz70_2 : w67.cell? ⟨gb214, 2, none⟩ = some (.int .u64 a1_2) := (blk_cell BK214.out 2).trans rfl; have hcz70_3 : w67.cell? ⟨gb214, 3, none⟩ = some (.string a1_3) := (blk_cell BK214.out 3).trans rfl; have hcz70_4 : w67.cell? ⟨gb214, 4, none⟩ = some (.string a1_4) := (blk_cell BK214.out 4).trans rfl; have hcz70_5 : w67.cell? ⟨gb214, 5, none⟩ = some (.int .i64 a1_5) := (blk_cell BK214.out 5).trans rfl; have hcz70_6 : w67.cell? ⟨gb214, 6, none⟩ = some (.int .i64 a1_6) := (blk_cell BK214.out 6).trans rfl; have hcz70_7 : w67.cell? ⟨gb214, 7, none⟩ = some (.int .i64 a1_7) := (blk_cell BK214.out 7).trans rfl; have hcz70_8 : w67.cell? ⟨gb214, 8, none⟩ = some (.slice A1_8 l1_8.length c1_8) := (blk_cell BK214.out 8).trans rfl; have hcz70_9 : w67.cell? ⟨gb214, 9, none⟩ = some (.slice A1_9 l1_9.length c1_9) := (blk_cell BK214.out 9).trans rfl; have hcz70_10 : w67.cell? ⟨gb214, 10, none⟩ = some (.slice A1_10 l1_10.length c1_10) := (blk_cell BK214.out 10).trans rfl; have hfz70_0 := blk_frozen BK214.out 0; have hfz70_1 := blk_frozen BK214.out 1; have hfz70_2 := blk_frozen BK214.out 2; have hfz70_3 := blk_frozen BK214.out 3; have hfz70_4 := blk_frozen BK214.out 4; have hfz70_5 := blk_frozen BK214.out 5; have hfz70_6 := blk_frozen BK214.out 6; have hfz70_7 := blk_frozen BK214.out 7; have hfz70_8 := blk_frozen BK214.out 8; have hfz70_9 := blk_frozen BK214.out 9; have hfz70_10 := blk_frozen BK214.out 10))
  go_ret
  exact ⟨by first | rfl | (simp [errW_none, errW_some] <;> rfl) | (simp [*, errW_none, errW_some] <;> rfl), by repeat (first | (with_reducible first | exact HB.out | apply below_alloc | apply pw_below_drewN | apply below_drew1 | refine below_set ?_ GE213.out | refine below_set ?_ GE214.out) | exact HB.out)⟩

 rw [if_pos c3] at H
 have c3b0 : (a0_0 == a1_0) = true := beq_iff_eq.mpr c3
 have c3b1 : (a0_0 != a1_0) = false := bne_eq_false_iff_eq.mpr c3
 clear c3
 by_cases c4 : a0_1 = a1_1
 rotate_left
 ·rw [if_neg c4] at H
  have c4b0 : (a0_1 == a1_1) = false := beq_eq_false_iff_ne.mpr c4
  have c4b1 : (a0_1 != a1_1) = true := bne_iff_ne.mpr c4
  obtain rfl := Option.some.inj H
  go_enter Tryd.func18, Tryd.ntmps18
  go_wp2_with (first | ((with_reducible refine gate_dst (N := 2) rfl ?_); refine box_event ?hg (N := 2) ?hd (cs := #[.int .u64 a0_0, .int .u64 a0_1, .int .u64 a0_2, .string a0_3, .string a0_4, .int .i64 a0_5, .int .i64 a0_6, .int .i64 a0_7, .slice A0_8 l0_8.length c0_8, .slice A0_9 l0_9.length c0_9, .slice A0_10 l0_10.length c0_10]) (t := 36) ?hr ?_; (case hd => rfl); (case hg => rfl); (case hr => first | (go_simp; done) | (go_simp; rfl)); intro gb213 hg w61 hbox hb; have n0_ := Aside0.mk (below_step (by repeat (first | (with_reducible first | exact HB.out | apply below_alloc | apply pw_below_drewN | apply below_drew1) | exact HB.out)) hb); have n1_ := Aside0.mk (hbox); have n2_ := Aside0.mk ((by rw [hg]; exact (below_size (by repeat (first | (with_reducible first | exact HB.out | apply below_alloc | apply pw_below_drewN | apply below_drew1) | exact HB.out))) : w.heap.size ≤ gb213)); have n3_ := Aside0.mk ((by rw [hg]; exact (below_size (by repeat (first | (with_reducible first | exact HB.out | apply below_alloc | apply pw_below_drewN | apply below_drew1) | exact HB.out))) : w.heap.size ≤ gb213)); clear HB; have HB := n0_; have BK213 := n1_; have GW213 := n2_; have GE213 := n3_; clear n0_ n1_ n2_ n3_; clear hb hbox hg) | ((with_reducible refine gate_dst (N := 3) rfl ?_); refine box_event ?hg (N := 3) ?hd (cs := #[.int .u64 a1_0, .int .u64 a1_1, .int .u64 a1_2, .string a1_3, .string a1_4, .int .i64 a1_5, .int .i64 a1_6, .int .i64 a1_7, .slice A1_8 l1_8.length c1_8, .slice A1_9 l1_9.length c1_9, .slice A1_10 l1_10.length c1_10]) (t := 36) ?hr ?_; (case hd => rfl); (case hg => rfl); (case hr => first | (go_simp; done) | (go_simp; rfl)); intro gb214 hg w62 hbox hb; have n0_ := Aside0.mk (blk_below (g := gb213) (o := .cells #[.int .u64 a0_0, .int .u64 a0_1, .int .u64 a0_2, .string a0_3, .string a0_4, .int .i64 a0_5, .int .i64 a0_6, .int .i64 a0_7, .slice A0_8 l0_8.length c0_8, .slice A0_9 l0_9.length c0_9, .slice A0_10 l0_10.length c0_10] 36 (0, 0)) (by (with_reducible repeat (first | refine blk_drewN ?_ _ | refine blk_drew ?_ | refine blk_alloc ?_ _)); exact BK213.out) hb); have n1_ := Aside0.mk (below_step (by repeat (first | (with_reducible first | exact HB.out | apply below_alloc | apply pw_below_drewN | apply below_drew1 | refine below_set ?_ GE213.out) | exact HB.out)) hb); have n2_ := Aside0.mk (hbox); have n3_ := Aside0.mk ((by rw [hg]; exact (below_size (by repeat (first | (with_reducible first | exact HB.out | apply below_alloc | apply pw_below_drewN | apply below_drew1 | refine below_set ?_ GE213.out) | exact HB.out))) : w.heap.size ≤ gb214)); have n4_ := Aside0.mk ((by rw [hg]; exact (below_size (by repeat (first | (with_reducible first | exact HB.out | apply below_alloc | apply pw_below_drewN | apply below_drew1 | refine below_set ?_ GE213.out) | exact HB.out))) : w.heap.size ≤ gb214)); have n5_ := Aside0.mk ((by rw [hg]; exact Nat.ne_of_lt (blk_lt (g := gb213) (o := .cells #[.int .u64 a0_0, .int .u64 a0_1, .int .u64 a0_2, .string a0_3, .string a0_4, .int .i64 a0_5, .int .i64 a0_6, .int .i64 a0_7, .slice A0_8 l0_8.length c0_8, .slice A0_9 l0_9.length c0_9, .slice A0_10 l0_10.length c0_10] 36 (0, 0)) (by (with_reducible repeat (first | refine blk_drewN ?_ _ | refine blk_drew ?_ | refine blk_alloc ?_ _)); exact BK213.out)) : gb213 ≠ gb214)); have n6_ := Aside0.mk ((by rw [hg]; exact Nat.ne_of_gt (blk_lt (g := gb213) (o := .cells #[.int .u64 a0_0, .int .u64 a0_1, .int .u64 a0_2, .string a0_3, .string a0_4, .int .i64 a0_5, .int .i64 a0_6, .int .i64 a0_7, .slice A0_8 l0_8.length c0_8, .slice A0_9 l0_9.length c0_9, .slice A0_10 l0_10.length c0_10] 36 (0, 0)) (by (with_reducible repeat (first | refine blk_drewN ?_ _ | refine blk_drew ?_ | refine blk_alloc ?_ _)); exact BK213.out)) : gb214 ≠ gb213)); clear BK213; clear HB; have BK213 := n0_; have HB := n1_; have BK214 := n2_; have GW214 := n3_; have GE214 := n4_; have NB213_214 := n5_; have NB214_213 := n6_; clear n0_ n1_ n2_ n3_ n4_ n5_ n6_; clear hb hbox hg; have hnb63 := NB213_214.out; have hnc63 := NB214_213.out; have hcz64_0 : w62.cell? ⟨gb213, 0, none⟩ = some (.int .u64 a0_0) := (blk_cell BK213.out 0).trans rfl; have hcz64_1 : w62.cell? ⟨gb213, 1, none⟩ = some (.int .u64 a0_1) := (blk_cell BK213.out 1).trans rfl; have hcz64_2 : w62.cell? ⟨gb213, 2, none⟩ = some (.int .u64 a0_2) := (blk_cell BK213.out 2).trans rfl; have hcz64_3 : w62.cell? ⟨gb213, 3, none⟩ = some (.string a0_3) := (blk_cell BK213.out 3).trans rfl; have hcz64_4 : w62.cell? ⟨gb213, 4, none⟩ = some (.string a0_4) := (blk_cell BK213.out 4).trans rfl; have hcz64_5 : w62.cell? ⟨gb213, 5, none⟩ = some (.int .i64 a0_5) := (blk_cell BK213.out 5).trans rfl; have hcz64_6 : w62.cell? ⟨gb213, 6, none⟩ = some (.int .i64 a0_6) := (blk_cell BK213.out 6).trans rfl; have hcz64_7 : w62.cell? ⟨gb213, 7, none⟩ = some (.int .i64 a0_7) := (blk_cell BK213.out 7).trans rfl; have hcz64_8 : w62.cell? ⟨gb213, 8, none⟩ = some (.slice A0_8 l0_8.length c0_8) := (blk_cell BK213.out 8).trans rfl; have hcz64_9 : w62.cell? ⟨gb213, 9, none⟩ = some (.slice A0_9 l0_9.length c0_9) := (blk_cell BK213.out 9).trans rfl; have hcz64_10 : w62.cell? ⟨gb213, 10, none⟩ = some (.slice A0_10 l0_10.length c0_10) := (blk_cell BK213.out 10).trans rfl; have hfz64_0 := blk_frozen BK213.out 0; have hfz64_1 := blk_frozen BK213.out 1; have hfz64_2 := blk_frozen BK213.out 2; have hfz64_3 := blk_frozen BK213.out 3; have hfz64_4 := blk_frozen BK213.out 4; have hfz64_5 := blk_frozen BK213.out 5; have hfz64_6 := blk_frozen BK213.out 6; have hfz64_7 := blk_frozen BK213.out 7; have hfz64_8 := blk_frozen BK213.out 8; have hfz64_9 := blk_frozen BK213.out 9; have hfz64_10 := blk_frozen BK213.out 10; have hcz65_0 : w62.cell? ⟨gb214, 0, none⟩ = some (.int .u64 a1_0) := (blk_cell BK214.out 0).trans rfl; have hcz65_1 : w62.cell? ⟨gb214, 1, none⟩ = some (.int .u64 a1_1) := (blk_cell BK214.out 1).trans rfl; have hcz65_2 : w62.cell? ⟨gb214, 2, none⟩ = some (.int .u64 a1_2) := (blk_cell BK214.out 2).trans rfl; have hcz65_3 : w62.cell? ⟨gb214, 3, none⟩ = some (.string a1_3) := (blk_cell BK214.out 3).trans rfl; have hcz65_4 : w62.cell? ⟨gb214, 4, none⟩ = some (.string a1_4) := (blk_cell BK214.out 4).trans rfl; have hcz65_5 : w62.cell? ⟨gb214, 5, none⟩ = some (.int .i64 a1_5) := (blk_cell BK214.out 5).trans rfl; have hcz65_6 : w62.cell? ⟨gb214, 6, none⟩ = some (.int .i64 a1_6) := (blk_cell BK214.out 6).trans rfl; have hcz65_7 : w62.cell? ⟨gb214, 7, none⟩ = some (.int .i64 a1_7) := (blk_cell BK214.out 7).trans rfl; have hcz65_8 : w62.cell? ⟨gb214, 8, none⟩ = some (.slice A1_8 l1_8.length c1_8) := (blk_cell BK214.out 8).trans rfl; have hcz65_9 : w62.cell? ⟨gb214, 9, none⟩ = some (.slice A1_9 l1_9.length c1_9) := (blk_cell BK214.out 9).trans rfl; have hcz65_10 : w62.cell? ⟨gb214, 10, none⟩ = some (.slice A1_10 l1_10.length c1_10) := (blk_cell BK214.out 10).trans rfl; have hfz65_0 := blk_frozen BK214.out 0; have hfz65_1 := blk_frozen BK214.out 1; have hfz65_2 := blk_frozen BK214.out 2; have hfz65_3 := blk_frozen BK214.out 3; have hfz65_4 := blk_frozen BK214.out 4; have hfz65_5 := blk_frozen BK214.out 5; have hfz65_6 := blk_frozen BK214.out 6; have hfz65_7 := blk_frozen BK214.out 7; have hfz65_8 := blk_frozen BK214.out 8; have hfz65_9 := blk_frozen BK214.out 9; have hfz65_10 := blk_frozen BK214.out 10))
  go_ret
  exact ⟨by first | rfl | (simp [errW_none, errW_some] <;> rfl) | (simp [*, errW_none, errW_some] <;> rfl), by repeat (first | (with_reducible first | exact HB.out | apply below_alloc | apply pw_below_drewN | apply below_drew1 | refine below_set ?_ GE213.out | refine below_set ?_ GE214.out) | exact HB.out)⟩
 rw [if_pos c4] at H
 have c4b0 : (a0_1 == a1_1) = true := beq_iff_eq.mpr c4
 have c4b1 : (a0_1 != a1_1) = false := bne_eq_false_iff_eq.mpr c4
 clear c4
 by_cases c5 : a0_2 = a1_2
 rotate_left
 ·rw [if_neg c5] at H
  have c5b0 : (a0_2 == a1_2) = false := beq_eq_false_iff_ne.mpr c5
  have c5b1 : (a0_2 != a1_2) = true := bne_iff_ne.mpr c5
  obtain rfl := Option.some.inj H
  go_enter Tryd.func18, Tryd.ntmps18
  go_wp2_with (first | ((with_reducible refine gate_dst (N := 2) rfl ?_); refine box_event ?hg (N := 2) ?hd (cs := #[.int .u64 a0_0, .int .u64 a0_1, .int .u64 a0_2, .string a0_3, .string a0_4, .int .i64 a0_5, .int .i64 a0_6, .int .i64 a0_7, .slice A0_8 l0_8.length c0_8, .slice A0_9 l0_9.length c0_9, .slice A0_10 l0_10.length c0_10]) (t := 36) ?hr ?_; (case hd => rfl); (case hg => rfl); (case hr => first | (go_simp; done) | (go_simp; rfl)); intro gb213 hg w56 hbox hb; have n0_ := Aside0.mk (below_step (by repeat (first | (with_reducible first | exact HB.out | apply below_alloc | apply pw_below_drewN | apply below_drew1) | exact HB.out)) hb); have n1_ := Aside0.mk (hbox); have n2_ := Aside0.mk ((by rw [hg]; exact (below_size (by repeat (first | (with_reducible first | exact HB.out | apply below_alloc | apply pw_below_drewN | apply below_drew1) | exact HB.out))) : w.heap.size ≤ gb213)); have n3_ := Aside0.mk ((by rw [hg]; exact (below_size (by repeat (first | (with_reducible first | exact HB.out | apply below_alloc | apply pw_below_drewN | apply below_drew1) | exact HB.out))) : w.heap.size ≤ gb213)); clear HB; have HB := n0_; have BK213 := n1_; have GW213 := n2_; have GE213 := n3_; clear n0_ n1_ n2_ n3_; clear hb hbox hg) | ((with_reducible refine gate_dst (N := 3) rfl ?_); refine box_event ?hg (N := 3) ?hd (cs := #[.int .u64 a1_0, .int .u64 a1_1, .int .u64 a1_2, .string a1_3, .string a1_4, .int .i64 a1_5, .int .i64 a1_6, .int .i64 a1_7, .slice A1_8 l1_8.length c1_8, .slice A1_9 l1_9.length c1_9, .slice A1_10 l1_10.length c1_10]) (t := 36) ?hr ?_; (case hd => rfl); (case hg => rfl); (case hr => first | (go_simp; done) | (go_simp; rfl)); intro gb214 hg w57 hbox hb; have n0_ := Aside0.mk (blk_below (g := gb213) (o := .cells #[.int .u64 a0_0, .int .u64 a0_1, .int .u64 a0_2, .string a0_3, .string a0_4, .int .i64 a0_5, .int .i64 a0_6, .int .i64 a0_7, .slice A0_8 l0_8.length c0_8, .slice A0_9 l0_9.length c0_9, .slice A0_10 l0_10.length c0_10] 36 (0, 0)) (by (with_reducible repeat (first | refine blk_drewN ?_ _ | refine blk_drew ?_ | refine blk_alloc ?_ _)); exact BK213.out) hb); have n1_ := Aside0.mk (below_step (by repeat (first | (with_reducible first | exact HB.out | apply below_alloc | apply pw_below_drewN | apply below_drew1 | refine below_set ?_ GE213.out) | exact HB.out)) hb); have n2_ := Aside0.mk (hbox); have n3_ := Aside0.mk ((by rw [hg]; exact (below_size (by repeat (first | (with_reducible first | exact HB.out | apply below_alloc | apply pw_below_drewN | apply below_drew1 | refine below_set ?_ GE213.out) | exact HB.out))) : w.heap.size ≤ gb214)); have n4_ := Aside0.mk ((by rw [hg]; exact (below_size (by repeat (first | (with_reducible first | exact HB.out | apply below_alloc | apply pw_below_drewN | apply below_drew1 | refine below_set ?_ GE213.out) | exact HB.out))) : w.heap.size ≤ gb214)); have n5_ := Aside0.mk ((by rw [hg]; exact Nat.ne_of_lt (blk_lt (g := gb213) (o := .cells #[.int .u64 a0_0, .int .u64 a0_1, .int .u64 a0_2, .string a0_3, .string a0_4, .int .i64 a0_5, .int .i64 a0_6, .int .i64 a0_7, .slice A0_8 l0_8.length c0_8, .slice A0_9 l0_9.length c0_9, .slice A0_10 l0_10.length c0_10] 36 (0, 0)) (by (with_reducible repeat (first | refine blk_drewN ?_ _ | refine blk_drew ?_ | refine blk_alloc ?_ _)); exact BK213.out)) : gb213 ≠ gb214)); have n6_ := Aside0.mk ((by rw [hg]; exact Nat.ne_of_gt (blk_lt (g := gb213) (o := .cells #[.int .u64 a0_0, .int .u64 a0_1, .int .u64 a0_2, .string a0_3, .string a0_4, .int .i64 a0_5, .int .i64 a0_6, .int .i64 a0_7, .slice A0_8 l0_8.length c0_8, .slice A0_9 l0_9.length c0_9, .slice A0_10 l0_10.length c0_10] 36 (0, 0)) (by (with_reducible repeat (first | refine blk_drewN ?_ _ | refine blk_drew ?_ | refine blk_alloc ?_ _)); exact BK213.out)) : gb214 ≠ gb213)); clear BK213; clear HB; have BK213 := n0_; have HB := n1_; have BK214 := n2_; have GW214 := n3_; have GE214 := n4_; have NB213_214 := n5_; have NB214_213 := n6_; clear n0_ n1_ n2_ n3_ n4_ n5_ n6_; clear hb hbox hg; have hnb58 := NB213_214.out; have hnc58 := NB214_213.out; have hcz59_0 : w57.cell? ⟨gb213, 0, none⟩ = some (.int .u64 a0_0) := (blk_cell BK213.out 0).trans rfl; have hcz59_1 : w57.cell? ⟨gb213, 1, none⟩ = some (.int .u64 a0_1) := (blk_cell BK213.out 1).trans rfl; have hcz59_2 : w57.cell? ⟨gb213, 2, none⟩ = some (.int .u64 a0_2) := (blk_cell BK213.out 2).trans rfl; have hcz59_3 : w57.cell? ⟨gb213, 3, none⟩ = some (.string a0_3) := (blk_cell BK213.out 3).trans rfl; have hcz59_4 : w57.cell? ⟨gb213, 4, none⟩ = some (.string a0_4) := (blk_cell BK213.out 4).trans rfl; have hcz59_5 : w57.cell? ⟨gb213, 5, none⟩ = some (.int .i64 a0_5) := (blk_cell BK213.out 5).trans rfl; have hcz59_6 : w57.cell? ⟨gb213, 6, none⟩ = some (.int .i64 a0_6) := (blk_cell BK213.out 6).trans rfl; have hcz59_7 : w57.cell? ⟨gb213, 7, none⟩ = some (.int .i64 a0_7) := (blk_cell BK213.out 7).trans rfl; have hcz59_8 : w57.cell? ⟨gb213, 8, none⟩ = some (.slice A0_8 l0_8.length c0_8) := (blk_cell BK213.out 8).trans rfl; have hcz59_9 : w57.cell? ⟨gb213, 9, none⟩ = some (.slice A0_9 l0_9.length c0_9) := (blk_cell BK213.out 9).trans rfl; have hcz59_10 : w57.cell? ⟨gb213, 10, none⟩ = some (.slice A0_10 l0_10.length c0_10) := (blk_cell BK213.out 10).trans rfl; have hfz59_0 := blk_frozen BK213.out 0; have hfz59_1 := blk_frozen BK213.out 1; have hfz59_2 := blk_frozen BK213.out 2; have hfz59_3 := blk_frozen BK213.out 3; have hfz59_4 := blk_frozen BK213.out 4; have hfz59_5 := blk_frozen BK213.out 5; have hfz59_6 := blk_frozen BK213.out 6; have hfz59_7 := blk_frozen BK213.out 7; have hfz59_8 := blk_frozen BK213.out 8; have hfz59_9 := blk_frozen BK213.out 9; have hfz59_10 := blk_frozen BK213.out 10; have hcz60_0 : w57.cell? ⟨gb214, 0, none⟩ = some (.int .u64 a1_0) := (blk_cell BK214.out 0).trans rfl; have hcz60_1 : w57.cell? ⟨gb214, 1, none⟩ = some (.int .u64 a1_1) := (blk_cell BK214.out 1).trans rfl; have hcz60_2 : w57.cell? ⟨gb214, 2, none⟩ = some (.int .u64 a1_2) := (blk_cell BK214.out 2).trans rfl; have hcz60_3 : w57.cell? ⟨gb214, 3, none⟩ = some (.string a1_3) := (blk_cell BK214.out 3).trans rfl; have hcz60_4 : w57.cell? ⟨gb214, 4, none⟩ = some (.string a1_4) := (blk_cell BK214.out 4).trans rfl; have hcz60_5 : w57.cell? ⟨gb214, 5, none⟩ = some (.int .i64 a1_5) := (blk_cell BK214.out 5).trans rfl; have hcz60_6 : w57.cell? ⟨gb214, 6, none⟩ = some (.int .i64 a1_6) := (blk_cell BK214.out 6).trans rfl; have hcz60_7 : w57.cell? ⟨gb214, 7, none⟩ = some (.int .i64 a1_7) := (blk_cell BK214.out 7).trans rfl; have hcz60_8 : w57.cell? ⟨gb214, 8, none⟩ = some (.slice A1_8 l1_8.length c1_8) := (blk_cell BK214.out 8).trans rfl; have hcz60_9 : w57.cell? ⟨gb214, 9, none⟩ = some (.slice A1_9 l1_9.length c1_9) := (blk_cell BK214.out 9).trans rfl; have hcz60_10 : w57.cell? ⟨gb214, 10, none⟩ = some (.slice A1_10 l1_10.length c1_10) := (blk_cell BK214.out 10).trans rfl; have hfz60_0 := blk_frozen BK214.out 0; have hfz60_1 := blk_frozen BK214.out 1; have hfz60_2 := blk_frozen BK214.out 2; have hfz60_3 := blk_frozen BK214.out 3; have hfz60_4 := blk_frozen BK214.out 4; have hfz60_5 := blk_frozen BK214.out 5; have hfz60_6 := blk_frozen BK214.out 6; have hfz60_7 := blk_frozen BK214.out 7; have hfz60_8 := blk_frozen BK214.out 8; have hfz60_9 := blk_frozen BK214.out 9; have hfz60_10 := blk_frozen BK214.out 10))
  go_ret
  exact ⟨by first | rfl | (simp [errW_none, errW_some] <;> rfl) | (simp [*, errW_none, errW_some] <;> rfl), by repeat (first | (with_reducible first | exact HB.out | apply below_alloc | apply pw_below_drewN | apply below_drew1 | refine below_set ?_ GE213.out | refine below_set ?_ GE214.out) | exact HB.out)⟩
 rw [if_pos c5] at H
 have c5b0 : (a0_2 == a1_2) = true := beq_iff_eq.mpr c5
 have c5b1 : (a0_2 != a1_2) = false := bne_eq_false_iff_eq.mpr c5
 clear c5
 by_cases c6 : a0_3.toList = a1_3.toList
 rotate_left
 ·rw [if_neg c6] at H
  have c6b0 : (a0_3.toList == a1_3.toList) = false := beq_eq_false_iff_ne.mpr c6
  have c6b1 : (a0_3.toList != a1_3.toList) = true := bne_iff_ne.mpr c6
  obtain rfl := Option.some.inj H
  go_enter Tryd.func18, Tryd.ntmps18
  go_wp2_with (first | ((with_reducible refine gate_dst (N := 2) rfl ?_); refine box_event ?hg (N := 2) ?hd (cs := #[.int .u64 a0_0, .int .u64 a0_1, .int .u64 a0_2, .string a0_3, .string a0_4, .int .i64 a0_5, .int .i64 a0_6, .int .i64 a0_7, .slice A0_8 l0_8.length c0_8, .slice A0_9 l0_9.length c0_9, .slice A0_10 l0_10.length c0_10]) (t := 36) ?hr ?_; (case hd => rfl); (case hg => rfl); (case hr => first | (go_simp; done) | (go_simp; rfl)); intro gb213 hg w51 hbox hb; have n0_ := Aside0.mk (below_step (by repeat (first | (with_reducible first | exact HB.out | apply below_alloc | apply pw_below_drewN | apply below_drew1) | exact HB.out)) hb); have n1_ := Aside0.mk (hbox); have n2_ := Aside0.mk ((by rw [hg]; exact (below_size (by repeat (first | (with_reducible first | exact HB.out | apply below_alloc | apply pw_below_drewN | apply below_drew1) | exact HB.out))) : w.heap.size ≤ gb213)); have n3_ := Aside0.mk ((by rw [hg]; exact (below_size (by repeat (first | (with_reducible first | exact HB.out | apply below_alloc | apply pw_below_drewN | apply below_drew1) | exact HB.out))) : w.heap.size ≤ gb213)); clear HB; have HB := n0_; have BK213 := n1_; have GW213 := n2_; have GE213 := n3_; clear n0_ n1_ n2_ n3_; clear hb hbox hg) | ((with_reducible refine gate_dst (N := 3) rfl ?_); refine box_event ?hg (N := 3) ?hd (cs := #[.int .u64 a1_0, .int .u64 a1_1, .int .u64 a1_2, .string a1_3, .string a1_4, .int .i64 a1_5, .int .i64 a1_6, .int .i64 a1_7, .slice A1_8 l1_8.length c1_8, .slice A1_9 l1_9.length c1_9, .slice A1_10 l1_10.length c1_10]) (t := 36) ?hr ?_; (case hd => rfl); (case hg => rfl); (case hr => first | (go_simp; done) | (go_simp; rfl)); intro gb214 hg w52 hbox hb; have n0_ := Aside0.mk (blk_below (g := gb213) (o := .cells #[.int .u64 a0_0, .int .u64 a0_1, .int .u64 a0_2, .string a0_3, .string a0_4, .int .i64 a0_5, .int .i64 a0_6, .int .i64 a0_7, .slice A0_8 l0_8.length c0_8, .slice A0_9 l0_9.length c0_9, .slice A0_10 l0_10.length c0_10] 36 (0, 0)) (by (with_reducible repeat (first | refine blk_drewN ?_ _ | refine blk_drew ?_ | refine blk_alloc ?_ _)); exact BK213.out) hb); have n1_ := Aside0.mk (below_step (by repeat (first | (with_reducible first | exact HB.out | apply below_alloc | apply pw_below_drewN | apply below_drew1 | refine below_set ?_ GE213.out) | exact HB.out)) hb); have n2_ := Aside0.mk (hbox); have n3_ := Aside0.mk ((by rw [hg]; exact (below_size (by repeat (first | (with_reducible first | exact HB.out | apply below_alloc | apply pw_below_drewN | apply below_drew1 | refine below_set ?_ GE213.out) | exact HB.out))) : w.heap.size ≤ gb214)); have n4_ := Aside0.mk ((by rw [hg]; exact (below_size (by repeat (first | (with_reducible first | exact HB.out | apply below_alloc | apply pw_below_drewN | apply below_drew1 | refine below_set ?_ GE213.out) | exact HB.out))) : w.heap.size ≤ gb214)); have n5_ := Aside0.mk ((by rw [hg]; exact Nat.ne_of_lt (blk_lt (g := gb213) (o := .cells #[.int .u64 a0_0, .int .u64 a0_1, .int .u64 a0_2, .string a0_3, .string a0_4, .int .i64 a0_5, .int .i64 a0_6, .int .i64 a0_7, .slice A0_8 l0_8.length c0_8, .slice A0_9 l0_9.length c0_9, .slice A0_10 l0_10.length c0_10] 36 (0, 0)) (by (with_reducible repeat (first | refine blk_drewN ?_ _ | refine blk_drew ?_ | refine blk_alloc ?_ _)); exact BK213.out)) : gb213 ≠ gb214)); have n6_ := Aside0.mk ((by rw [hg]; exact Nat.ne_of_gt (blk_lt (g := gb213) (o := .cells #[.int .u64 a0_0, .int .u64 a0_1, .int .u64 a0_2, .string a0_3, .string a0_4, .int .i64 a0_5, .int .i64 a0_6, .int .i64 a0_7, .slice A0_8 l0_8.length c0_8, .slice A0_9 l0_9.length c0_9, .slice A0_10 l0_10.length c0_10] 36 (0, 0)) (by (with_reducible repeat (first | refine blk_drewN ?_ _ | refine blk_drew ?_ | refine blk_alloc ?_ _)); exact BK213.out)) : gb214 ≠ gb213)); clear BK213; clear HB; have BK213 := n0_; have HB := n1_; have BK214 := n2_; have GW214 := n3_; have GE214 := n4_; have NB213_214 := n5_; have NB214_213 := n6_; clear n0_ n1_ n2_ n3_ n4_ n5_ n6_; clear hb hbox hg; have hnb53 := NB213_214.out; have hnc53 := NB214_213.out; have hcz54_0 : w52.cell? ⟨gb213, 0, none⟩ = some (.int .u64 a0_0) := (blk_cell BK213.out 0).trans rfl; have hcz54_1 : w52.cell? ⟨gb213, 1, none⟩ = some (.int .u64 a0_1) := (blk_cell BK213.out 1).trans rfl; have hcz54_2 : w52.cell? ⟨gb213, 2, none⟩ = some (.int .u64 a0_2) := (blk_cell BK213.out 2).trans rfl; have hcz54_3 : w52.cell? ⟨gb213, 3, none⟩ = some (.string a0_3) := (blk_cell BK213.out 3).trans rfl; have hcz54_4 : w52.cell? ⟨gb213, 4, none⟩ = some (.string a0_4) := (blk_cell BK213.out 4).trans rfl; have hcz54_5 : w52.cell? ⟨gb213, 5, none⟩ = some (.int .i64 a0_5) := (blk_cell BK213.out 5).trans rfl; have hcz54_6 : w52.cell? ⟨gb213, 6, none⟩ = some (.int .i64 a0_6) := (blk_cell BK213.out 6).trans rfl; have hcz54_7 : w52.cell? ⟨gb213, 7, none⟩ = some (.int .i64 a0_7) := (blk_cell BK213.out 7).trans rfl; have hcz54_8 : w52.cell? ⟨gb213, 8, none⟩ = some (.slice A0_8 l0_8.length c0_8) := (blk_cell BK213.out 8).trans rfl; have hcz54_9 : w52.cell? ⟨gb213, 9, none⟩ = some (.slice A0_9 l0_9.length c0_9) := (blk_cell BK213.out 9).trans rfl; have hcz54_10 : w52.cell? ⟨gb213, 10, none⟩ = some (.slice A0_10 l0_10.length c0_10) := (blk_cell BK213.out 10).trans rfl; have hfz54_0 := blk_frozen BK213.out 0; have hfz54_1 := blk_frozen BK213.out 1; have hfz54_2 := blk_frozen BK213.out 2; have hfz54_3 := blk_frozen BK213.out 3; have hfz54_4 := blk_frozen BK213.out 4; have hfz54_5 := blk_frozen BK213.out 5; have hfz54_6 := blk_frozen BK213.out 6; have hfz54_7 := blk_frozen BK213.out 7; have hfz54_8 := blk_frozen BK213.out 8; have hfz54_9 := blk_frozen BK213.out 9; have hfz54_10 := blk_frozen BK213.out 10; have hcz55_0 : w52.cell? ⟨gb214, 0, none⟩ = some (.int .u64 a1_0) := (blk_cell BK214.out 0).trans rfl; have hcz55_1 : w52.cell? ⟨gb214, 1, none⟩ = some (.int .u64 a1_1) := (blk_cell BK214.out 1).trans rfl; have hcz55_2 : w52.cell? ⟨gb214, 2, none⟩ = some (.int .u64 a1_2) := (blk_cell BK214.out 2).trans rfl; have hcz55_3 : w52.cell? ⟨gb214, 3, none⟩ = some (.string a1_3) := (blk_cell BK214.out 3).trans rfl; have hcz55_4 : w52.cell? ⟨gb214, 4, none⟩ = some (.string a1_4) := (blk_cell BK214.out 4).trans rfl; have hcz55_5 : w52.cell? ⟨gb214, 5, none⟩ = some (.int .i64 a1_5) := (blk_cell BK214.out 5).trans rfl; have hcz55_6 : w52.cell? ⟨gb214, 6, none⟩ = some (.int .i64 a1_6) := (blk_cell BK214.out 6).trans rfl; have hcz55_7 : w52.cell? ⟨gb214, 7, none⟩ = some (.int .i64 a1_7) := (blk_cell BK214.out 7).trans rfl; have hcz55_8 : w52.cell? ⟨gb214, 8, none⟩ = some (.slice A1_8 l1_8.length c1_8) := (blk_cell BK214.out 8).trans rfl; have hcz55_9 : w52.cell? ⟨gb214, 9, none⟩ = some (.slice A1_9 l1_9.length c1_9) := (blk_cell BK214.out 9).trans rfl; have hcz55_10 : w52.cell? ⟨gb214, 10, none⟩ = some (.slice A1_10 l1_10.length c1_10) := (blk_cell BK214.out 10).trans rfl; have hfz55_0 := blk_frozen BK214.out 0; have hfz55_1 := blk_frozen BK214.out 1; have hfz55_2 := blk_frozen BK214.out 2; have hfz55_3 := blk_frozen BK214.out 3; have hfz55_4 := blk_frozen BK214.out 4; have hfz55_5 := blk_frozen BK214.out 5; have hfz55_6 := blk_frozen BK214.out 6; have hfz55_7 := blk_frozen BK214.out 7; have hfz55_8 := blk_frozen BK214.out 8; have hfz55_9 := blk_frozen BK214.out 9; have hfz55_10 := blk_frozen BK214.out 10))
  go_ret
  exact ⟨by first | rfl | (simp [errW_none, errW_some] <;> rfl) | (simp [*, errW_none, errW_some] <;> rfl), by repeat (first | (with_reducible first | exact HB.out | apply below_alloc | apply pw_below_drewN | apply below_drew1 | refine below_set ?_ GE213.out | refine below_set ?_ GE214.out) | exact HB.out)⟩
 rw [if_pos c6] at H
 have c6b0 : (a0_3.toList == a1_3.toList) = true := beq_iff_eq.mpr c6
 have c6b1 : (a0_3.toList != a1_3.toList) = false := bne_eq_false_iff_eq.mpr c6
 clear c6
 by_cases c7 : a0_4.toList = a1_4.toList
 rotate_left
 ·rw [if_neg c7] at H
  have c7b0 : (a0_4.toList == a1_4.toList) = false := beq_eq_false_iff_ne.mpr c7
  have c7b1 : (a0_4.toList != a1_4.toList) = true := bne_iff_ne.mpr c7
  obtain rfl := Option.some.inj H
  go_enter Tryd.func18, Tryd.ntmps18
  go_wp2_with (first | ((with_reducible refine gate_dst (N := 2) rfl ?_); refine box_event ?hg (N := 2) ?hd (cs := #[.int .u64 a0_0, .int .u64 a0_1, .int .u64 a0_2, .string a0_3, .string a0_4, .int .i64 a0_5, .int .i64 a0_6, .int .i64 a0_7, .slice A0_8 l0_8.length c0_8, .slice A0_9 l0_9.length c0_9, .slice A0_10 l0_10.length c0_10]) (t := 36) ?hr ?_; (case hd => rfl); (case hg => rfl); (case hr => first | (go_simp; done) | (go_simp; rfl)); intro gb213 hg w46 hbox hb; have n0_ := Aside0.mk (below_step (by repeat (first | (with_reducible first | exact HB.out | apply below_alloc | apply pw_below_drewN | apply below_drew1) | exact HB.out)) hb); have n1_ := Aside0.mk (hbox); have n2_ := Aside0.mk ((by rw [hg]; exact (below_size (by repeat (first | (with_reducible first | exact HB.out | apply below_alloc | apply pw_below_drewN | apply below_drew1) | exact HB.out))) : w.heap.size ≤ gb213)); have n3_ := Aside0.mk ((by rw [hg]; exact (below_size (by repeat (first | (with_reducible first | exact HB.out | apply below_alloc | apply pw_below_drewN | apply below_drew1) | exact HB.out))) : w.heap.size ≤ gb213)); clear HB; have HB := n0_; have BK213 := n1_; have GW213 := n2_; have GE213 := n3_; clear n0_ n1_ n2_ n3_; clear hb hbox hg) | ((with_reducible refine gate_dst (N := 3) rfl ?_); refine box_event ?hg (N := 3) ?hd (cs := #[.int .u64 a1_0, .int .u64 a1_1, .int .u64 a1_2, .string a1_3, .string a1_4, .int .i64 a1_5, .int .i64 a1_6, .int .i64 a1_7, .slice A1_8 l1_8.length c1_8, .slice A1_9 l1_9.length c1_9, .slice A1_10 l1_10.length c1_10]) (t := 36) ?hr ?_; (case hd => rfl); (case hg => rfl); (case hr => first | (go_simp; done) | (go_simp; rfl)); intro gb214 hg w47 hbox hb; have n0_ := Aside0.mk (blk_below (g := gb213) (o := .cells #[.int .u64 a0_0, .int .u64 a0_1, .int .u64 a0_2, .string a0_3, .string a0_4, .int .i64 a0_5, .int .i64 a0_6, .int .i64 a0_7, .slice A0_8 l0_8.length c0_8, .slice A0_9 l0_9.length c0_9, .slice A0_10 l0_10.length c0_10] 36 (0, 0)) (by (with_reducible repeat (first | refine blk_drewN ?_ _ | refine blk_drew ?_ | refine blk_alloc ?_ _)); exact BK213.out) hb); have n1_ := Aside0.mk (below_step (by repeat (first | (with_reducible first | exact HB.out | apply below_alloc | apply pw_below_drewN | apply below_drew1 | refine below_set ?_ GE213.out) | exact HB.out)) hb); have n2_ := Aside0.mk (hbox); have n3_ := Aside0.mk ((by rw [hg]; exact (below_size (by repeat (first | (with_reducible first | exact HB.out | apply below_alloc | apply pw_below_drewN | apply below_drew1 | refine below_set ?_ GE213.out) | exact HB.out))) : w.heap.size ≤ gb214)); have n4_ := Aside0.mk ((by rw [hg]; exact (below_size (by repeat (first | (with_reducible first | exact HB.out | apply below_alloc | apply pw_below_drewN | apply below_drew1 | refine below_set ?_ GE213.out) | exact HB.out))) : w.heap.size ≤ gb214)); have n5_ := Aside0.mk ((by rw [hg]; exact Nat.ne_of_lt (blk_lt (g := gb213) (o := .cells #[.int .u64 a0_0, .int .u64 a0_1, .int .u64 a0_2, .string a0_3, .string a0_4, .int .i64 a0_5, .int .i64 a0_6, .int .i64 a0_7, .slice A0_8 l0_8.length c0_8, .slice A0_9 l0_9.length c0_9, .slice A0_10 l0_10.length c0_10] 36 (0, 0)) (by (with_reducible repeat (first | refine blk_drewN ?_ _ | refine blk_drew ?_ | refine blk_alloc ?_ _)); exact BK213.out)) : gb213 ≠ gb214)); have n6_ := Aside0.mk ((by rw [hg]; exact Nat.ne_of_gt (blk_lt (g := gb213) (o := .cells #[.int .u64 a0_0, .int .u64 a0_1, .int .u64 a0_2, .string a0_3, .string a0_4, .int .i64 a0_5, .int .i64 a0_6, .int .i64 a0_7, .slice A0_8 l0_8.length c0_8, .slice A0_9 l0_9.length c0_9, .slice A0_10 l0_10.length c0_10] 36 (0, 0)) (by (with_reducible repeat (first | refine blk_drewN ?_ _ | refine blk_drew ?_ | refine blk_alloc ?_ _)); exact BK213.out)) : gb214 ≠ gb213)); clear BK213; clear HB; have BK213 := n0_; have HB := n1_; have BK214 := n2_; have GW214 := n3_; have GE214 := n4_; have NB213_214 := n5_; have NB214_213 := n6_; clear n0_ n1_ n2_ n3_ n4_ n5_ n6_; clear hb hbox hg; have hnb48 := NB213_214.out; have hnc48 := NB214_213.out; have hcz49_0 : w47.cell? ⟨gb213, 0, none⟩ = some (.int .u64 a0_0) := (blk_cell BK213.out 0).trans rfl; have hcz49_1 : w47.cell? ⟨gb213, 1, none⟩ = some (.int .u64 a0_1) := (blk_cell BK213.out 1).trans rfl; have hcz49_2 : w47.cell? ⟨gb213, 2, none⟩ = some (.int .u64 a0_2) := (blk_cell BK213.out 2).trans rfl; have hcz49_3 : w47.cell? ⟨gb213, 3, none⟩ = some (.string a0_3) := (blk_cell BK213.out 3).trans rfl; have hcz49_4 : w47.cell? ⟨gb213, 4, none⟩ = some (.string a0_4) := (blk_cell BK213.out 4).trans rfl; have hcz49_5 : w47.cell? ⟨gb213, 5, none⟩ = some (.int .i64 a0_5) := (blk_cell BK213.out 5).trans rfl; have hcz49_6 : w47.cell? ⟨gb213, 6, none⟩ = some (.int .i64 a0_6) := (blk_cell BK213.out 6).trans rfl; have hcz49_7 : w47.cell? ⟨gb213, 7, none⟩ = some (.int .i64 a0_7) := (blk_cell BK213.out 7).trans rfl; have hcz49_8 : w47.cell? ⟨gb213, 8, none⟩ = some (.slice A0_8 l0_8.length c0_8) := (blk_cell BK213.out 8).trans rfl; have hcz49_9 : w47.cell? ⟨gb213, 9, none⟩ = some (.slice A0_9 l0_9.length c0_9) := (blk_cell BK213.out 9).trans rfl; have hcz49_10 : w47.cell? ⟨gb213, 10, none⟩ = some (.slice A0_10 l0_10.length c0_10) := (blk_cell BK213.out 10).trans rfl; have hfz49_0 := blk_frozen BK213.out 0; have hfz49_1 := blk_frozen BK213.out 1; have hfz49_2 := blk_frozen BK213.out 2; have hfz49_3 := blk_frozen BK213.out 3; have hfz49_4 := blk_frozen BK213.out 4; have hfz49_5 := blk_frozen BK213.out 5; have hfz49_6 := blk_frozen BK213.out 6; have hfz49_7 := blk_frozen BK213.out 7; have hfz49_8 := blk_frozen BK213.out 8; have hfz49_9 := blk_frozen BK213.out 9; have hfz49_10 := blk_frozen BK213.out 10; have hcz50_0 : w47.cell? ⟨gb214, 0, none⟩ = some (.int .u64 a1_0) := (blk_cell BK214.out 0).trans rfl; have hcz50_1 : w47.cell? ⟨gb214, 1, none⟩ = some (.int .u64 a1_1) := (blk_cell BK214.out 1).trans rfl; have hcz50_2 : w47.cell? ⟨gb214, 2, none⟩ = some (.int .u64 a1_2) := (blk_cell BK214.out 2).trans rfl; have hcz50_3 : w47.cell? ⟨gb214, 3, none⟩ = some (.string a1_3) := (blk_cell BK214.out 3).trans rfl; have hcz50_4 : w47.cell? ⟨gb214, 4, none⟩ = some (.string a1_4) := (blk_cell BK214.out 4).trans rfl; have hcz50_5 : w47.cell? ⟨gb214, 5, none⟩ = some (.int .i64 a1_5) := (blk_cell BK214.out 5).trans rfl; have hcz50_6 : w47.cell? ⟨gb214, 6, none⟩ = some (.int .i64 a1_6) := (blk_cell BK214.out 6).trans rfl; have hcz50_7 : w47.cell? ⟨gb214, 7, none⟩ = some (.int .i64 a1_7) := (blk_cell BK214.out 7).trans rfl; have hcz50_8 : w47.cell? ⟨gb214, 8, none⟩ = some (.slice A1_8 l1_8.length c1_8) := (blk_cell BK214.out 8).trans rfl; have hcz50_9 : w47.cell? ⟨gb214, 9, none⟩ = some (.slice A1_9 l1_9.length c1_9) := (blk_cell BK214.out 9).trans rfl; have hcz50_10 : w47.cell? ⟨gb214, 10, none⟩ = some (.slice A1_10 l1_10.length c1_10) := (blk_cell BK214.out 10).trans rfl; have hfz50_0 := blk_frozen BK214.out 0; have hfz50_1 := blk_frozen BK214.out 1; have hfz50_2 := blk_frozen BK214.out 2; have hfz50_3 := blk_frozen BK214.out 3; have hfz50_4 := blk_frozen BK214.out 4; have hfz50_5 := blk_frozen BK214.out 5; have hfz50_6 := blk_frozen BK214.out 6; have hfz50_7 := blk_frozen BK214.out 7; have hfz50_8 := blk_frozen BK214.out 8; have hfz50_9 := blk_frozen BK214.out 9; have hfz50_10 := blk_frozen BK214.out 10))
  go_ret
  exact ⟨by first | rfl | (simp [errW_none, errW_some] <;> rfl) | (simp [*, errW_none, errW_some] <;> rfl), by repeat (first | (with_reducible first | exact HB.out | apply below_alloc | apply pw_below_drewN | apply below_drew1 | refine below_set ?_ GE213.out | refine below_set ?_ GE214.out) | exact HB.out)⟩
 rw [if_pos c7] at H
 have c7b0 : (a0_4.toList == a1_4.toList) = true := beq_iff_eq.mpr c7
 have c7b1 : (a0_4.toList != a1_4.toList) = false := bne_eq_false_iff_eq.mpr c7
 clear c7
 by_cases c8 : a0_5 = a1_5
 rotate_left
 ·rw [if_neg c8] at H
  have c8b0 : (a0_5 == a1_5) = false := beq_eq_false_iff_ne.mpr c8
  have c8b1 : (a0_5 != a1_5) = true := bne_iff_ne.mpr c8
  obtain rfl := Option.some.inj H
  go_enter Tryd.func18, Tryd.ntmps18
  go_wp2_with (first | ((with_reducible refine gate_dst (N := 2) rfl ?_); refine box_event ?hg (N := 2) ?hd (cs := #[.int .u64 a0_0, .int .u64 a0_1, .int .u64 a0_2, .string a0_3, .string a0_4, .int .i64 a0_5, .int .i64 a0_6, .int .i64 a0_7, .slice A0_8 l0_8.length c0_8, .slice A0_9 l0_9.length c0_9, .slice A0_10 l0_10.length c0_10]) (t := 36) ?hr ?_; (case hd => rfl); (case hg => rfl); (case hr => first | (go_simp; done) | (go_simp; rfl)); intro gb213 hg w41 hbox hb; have n0_ := Aside0.mk (below_step (by repeat (first | (with_reducible first | exact HB.out | apply below_alloc | apply pw_below_drewN | apply below_drew1) | exact HB.out)) hb); have n1_ := Aside0.mk (hbox); have n2_ := Aside0.mk ((by rw [hg]; exact (below_size (by repeat (first | (with_reducible first | exact HB.out | apply below_alloc | apply pw_below_drewN | apply below_drew1) | exact HB.out))) : w.heap.size ≤ gb213)); have n3_ := Aside0.mk ((by rw [hg]; exact (below_size (by repeat (first | (with_reducible first | exact HB.out | apply below_alloc | apply pw_below_drewN | apply below_drew1) | exact HB.out))) : w.heap.size ≤ gb213)); clear HB; have HB := n0_; have BK213 := n1_; have GW213 := n2_; have GE213 := n3_; clear n0_ n1_ n2_ n3_; clear hb hbox hg) | ((with_reducible refine gate_dst (N := 3) rfl ?_); refine box_event ?hg (N := 3) ?hd (cs := #[.int .u64 a1_0, .int .u64 a1_1, .int .u64 a1_2, .string a1_3, .string a1_4, .int .i64 a1_5, .int .i64 a1_6, .int .i64 a1_7, .slice A1_8 l1_8.length c1_8, .slice A1_9 l1_9.length c1_9, .slice A1_10 l1_10.length c1_10]) (t := 36) ?hr ?_; (case hd => rfl); (case hg => rfl); (case hr => first | (go_simp; done) | (go_simp; rfl)); intro gb214 hg w42 hbox hb; have n0_ := Aside0.mk (blk_below (g := gb213) (o := .cells #[.int .u64 a0_0, .int .u64 a0_1, .int .u64 a0_2, .string a0_3, .string a0_4, .int .i64 a0_5, .int .i64 a0_6, .int .i64 a0_7, .slice A0_8 l0_8.length c0_8, .slice A0_9 l0_9.length c0_9, .slice A0_10 l0_10.length c0_10] 36 (0, 0)) (by (with_reducible repeat (first | refine blk_drewN ?_ _ | refine blk_drew ?_ | refine blk_alloc ?_ _)); exact BK213.out) hb); have n1_ := Aside0.mk (below_step (by repeat (first | (with_reducible first | exact HB.out | apply below_alloc | apply pw_below_drewN | apply below_drew1 | refine below_set ?_ GE213.out) | exact HB.out)) hb); have n2_ := Aside0.mk (hbox); have n3_ := Aside0.mk ((by rw [hg]; exact (below_size (by repeat (first | (with_reducible first | exact HB.out | apply below_alloc | apply pw_below_drewN | apply below_drew1 | refine below_set ?_ GE213.out) | exact HB.out))) : w.heap.size ≤ gb214)); have n4_ := Aside0.mk ((by rw [hg]; exact (below_size (by repeat (first | (with_reducible first | exact HB.out | apply below_alloc | apply pw_below_drewN | apply below_drew1 | refine below_set ?_ GE213.out) | exact HB.out))) : w.heap.size ≤ gb214)); have n5_ := Aside0.mk ((by rw [hg]; exact Nat.ne_of_lt (blk_lt (g := gb213) (o := .cells #[.int .u64 a0_0, .int .u64 a0_1, .int .u64 a0_2, .string a0_3, .string a0_4, .int .i64 a0_5, .int .i64 a0_6, .int .i64 a0_7, .slice A0_8 l0_8.length c0_8, .slice A0_9 l0_9.length c0_9, .slice A0_10 l0_10.length c0_10] 36 (0, 0)) (by (with_reducible repeat (first | refine blk_drewN ?_ _ | refine blk_drew ?_ | refine blk_alloc ?_ _)); exact BK213.out)) : gb213 ≠ gb214)); have n6_ := Aside0.mk ((by rw [hg]; exact Nat.ne_of_gt (blk_lt (g := gb213) (o := .cells #[.int .u64 a0_0, .int .u64 a0_1, .int .u64 a0_2, .string a0_3, .string a0_4, .int .i64 a0_5, .int .i64 a0_6, .int .i64 a0_7, .slice A0_8 l0_8.length c0_8, .slice A0_9 l0_9.length c0_9, .slice A0_10 l0_10.length c0_10] 36 (0, 0)) (by (with_reducible repeat (first | refine blk_drewN ?_ _ | refine blk_drew ?_ | refine blk_alloc ?_ _)); exact BK213.out)) : gb214 ≠ gb213)); clear BK213; clear HB; have BK213 := n0_; have HB := n1_; have BK214 := n2_; have GW214 := n3_; have GE214 := n4_; have NB213_214 := n5_; have NB214_213 := n6_; clear n0_ n1_ n2_ n3_ n4_ n5_ n6_; clear hb hbox hg; have hnb43 := NB213_214.out; have hnc43 := NB214_213.out; have hcz44_0 : w42.cell? ⟨gb213, 0, none⟩ = some (.int .u64 a0_0) := (blk_cell BK213.out 0).trans rfl; have hcz44_1 : w42.cell? ⟨gb213, 1, none⟩ = some (.int .u64 a0_1) := (blk_cell BK213.out 1).trans rfl; have hcz44_2 : w42.cell? ⟨gb213, 2, none⟩ = some (.int .u64 a0_2) := (blk_cell BK213.out 2).trans rfl; have hcz44_3 : w42.cell? ⟨gb213, 3, none⟩ = some (.string a0_3) := (blk_cell BK213.out 3).trans rfl; have hcz44_4 : w42.cell? ⟨gb213, 4, none⟩ = some (.string a0_4) := (blk_cell BK213.out 4).trans rfl; have hcz44_5 : w42.cell? ⟨gb213, 5, none⟩ = some (.int .i64 a0_5) := (blk_cell BK213.out 5).trans rfl; have hcz44_6 : w42.cell? ⟨gb213, 6, none⟩ = some (.int .i64 a0_6) := (blk_cell BK213.out 6).trans rfl; have hcz44_7 : w42.cell? ⟨gb213, 7, none⟩ = some (.int .i64 a0_7) := (blk_cell BK213.out 7).trans rfl; have hcz44_8 : w42.cell? ⟨gb213, 8, none⟩ = some (.slice A0_8 l0_8.length c0_8) := (blk_cell BK213.out 8).trans rfl; have hcz44_9 : w42.cell? ⟨gb213, 9, none⟩ = some (.slice A0_9 l0_9.length c0_9) := (blk_cell BK213.out 9).trans rfl; have hcz44_10 : w42.cell? ⟨gb213, 10, none⟩ = some (.slice A0_10 l0_10.length c0_10) := (blk_cell BK213.out 10).trans rfl; have hfz44_0 := blk_frozen BK213.out 0; have hfz44_1 := blk_frozen BK213.out 1; have hfz44_2 := blk_frozen BK213.out 2; have hfz44_3 := blk_frozen BK213.out 3; have hfz44_4 := blk_frozen BK213.out 4; have hfz44_5 := blk_frozen BK213.out 5; have hfz44_6 := blk_frozen BK213.out 6; have hfz44_7 := blk_frozen BK213.out 7; have hfz44_8 := blk_frozen BK213.out 8; have hfz44_9 := blk_frozen BK213.out 9; have hfz44_10 := blk_frozen BK213.out 10; have hcz45_0 : w42.cell? ⟨gb214, 0, none⟩ = some (.int .u64 a1_0) := (blk_cell BK214.out 0).trans rfl; have hcz45_1 : w42.cell? ⟨gb214, 1, none⟩ = some (.int .u64 a1_1) := (blk_cell BK214.out 1).trans rfl; have hcz45_2 : w42.cell? ⟨gb214, 2, none⟩ = some (.int .u64 a1_2) := (blk_cell BK214.out 2).trans rfl; have hcz45_3 : w42.cell? ⟨gb214, 3, none⟩ = some (.string a1_3) := (blk_cell BK214.out 3).trans rfl; have hcz45_4 : w42.cell? ⟨gb214, 4, none⟩ = some (.string a1_4) := (blk_cell BK214.out 4).trans rfl; have hcz45_5 : w42.cell? ⟨gb214, 5, none⟩ = some (.int .i64 a1_5) := (blk_cell BK214.out 5).trans rfl; have hcz45_6 : w42.cell? ⟨gb214, 6, none⟩ = some (.int .i64 a1_6) := (blk_cell BK214.out 6).trans rfl; have hcz45_7 : w42.cell? ⟨gb214, 7, none⟩ = some (.int .i64 a1_7) := (blk_cell BK214.out 7).trans rfl; have hcz45_8 : w42.cell? ⟨gb214, 8, none⟩ = some (.slice A1_8 l1_8.length c1_8) := (blk_cell BK214.out 8).trans rfl; have hcz45_9 : w42.cell? ⟨gb214, 9, none⟩ = some (.slice A1_9 l1_9.length c1_9) := (blk_cell BK214.out 9).trans rfl; have hcz45_10 : w42.cell? ⟨gb214, 10, none⟩ = some (.slice A1_10 l1_10.length c1_10) := (blk_cell BK214.out 10).trans rfl; have hfz45_0 := blk_frozen BK214.out 0; have hfz45_1 := blk_frozen BK214.out 1; have hfz45_2 := blk_frozen BK214.out 2; have hfz45_3 := blk_frozen BK214.out 3; have hfz45_4 := blk_frozen BK214.out 4; have hfz45_5 := blk_frozen BK214.out 5; have hfz45_6 := blk_frozen BK214.out 6; have hfz45_7 := blk_frozen BK214.out 7; have hfz45_8 := blk_frozen BK214.out 8; have hfz45_9 := blk_frozen BK214.out 9; have hfz45_10 := blk_frozen BK214.out 10))
  go_ret
  exact ⟨by first | rfl | (simp [errW_none, errW_some] <;> rfl) | (simp [*, errW_none, errW_some] <;> rfl), by repeat (first | (with_reducible first | exact HB.out | apply below_alloc | apply pw_below_drewN | apply below_drew1 | refine below_set ?_ GE213.out | refine below_set ?_ GE214.out) | exact HB.out)⟩
 rw [if_pos c8] at H
 have c8b0 : (a0_5 == a1_5) = true := beq_iff_eq.mpr c8
 have c8b1 : (a0_5 != a1_5) = false := bne_eq_false_iff_eq.mpr c8
 clear c8
 by_cases c9 : a0_6 = a1_6
 rotate_left
 ·rw [if_neg c9] at H
  have c9b0 : (a0_6 == a1_6) = false := beq_eq_false_iff_ne.mpr c9
  have c9b1 : (a0_6 != a1_6) = true := bne_iff_ne.mpr c9
  obtain rfl := Option.some.inj H
  go_enter Tryd.func18, Tryd.ntmps18
  go_wp2_with (first | ((with_reducible refine gate_dst (N := 2) rfl ?_); refine box_event ?hg (N := 2) ?hd (cs := #[.int .u64 a0_0, .int .u64 a0_1, .int .u64 a0_2, .string a0_3, .string a0_4, .int .i64 a0_5, .int .i64 a0_6, .int .i64 a0_7, .slice A0_8 l0_8.length c0_8, .slice A0_9 l0_9.length c0_9, .slice A0_10 l0_10.length c0_10]) (t := 36) ?hr ?_; (case hd => rfl); (case hg => rfl); (case hr => first | (go_simp; done) | (go_simp; rfl)); intro gb213 hg w36 hbox hb; have n0_ := Aside0.mk (below_step (by repeat (first | (with_reducible first | exact HB.out | apply below_alloc | apply pw_below_drewN | apply below_drew1) | exact HB.out)) hb); have n1_ := Aside0.mk (hbox); have n2_ := Aside0.mk ((by rw [hg]; exact (below_size (by repeat (first | (with_reducible first | exact HB.out | apply below_alloc | apply pw_below_drewN | apply below_drew1) | exact HB.out))) : w.heap.size ≤ gb213)); have n3_ := Aside0.mk ((by rw [hg]; exact (below_size (by repeat (first | (with_reducible first | exact HB.out | apply below_alloc | apply pw_below_drewN | apply below_drew1) | exact HB.out))) : w.heap.size ≤ gb213)); clear HB; have HB := n0_; have BK213 := n1_; have GW213 := n2_; have GE213 := n3_; clear n0_ n1_ n2_ n3_; clear hb hbox hg) | ((with_reducible refine gate_dst (N := 3) rfl ?_); refine box_event ?hg (N := 3) ?hd (cs := #[.int .u64 a1_0, .int .u64 a1_1, .int .u64 a1_2, .string a1_3, .string a1_4, .int .i64 a1_5, .int .i64 a1_6, .int .i64 a1_7, .slice A1_8 l1_8.length c1_8, .slice A1_9 l1_9.length c1_9, .slice A1_10 l1_10.length c1_10]) (t := 36) ?hr ?_; (case hd => rfl); (case hg => rfl); (case hr => first | (go_simp; done) | (go_simp; rfl)); intro gb214 hg w37 hbox hb; have n0_ := Aside0.mk (blk_below (g := gb213) (o := .cells #[.int .u64 a0_0, .int .u64 a0_1, .int .u64 a0_2, .string a0_3, .string a0_4, .int .i64 a0_5, .int .i64 a0_6, .int .i64 a0_7, .slice A0_8 l0_8.length c0_8, .slice A0_9 l0_9.length c0_9, .slice A0_10 l0_10.length c0_10] 36 (0, 0)) (by (with_reducible repeat (first | refine blk_drewN ?_ _ | refine blk_drew ?_ | refine blk_alloc ?_ _)); exact BK213.out) hb); have n1_ := Aside0.mk (below_step (by repeat (first | (with_reducible first | exact HB.out | apply below_alloc | apply pw_below_drewN | apply below_drew1 | refine below_set ?_ GE213.out) | exact HB.out)) hb); have n2_ := Aside0.mk (hbox); have n3_ := Aside0.mk ((by rw [hg]; exact (below_size (by repeat (first | (with_reducible first | exact HB.out | apply below_alloc | apply pw_below_drewN | apply below_drew1 | refine below_set ?_ GE213.out) | exact HB.out))) : w.heap.size ≤ gb214)); have n4_ := Aside0.mk ((by rw [hg]; exact (below_size (by repeat (first | (with_reducible first | exact HB.out | apply below_alloc | apply pw_below_drewN | apply below_drew1 | refine below_set ?_ GE213.out) | exact HB.out))) : w.heap.size ≤ gb214)); have n5_ := Aside0.mk ((by rw [hg]; exact Nat.ne_of_lt (blk_lt (g := gb213) (o := .cells #[.int .u64 a0_0, .int .u64 a0_1, .int .u64 a0_2, .string a0_3, .string a0_4, .int .i64 a0_5, .int .i64 a0_6, .int .i64 a0_7, .slice A0_8 l0_8.length c0_8, .slice A0_9 l0_9.length c0_9, .slice A0_10 l0_10.length c0_10] 36 (0, 0)) (by (with_reducible repeat (first | refine blk_drewN ?_ _ | refine blk_drew ?_ | refine blk_alloc ?_ _)); exact BK213.out)) : gb213 ≠ gb214)); have n6_ := Aside0.mk ((by rw [hg]; exact Nat.ne_of_gt (blk_lt (g := gb213) (o := .cells #[.int .u64 a0_0, .int .u64 a0_1, .int .u64 a0_2, .string a0_3, .string a0_4, .int .i64 a0_5, .int .i64 a0_6, .int .i64 a0_7, .slice A0_8 l0_8.length c0_8, .slice A0_9 l0_9.length c0_9, .slice A0_10 l0_10.length c0_10] 36 (0, 0)) (by (with_reducible repeat (first | refine blk_drewN ?_ _ | refine blk_drew ?_ | refine blk_alloc ?_ _)); exact BK213.out)) : gb214 ≠ gb213)); clear BK213; clear HB; have BK213 := n0_; have HB := n1_; have BK214 := n2_; have GW214 := n3_; have GE214 := n4_; have NB213_214 := n5_; have NB214_213 := n6_; clear n0_ n1_ n2_ n3_ n4_ n5_ n6_; clear hb hbox hg; have hnb38 := NB213_214.out; have hnc38 := NB214_213.out; have hcz39_0 : w37.cell? ⟨gb213, 0, none⟩ = some (.int .u64 a0_0) := (blk_cell BK213.out 0).trans rfl; have hcz39_1 : w37.cell? ⟨gb213, 1, none⟩ = some (.int .u64 a0_1) := (blk_cell BK213.out 1).trans rfl; have hcz39_2 : w37.cell? ⟨gb213, 2, none⟩ = some (.int .u64 a0_2) := (blk_cell BK213.out 2).trans rfl; have hcz39_3 : w37.cell? ⟨gb213, 3, none⟩ = some (.string a0_3) := (blk_cell BK213.out 3).trans rfl; have hcz39_4 : w37.cell? ⟨gb213, 4, none⟩ = some (.string a0_4) := (blk_cell BK213.out 4).trans rfl; have hcz39_5 : w37.cell? ⟨gb213, 5, none⟩ = some (.int .i64 a0_5) := (blk_cell BK213.out 5).trans rfl; have hcz39_6 : w37.cell? ⟨gb213, 6, none⟩ = some (.int .i64 a0_6) := (blk_cell BK213.out 6).trans rfl; have hcz39_7 : w37.cell? ⟨gb213, 7, none⟩ = some (.int .i64 a0_7) := (blk_cell BK213.out 7).trans rfl; have hcz39_8 : w37.cell? ⟨gb213, 8, none⟩ = some (.slice A0_8 l0_8.length c0_8) := (blk_cell BK213.out 8).trans rfl; have hcz39_9 : w37.cell? ⟨gb213, 9, none⟩ = some (.slice A0_9 l0_9.length c0_9) := (blk_cell BK213.out 9).trans rfl; have hcz39_10 : w37.cell? ⟨gb213, 10, none⟩ = some (.slice A0_10 l0_10.length c0_10) := (blk_cell BK213.out 10).trans rfl; have hfz39_0 := blk_frozen BK213.out 0; have hfz39_1 := blk_frozen BK213.out 1; have hfz39_2 := blk_frozen BK213.out 2; have hfz39_3 := blk_frozen BK213.out 3; have hfz39_4 := blk_frozen BK213.out 4; have hfz39_5 := blk_frozen BK213.out 5; have hfz39_6 := blk_frozen BK213.out 6; have hfz39_7 := blk_frozen BK213.out 7; have hfz39_8 := blk_frozen BK213.out 8; have hfz39_9 := blk_frozen BK213.out 9; have hfz39_10 := blk_frozen BK213.out 10; have hcz40_0 : w37.cell? ⟨gb214, 0, none⟩ = some (.int .u64 a1_0) := (blk_cell BK214.out 0).trans rfl; have hcz40_1 : w37.cell? ⟨gb214, 1, none⟩ = some (.int .u64 a1_1) := (blk_cell BK214.out 1).trans rfl; have hcz40_2 : w37.cell? ⟨gb214, 2, none⟩ = some (.int .u64 a1_2) := (blk_cell BK214.out 2).trans rfl; have hcz40_3 : w37.cell? ⟨gb214, 3, none⟩ = some (.string a1_3) := (blk_cell BK214.out 3).trans rfl; have hcz40_4 : w37.cell? ⟨gb214, 4, none⟩ = some (.string a1_4) := (blk_cell BK214.out 4).trans rfl; have hcz40_5 : w37.cell? ⟨gb214, 5, none⟩ = some (.int .i64 a1_5) := (blk_cell BK214.out 5).trans rfl; have hcz40_6 : w37.cell? ⟨gb214, 6, none⟩ = some (.int .i64 a1_6) := (blk_cell BK214.out 6).trans rfl; have hcz40_7 : w37.cell? ⟨gb214, 7, none⟩ = some (.int .i64 a1_7) := (blk_cell BK214.out 7).trans rfl; have hcz40_8 : w37.cell? ⟨gb214, 8, none⟩ = some (.slice A1_8 l1_8.length c1_8) := (blk_cell BK214.out 8).trans rfl; have hcz40_9 : w37.cell? ⟨gb214, 9, none⟩ = some (.slice A1_9 l1_9.length c1_9) := (blk_cell BK214.out 9).trans rfl; have hcz40_10 : w37.cell? ⟨gb214, 10, none⟩ = some (.slice A1_10 l1_10.length c1_10) := (blk_cell BK214.out 10).trans rfl; have hfz40_0 := blk_frozen BK214.out 0; have hfz40_1 := blk_frozen BK214.out 1; have hfz40_2 := blk_frozen BK214.out 2; have hfz40_3 := blk_frozen BK214.out 3; have hfz40_4 := blk_frozen BK214.out 4; have hfz40_5 := blk_frozen BK214.out 5; have hfz40_6 := blk_frozen BK214.out 6; have hfz40_7 := blk_frozen BK214.out 7; have hfz40_8 := blk_frozen BK214.out 8; have hfz40_9 := blk_frozen BK214.out 9; have hfz40_10 := blk_frozen BK214.out 10))
  go_ret
  exact ⟨by first | rfl | (simp [errW_none, errW_some] <;> rfl) | (simp [*, errW_none, errW_some] <;> rfl), by repeat (first | (with_reducible first | exact HB.out | apply below_alloc | apply pw_below_drewN | apply below_drew1 | refine below_set ?_ GE213.out | refine below_set ?_ GE214.out) | exact HB.out)⟩
 rw [if_pos c9] at H
 have c9b0 : (a0_6 == a1_6) = true := beq_iff_eq.mpr c9
 have c9b1 : (a0_6 != a1_6) = false := bne_eq_false_iff_eq.mpr c9
 clear c9
 by_cases c10 : a0_7 = a1_7
 rotate_left
 ·rw [if_neg c10] at H
  have c10b0 : (a0_7 == a1_7) = false := beq_eq_false_iff_ne.mpr c10
  have c10b1 : (a0_7 != a1_7) = true := bne_iff_ne.mpr c10
  obtain rfl := Option.some.inj H
  go_enter Tryd.func18, Tryd.ntmps18
  go_wp2_with (first | ((with_reducible refine gate_dst (N := 2) rfl ?_); refine box_event ?hg (N := 2) ?hd (cs := #[.int .u64 a0_0, .int .u64 a0_1, .int .u64 a0_2, .string a0_3, .string a0_4, .int .i64 a0_5, .int .i64 a0_6, .int .i64 a0_7, .slice A0_8 l0_8.length c0_8, .slice A0_9 l0_9.length c0_9, .slice A0_10 l0_10.length c0_10]) (t := 36) ?hr ?_; (case hd => rfl); (case hg => rfl); (case hr => first | (go_simp; done) | (go_simp; rfl)); intro gb213 hg w31 hbox hb; have n0_ := Aside0.mk (below_step (by repeat (first | (with_reducible first | exact HB.out | apply below_alloc | apply pw_below_drewN | apply below_drew1) | exact HB.out)) hb); have n1_ := Aside0.mk (hbox); have n2_ := Aside0.mk ((by rw [hg]; exact (below_size (by repeat (first | (with_reducible first | exact HB.out | apply below_alloc | apply pw_below_drewN | apply below_drew1) | exact HB.out))) : w.heap.size ≤ gb213)); have n3_ := Aside0.mk ((by rw [hg]; exact (below_size (by repeat (first | (with_reducible first | exact HB.out | apply below_alloc | apply pw_below_drewN | apply below_drew1) | exact HB.out))) : w.heap.size ≤ gb213)); clear HB; have HB := n0_; have BK213 := n1_; have GW213 := n2_; have GE213 := n3_; clear n0_ n1_ n2_ n3_; clear hb hbox hg) | ((with_reducible refine gate_dst (N := 3) rfl ?_); refine box_event ?hg (N := 3) ?hd (cs := #[.int .u64 a1_0, .int .u64 a1_1, .int .u64 a1_2, .string a1_3, .string a1_4, .int .i64 a1_5, .int .i64 a1_6, .int .i64 a1_7, .slice A1_8 l1_8.length c1_8, .slice A1_9 l1_9.length c1_9, .slice A1_10 l1_10.length c1_10]) (t := 36) ?hr ?_; (case hd => rfl); (case hg => rfl); (case hr => first | (go_simp; done) | (go_simp; rfl)); intro gb214 hg w32 hbox hb; have n0_ := Aside0.mk (blk_below (g := gb213) (o := .cells #[.int .u64 a0_0, .int .u64 a0_1, .int .u64 a0_2, .string a0_3, .string a0_4, .int .i64 a0_5, .int .i64 a0_6, .int .i64 a0_7, .slice A0_8 l0_8.length c0_8, .slice A0_9 l0_9.length c0_9, .slice A0_10 l0_10.length c0_10] 36 (0, 0)) (by (with_reducible repeat (first | refine blk_drewN ?_ _ | refine blk_drew ?_ | refine blk_alloc ?_ _)); exact BK213.out) hb); have n1_ := Aside0.mk (below_step (by repeat (first | (with_reducible first | exact HB.out | apply below_alloc | apply pw_below_drewN | apply below_drew1 | refine below_set ?_ GE213.out) | exact HB.out)) hb); have n2_ := Aside0.mk (hbox); have n3_ := Aside0.mk ((by rw [hg]; exact (below_size (by repeat (first | (with_reducible first | exact HB.out | apply below_alloc | apply pw_below_drewN | apply below_drew1 | refine below_set ?_ GE213.out) | exact HB.out))) : w.heap.size ≤ gb214)); have n4_ := Aside0.mk ((by rw [hg]; exact (below_size (by repeat (first | (with_reducible first | exact HB.out | apply below_alloc | apply pw_below_drewN | apply below_drew1 | refine below_set ?_ GE213.out) | exact HB.out))) : w.heap.size ≤ gb214)); have n5_ := Aside0.mk ((by rw [hg]; exact Nat.ne_of_lt (blk_lt (g := gb213) (o := .cells #[.int .u64 a0_0, .int .u64 a0_1, .int .u64 a0_2, .string a0_3, .string a0_4, .int .i64 a0_5, .int .i64 a0_6, .int .i64 a0_7, .slice A0_8 l0_8.length c0_8, .slice A0_9 l0_9.length c0_9, .slice A0_10 l0_10.length c0_10] 36 (0, 0)) (by (with_reducible repeat (first | refine blk_drewN ?_ _ | refine blk_drew ?_ | refine blk_alloc ?_ _)); exact BK213.out)) : gb213 ≠ gb214)); have n6_ := Aside0.mk ((by rw [hg]; exact Nat.ne_of_gt (blk_lt (g := gb213) (o := .cells #[.int .u64 a0_0, .int .u64 a0_1, .int .u64 a0_2, .string a0_3, .string a0_4, .int .i64 a0_5, .int .i64 a0_6, .int .i64 a0_7, .slice A0_8 l0_8.length c0_8, .slice A0_9 l0_9.length c0_9, .slice A0_10 l0_10.length c0_10] 36 (0, 0)) (by (with_reducible repeat (first | refine blk_drewN ?_ _ | refine blk_drew ?_ | refine blk_alloc ?_ _)); exact BK213.out)) : gb214 ≠ gb213)); clear BK213; clear HB; have BK213 := n0_; have HB := n1_; have BK214 := n2_; have GW214 := n3_; have GE214 := n4_; have NB213_214 := n5_; have NB214_213 := n6_; clear n0_ n1_ n2_ n3_ n4_ n5_ n6_; clear hb hbox hg; have hnb33 := NB213_214.out; have hnc33 := NB214_213.out; have hcz34_0 : w32.cell? ⟨gb213, 0, none⟩ = some (.int .u64 a0_0) := (blk_cell BK213.out 0).trans rfl; have hcz34_1 : w32.cell? ⟨gb213, 1, none⟩ = some (.int .u64 a0_1) := (blk_cell BK213.out 1).trans rfl; have hcz34_2 : w32.cell? ⟨gb213, 2, none⟩ = some (.int .u64 a0_2) := (blk_cell BK213.out 2).trans rfl; have hcz34_3 : w32.cell? ⟨gb213, 3, none⟩ = some (.string a0_3) := (blk_cell BK213.out 3).trans rfl; have hcz34_4 : w32.cell? ⟨gb213, 4, none⟩ = some (.string a0_4) := (blk_cell BK213.out 4).trans rfl; have hcz34_5 : w32.cell? ⟨gb213, 5, none⟩ = some (.int .i64 a0_5) := (blk_cell BK213.out 5).trans rfl; have hcz34_6 : w32.cell? ⟨gb213, 6, none⟩ = some (.int .i64 a0_6) := (blk_cell BK213.out 6).trans rfl; have hcz34_7 : w32.cell? ⟨gb213, 7, none⟩ = some (.int .i64 a0_7) := (blk_cell BK213.out 7).trans rfl; have hcz34_8 : w32.cell? ⟨gb213, 8, none⟩ = some (.slice A0_8 l0_8.length c0_8) := (blk_cell BK213.out 8).trans rfl; have hcz34_9 : w32.cell? ⟨gb213, 9, none⟩ = some (.slice A0_9 l0_9.length c0_9) := (blk_cell BK213.out 9).trans rfl; have hcz34_10 : w32.cell? ⟨gb213, 10, none⟩ = some (.slice A0_10 l0_10.length c0_10) := (blk_cell BK213.out 10).trans rfl; have hfz34_0 := blk_frozen BK213.out 0; have hfz34_1 := blk_frozen BK213.out 1; have hfz34_2 := blk_frozen BK213.out 2; have hfz34_3 := blk_frozen BK213.out 3; have hfz34_4 := blk_frozen BK213.out 4; have hfz34_5 := blk_frozen BK213.out 5; have hfz34_6 := blk_frozen BK213.out 6; have hfz34_7 := blk_frozen BK213.out 7; have hfz34_8 := blk_frozen BK213.out 8; have hfz34_9 := blk_frozen BK213.out 9; have hfz34_10 := blk_frozen BK213.out 10; have hcz35_0 : w32.cell? ⟨gb214, 0, none⟩ = some (.int .u64 a1_0) := (blk_cell BK214.out 0).trans rfl; have hcz35_1 : w32.cell? ⟨gb214, 1, none⟩ = some (.int .u64 a1_1) := (blk_cell BK214.out 1).trans rfl; have hcz35_2 : w32.cell? ⟨gb214, 2, none⟩ = some (.int .u64 a1_2) := (blk_cell BK214.out 2).trans rfl; have hcz35_3 : w32.cell? ⟨gb214, 3, none⟩ = some (.string a1_3) := (blk_cell BK214.out 3).trans rfl; have hcz35_4 : w32.cell? ⟨gb214, 4, none⟩ = some (.string a1_4) := (blk_cell BK214.out 4).trans rfl; have hcz35_5 : w32.cell? ⟨gb214, 5, none⟩ = some (.int .i64 a1_5) := (blk_cell BK214.out 5).trans rfl; have hcz35_6 : w32.cell? ⟨gb214, 6, none⟩ = some (.int .i64 a1_6) := (blk_cell BK214.out 6).trans rfl; have hcz35_7 : w32.cell? ⟨gb214, 7, none⟩ = some (.int .i64 a1_7) := (blk_cell BK214.out 7).trans rfl; have hcz35_8 : w32.cell? ⟨gb214, 8, none⟩ = some (.slice A1_8 l1_8.length c1_8) := (blk_cell BK214.out 8).trans rfl; have hcz35_9 : w32.cell? ⟨gb214, 9, none⟩ = some (.slice A1_9 l1_9.length c1_9) := (blk_cell BK214.out 9).trans rfl; have hcz35_10 : w32.cell? ⟨gb214, 10, none⟩ = some (.slice A1_10 l1_10.length c1_10) := (blk_cell BK214.out 10).trans rfl; have hfz35_0 := blk_frozen BK214.out 0; have hfz35_1 := blk_frozen BK214.out 1; have hfz35_2 := blk_frozen BK214.out 2; have hfz35_3 := blk_frozen BK214.out 3; have hfz35_4 := blk_frozen BK214.out 4; have hfz35_5 := blk_frozen BK214.out 5; have hfz35_6 := blk_frozen BK214.out 6; have hfz35_7 := blk_frozen BK214.out 7; have hfz35_8 := blk_frozen BK214.out 8; have hfz35_9 := blk_frozen BK214.out 9; have hfz35_10 := blk_frozen BK214.out 10))
  go_ret
  exact ⟨by first | rfl | (simp [errW_none, errW_some] <;> rfl) | (simp [*, errW_none, errW_some] <;> rfl), by repeat (first | (with_reducible first | exact HB.out | apply below_alloc | apply pw_below_drewN | apply below_drew1 | refine below_set ?_ GE213.out | refine below_set ?_ GE214.out) | exact HB.out)⟩
 rw [if_pos c10] at H
 have c10b0 : (a0_7 == a1_7) = true := beq_iff_eq.mpr c10
 have c10b1 : (a0_7 != a1_7) = false := bne_eq_false_iff_eq.mpr c10
 clear c10
 replace H := Option.bind_eq_some_iff.mp H
 obtain ⟨t215, A110, H⟩ := H
 replace H : (if t215 = true then ((api_Event.f k l0_9 l1_9).bind fun t216 => (if t216 = true then ((api_Link.f k l0_10 l1_10).bind fun t217 => (some t217)) else (some false))) else (some false)) = some r := H
 have A11 := Aside0.mk A110
 clear A110
 by_cases c12 : t215 = true
 rotate_left
 ·replace c12 := Bool.eq_false_iff.mpr c12
  subst c12
  have H1 : (some false) = some r := by rw [if_neg (show ¬ (false = true) by decide)] at H; exact H
  clear H
  have H := H1
  clear H1
  obtain rfl := Option.some.inj H
  go_enter Tryd.func18, Tryd.ntmps18
  go_wp2_with (first | ((with_reducible refine gate_dst (N := 2) rfl ?_); refine box_event ?hg (N := 2) ?hd (cs := #[.int .u64 a0_0, .int .u64 a0_1, .int .u64 a0_2, .string a0_3, .string a0_4, .int .i64 a0_5, .int .i64 a0_6, .int .i64 a0_7, .slice A0_8 l0_8.length c0_8, .slice A0_9 l0_9.length c0_9, .slice A0_10 l0_10.length c0_10]) (t := 36) ?hr ?_; (case hd => rfl); (case hg => rfl); (case hr => first | (go_simp; done) | (go_simp; rfl)); intro gb213 hg w26 hbox hb; have n0_ := Aside0.mk (below_step (by repeat (first | (with_reducible first | exact HB.out | apply below_alloc | apply pw_below_drewN | apply below_drew1) | exact HB.out)) hb); have n1_ := Aside0.mk (hbox); have n2_ := Aside0.mk ((by rw [hg]; exact (below_size (by repeat (first | (with_reducible first | exact HB.out | apply below_alloc | apply pw_below_drewN | apply below_drew1) | exact HB.out))) : w.heap.size ≤ gb213)); have n3_ := Aside0.mk ((by rw [hg]; exact (below_size (by repeat (first | (with_reducible first | exact HB.out | apply below_alloc | apply pw_below_drewN | apply below_drew1) | exact HB.out))) : w.heap.size ≤ gb213)); clear HB; have HB := n0_; have BK213 := n1_; have GW213 := n2_; have GE213 := n3_; clear n0_ n1_ n2_ n3_; clear hb hbox hg) | ((with_reducible refine gate_dst (N := 3) rfl ?_); refine box_event ?hg (N := 3) ?hd (cs := #[.int .u64 a1_0, .int .u64 a1_1, .int .u64 a1_2, .string a1_3, .string a1_4, .int .i64 a1_5, .int .i64 a1_6, .int .i64 a1_7, .slice A1_8 l1_8.length c1_8, .slice A1_9 l1_9.length c1_9, .slice A1_10 l1_10.length c1_10]) (t := 36) ?hr ?_; (case hd => rfl); (case hg => rfl); (case hr => first | (go_simp; done) | (go_simp; rfl)); intro gb214 hg w27 hbox hb; have n0_ := Aside0.mk (blk_below (g := gb213) (o := .cells #[.int .u64 a0_0, .int .u64 a0_1, .int .u64 a0_2, .string a0_3, .string a0_4, .int .i64 a0_5, .int .i64 a0_6, .int .i64 a0_7, .slice A0_8 l0_8.length c0_8, .slice A0_9 l0_9.length c0_9, .slice A0_10 l0_10.length c0_10] 36 (0, 0)) (by (with_reducible repeat (first | refine blk_drewN ?_ _ | refine blk_drew ?_ | refine blk_alloc ?_ _)); exact BK213.out) hb); have n1_ := Aside0.mk (below_step (by repeat (first | (with_reducible first | exact HB.out | apply below_alloc | apply pw_below_drewN | apply below_drew1 | refine below_set ?_ GE213.out) | exact HB.out)) hb); have n2_ := Aside0.mk (hbox); have n3_ := Aside0.mk ((by rw [hg]; exact (below_size (by repeat (first | (with_reducible first | exact HB.out | apply below_alloc | apply pw_below_drewN | apply below_drew1 | refine below_set ?_ GE213.out) | exact HB.out))) : w.heap.size ≤ gb214)); have n4_ := Aside0.mk ((by rw [hg]; exact (below_size (by repeat (first | (with_reducible first | exact HB.out | apply below_alloc | apply pw_below_drewN | apply below_drew1 | refine below_set ?_ GE213.out) | exact HB.out))) : w.heap.size ≤ gb214)); have n5_ := Aside0.mk ((by rw [hg]; exact Nat.ne_of_lt (blk_lt (g := gb213) (o := .cells #[.int .u64 a0_0, .int .u64 a0_1, .int .u64 a0_2, .string a0_3, .string a0_4, .int .i64 a0_5, .int .i64 a0_6, .int .i64 a0_7, .slice A0_8 l0_8.length c0_8, .slice A0_9 l0_9.length c0_9, .slice A0_10 l0_10.length c0_10] 36 (0, 0)) (by (with_reducible repeat (first | refine blk_drewN ?_ _ | refine blk_drew ?_ | refine blk_alloc ?_ _)); exact BK213.out)) : gb213 ≠ gb214)); have n6_ := Aside0.mk ((by rw [hg]; exact Nat.ne_of_gt (blk_lt (g := gb213) (o := .cells #[.int .u64 a0_0, .int .u64 a0_1, .int .u64 a0_2, .string a0_3, .string a0_4, .int .i64 a0_5, .int .i64 a0_6, .int .i64 a0_7, .slice A0_8 l0_8.length c0_8, .slice A0_9 l0_9.length c0_9, .slice A0_10 l0_10.length c0_10] 36 (0, 0)) (by (with_reducible repeat (first | refine blk_drewN ?_ _ | refine blk_drew ?_ | refine blk_alloc ?_ _)); exact BK213.out)) : gb214 ≠ gb213)); clear BK213; clear HB; have BK213 := n0_; have HB := n1_; have BK214 := n2_; have GW214 := n3_; have GE214 := n4_; have NB213_214 := n5_; have NB214_213 := n6_; clear n0_ n1_ n2_ n3_ n4_ n5_ n6_; clear hb hbox hg; have hnb28 := NB213_214.out; have hnc28 := NB214_213.out; have hcz29_0 : w27.cell? ⟨gb213, 0, none⟩ = some (.int .u64 a0_0) := (blk_cell BK213.out 0).trans rfl; have hcz29_1 : w27.cell? ⟨gb213, 1, none⟩ = some (.int .u64 a0_1) := (blk_cell BK213.out 1).trans rfl; have hcz29_2 : w27.cell? ⟨gb213, 2, none⟩ = some (.int .u64 a0_2) := (blk_cell BK213.out 2).trans rfl; have hcz29_3 : w27.cell? ⟨gb213, 3, none⟩ = some (.string a0_3) := (blk_cell BK213.out 3).trans rfl; have hcz29_4 : w27.cell? ⟨gb213, 4, none⟩ = some (.string a0_4) := (blk_cell BK213.out 4).trans rfl; have hcz29_5 : w27.cell? ⟨gb213, 5, none⟩ = some (.int .i64 a0_5) := (blk_cell BK213.out 5).trans rfl; have hcz29_6 : w27.cell? ⟨gb213, 6, none⟩ = some (.int .i64 a0_6) := (blk_cell BK213.out 6).trans rfl; have hcz29_7 : w27.cell? ⟨gb213, 7, none⟩ = some (.int .i64 a0_7) := (blk_cell BK213.out 7).trans rfl; have hcz29_8 : w27.cell? ⟨gb213, 8, none⟩ = some (.slice A0_8 l0_8.length c0_8) := (blk_cell BK213.out 8).trans rfl; have hcz29_9 : w27.cell? ⟨gb213, 9, none⟩ = some (.slice A0_9 l0_9.length c0_9) := (blk_cell BK213.out 9).trans rfl; have hcz29_10 : w27.cell? ⟨gb213, 10, none⟩ = some (.slice A0_10 l0_10.length c0_10) := (blk_cell BK213.out 10).trans rfl; have hfz29_0 := blk_frozen BK213.out 0; have hfz29_1 := blk_frozen BK213.out 1; have hfz29_2 := blk_frozen BK213.out 2; have hfz29_3 := blk_frozen BK213.out 3; have hfz29_4 := blk_frozen BK213.out 4; have hfz29_5 := blk_frozen BK213.out 5; have hfz29_6 := blk_frozen BK213.out 6; have hfz29_7 := blk_frozen BK213.out 7; have hfz29_8 := blk_frozen BK213.out 8; have hfz29_9 := blk_frozen BK213.out 9; have hfz29_10 := blk_frozen BK213.out 10; have hcz30_0 : w27.cell? ⟨gb214, 0, none⟩ = some (.int .u64 a1_0) := (blk_cell BK214.out 0).trans rfl; have hcz30_1 : w27.cell? ⟨gb214, 1, none⟩ = some (.int .u64 a1_1) := (blk_cell BK214.out 1).trans rfl; have hcz30_2 : w27.cell? ⟨gb214, 2, none⟩ = some (.int .u64 a1_2) := (blk_cell BK214.out 2).trans rfl; have hcz30_3 : w27.cell? ⟨gb214, 3, none⟩ = some (.string a1_3) := (blk_cell BK214.out 3).trans rfl; have hcz30_4 : w27.cell? ⟨gb214, 4, none⟩ = some (.string a1_4) := (blk_cell BK214.out 4).trans rfl; have hcz30_5 : w27.cell? ⟨gb214, 5, none⟩ = some (.int .i64 a1_5) := (blk_cell BK214.out 5).trans rfl; have hcz30_6 : w27.cell? ⟨gb214, 6, none⟩ = some (.int .i64 a1_6) := (blk_cell BK214.out 6).trans rfl; have hcz30_7 : w27.cell? ⟨gb214, 7, none⟩ = some (.int .i64 a1_7) := (blk_cell BK214.out 7).trans rfl; have hcz30_8 : w27.cell? ⟨gb214, 8, none⟩ = some (.slice A1_8 l1_8.length c1_8) := (blk_cell BK214.out 8).trans rfl; have hcz30_9 : w27.cell? ⟨gb214, 9, none⟩ = some (.slice A1_9 l1_9.length c1_9) := (blk_cell BK214.out 9).trans rfl; have hcz30_10 : w27.cell? ⟨gb214, 10, none⟩ = some (.slice A1_10 l1_10.length c1_10) := (blk_cell BK214.out 10).trans rfl; have hfz30_0 := blk_frozen BK214.out 0; have hfz30_1 := blk_frozen BK214.out 1; have hfz30_2 := blk_frozen BK214.out 2; have hfz30_3 := blk_frozen BK214.out 3; have hfz30_4 := blk_frozen BK214.out 4; have hfz30_5 := blk_frozen BK214.out 5; have hfz30_6 := blk_frozen BK214.out 6; have hfz30_7 := blk_frozen BK214.out 7; have hfz30_8 := blk_frozen BK214.out 8; have hfz30_9 := blk_frozen BK214.out 9; have hfz30_10 := blk_frozen BK214.out 10) | (go_at_call 35; (with_reducible refine (api_Attr.calls k _ _ l0_8 _ _ l1_8 false _ ?side1 ?side2 ?side3 ?side4 A11.out).mono ?_); (case side1 => repeat (first | exact (Kd.C_below HR0_8.out HB.out) | (with_reducible refine Kd.C_alloc ?_ _) | (with_reducible refine Kd.C_drewN ?_ _) | (with_reducible refine Kd.C_drew ?_))); (case side2 => exact HC0_8.out); (case side3 => repeat (first | exact (Kd.C_below HR1_8.out HB.out) | (with_reducible refine Kd.C_alloc ?_ _) | (with_reducible refine Kd.C_drewN ?_ _) | (with_reducible refine Kd.C_drew ?_))); (case side4 => exact HC1_8.out); rintro e w' ⟨rfl, ⟨nd, rfl⟩⟩))
  go_ret
  exact ⟨by first | rfl | (simp [errW_none, errW_some] <;> rfl) | (simp [*, errW_none, errW_some] <;> rfl), by repeat (first | (with_reducible first | exact HB.out | apply below_alloc | apply pw_below_drewN | apply below_drew1 | refine below_set ?_ GE213.out | refine below_set ?_ GE214.out) | exact HB.out)⟩
 subst c12
 have H1 : ((api_Event.f k l0_9 l1_9).bind fun t216 => (if t216 = true then ((api_Link.f k l0_10 l1_10).bind fun t217 => (some t217)) else (some false))) = some r := by rw [if_pos rfl] at H; exact H
 clear H
 have H := H1
 clear H1
 replace H := Option.bind_eq_some_iff.mp H
 obtain ⟨t216, A130, H⟩ := H
 replace H : (if t216 = true then ((api_Link.f k l0_10 l1_10).bind fun t217 => (some t217)) else (some false)) = some r := H
 have A13 := Aside0.mk A130
 clear A130
 by_cases c14 : t216 = true
 rotate_left
 ·replace c14 := Bool.eq_false_iff.mpr c14
  subst c14
  have H1 : (some false) = some r := by rw [if_neg (show ¬ (false = true) by decide)] at H; exact H
  clear H
  have H := H1
  clear H1
  obtain rfl := Option.some.inj H
  go_enter Tryd.func18, Tryd.ntmps18
  go_wp2_with (first | ((with_reducible refine gate_dst (N := 2) rfl ?_); refine box_event ?hg (N := 2) ?hd (cs := #[.int .u64 a0_0, .int .u64 a0_1, .int .u64 a0_2, .string a0_3, .string a0_4, .int .i64 a0_5, .int .i64 a0_6, .int .i64 a0_7, .slice A0_8 l0_8.length c0_8, .slice A0_9 l0_9.length c0_9, .slice A0_10 l0_10.length c0_10]) (t := 36) ?hr ?_; (case hd => rfl); (case hg => rfl); (case hr => first | (go_simp; done) | (go_simp; rfl)); intro gb213 hg w21 hbox hb; have n0_ := Aside0.mk (below_step (by repeat (first | (with_reducible first | exact HB.out | apply below_alloc | apply pw_below_drewN | apply below_drew1) | exact HB.out)) hb); have n1_ := Aside0.mk (hbox); have n2_ := Aside0.mk ((by rw [hg]; exact (below_size (by repeat (first | (with_reducible first | exact HB.out | apply below_alloc | apply pw_below_drewN | apply below_drew1) | exact HB.out))) : w.heap.size ≤ gb213)); have n3_ := Aside0.mk ((by rw [hg]; exact (below_size (by repeat (first | (with_reducible first | exact HB.out | apply below_alloc | apply pw_below_drewN | apply below_drew1) | exact HB.out))) : w.heap.size ≤ gb213)); clear HB; have HB := n0_; have BK213 := n1_; have GW213 := n2_; have GE213 := n3_; clear n0_ n1_ n2_ n3_; clear hb hbox hg) | ((with_reducible refine gate_dst (N := 3) rfl ?_); refine box_event ?hg (N := 3) ?hd (cs := #[.int .u64 a1_0, .int .u64 a1_1, .int .u64 a1_2, .string a1_3, .string a1_4, .int .i64 a1_5, .int .i64 a1_6, .int .i64 a1_7, .slice A1_8 l1_8.length c1_8, .slice A1_9 l1_9.length c1_9, .slice A1_10 l1_10.length c1_10]) (t := 36) ?hr ?_; (case hd => rfl); (case hg => rfl); (case hr => first | (go_simp; done) | (go_simp; rfl)); intro gb214 hg w22 hbox hb; have n0_ := Aside0.mk (blk_below (g := gb213) (o := .cells #[.int .u64 a0_0, .int .u64 a0_1, .int .u64 a0_2, .string a0_3, .string a0_4, .int .i64 a0_5, .int .i64 a0_6, .int .i64 a0_7, .slice A0_8 l0_8.length c0_8, .slice A0_9 l0_9.length c0_9, .slice A0_10 l0_10.length c0_10] 36 (0, 0)) (by (with_reducible repeat (first | refine blk_drewN ?_ _ | refine blk_drew ?_ | refine blk_alloc ?_ _)); exact BK213.out) hb); have n1_ := Aside0.mk (below_step (by repeat (first | (with_reducible first | exact HB.out | apply below_alloc | apply pw_below_drewN | apply below_drew1 | refine below_set ?_ GE213.out) | exact HB.out)) hb); have n2_ := Aside0.mk (hbox); have n3_ := Aside0.mk ((by rw [hg]; exact (below_size (by repeat (first | (with_reducible first | exact HB.out | apply below_alloc | apply pw_below_drewN | apply below_drew1 | refine below_set ?_ GE213.out) | exact HB.out))) : w.heap.size ≤ gb214)); have n4_ := Aside0.mk ((by rw [hg]; exact (below_size (by repeat (first | (with_reducible first | exact HB.out | apply below_alloc | apply pw_below_drewN | apply below_drew1 | refine below_set ?_ GE213.out) | exact HB.out))) : w.heap.size ≤ gb214)); have n5_ := Aside0.mk ((by rw [hg]; exact Nat.ne_of_lt (blk_lt (g := gb213) (o := .cells #[.int .u64 a0_0, .int .u64 a0_1, .int .u64 a0_2, .string a0_3, .string a0_4, .int .i64 a0_5, .int .i64 a0_6, .int .i64 a0_7, .slice A0_8 l0_8.length c0_8, .slice A0_9 l0_9.length c0_9, .slice A0_10 l0_10.length c0_10] 36 (0, 0)) (by (with_reducible repeat (first | refine blk_drewN ?_ _ | refine blk_drew ?_ | refine blk_alloc ?_ _)); exact BK213.out)) : gb213 ≠ gb214)); have n6_ := Aside0.mk ((by rw [hg]; exact Nat.ne_of_gt (blk_lt (g := gb213) (o := .cells #[.int .u64 a0_0, .int .u64 a0_1, .int .u64 a0_2, .string a0_3, .string a0_4, .int .i64 a0_5, .int .i64 a0_6, .int .i64 a0_7, .slice A0_8 l0_8.length c0_8, .slice A0_9 l0_9.length c0_9, .slice A0_10 l0_10.length c0_10] 36 (0, 0)) (by (with_reducible repeat (first | refine blk_drewN ?_ _ | refine blk_drew ?_ | refine blk_alloc ?_ _)); exact BK213.out)) : gb214 ≠ gb213)); clear BK213; clear HB; have BK213 := n0_; have HB := n1_; have BK214 := n2_; have GW214 := n3_; have GE214 := n4_; have NB213_214 := n5_; have NB214_213 := n6_; clear n0_ n1_ n2_ n3_ n4_ n5_ n6_; clear hb hbox hg; have hnb23 := NB213_214.out; have hnc23 := NB214_213.out; have hcz24_0 : w22.cell? ⟨gb213, 0, none⟩ = some (.int .u64 a0_0) := (blk_cell BK213.out 0).trans rfl; have hcz24_1 : w22.cell? ⟨gb213, 1, none⟩ = some (.int .u64 a0_1) := (blk_cell BK213.out 1).trans rfl; have hcz24_2 : w22.cell? ⟨gb213, 2, none⟩ = some (.int .u64 a0_2) := (blk_cell BK213.out 2).trans rfl; have hcz24_3 : w22.cell? ⟨gb213, 3, none⟩ = some (.string a0_3) := (blk_cell BK213.out 3).trans rfl; have hcz24_4 : w22.cell? ⟨gb213, 4, none⟩ = some (.string a0_4) := (blk_cell BK213.out 4).trans rfl; have hcz24_5 : w22.cell? ⟨gb213, 5, none⟩ = some (.int .i64 a0_5) := (blk_cell BK213.out 5).trans rfl; have hcz24_6 : w22.cell? ⟨gb213, 6, none⟩ = some (.int .i64 a0_6) := (blk_cell BK213.out 6).trans rfl; have hcz24_7 : w22.cell? ⟨gb213, 7, none⟩ = some (.int .i64 a0_7) := (blk_cell BK213.out 7).trans rfl; have hcz24_8 : w22.cell? ⟨gb213, 8, none⟩ = some (.slice A0_8 l0_8.length c0_8) := (blk_cell BK213.out 8).trans rfl; have hcz24_9 : w22.cell? ⟨gb213, 9, none⟩ = some (.slice A0_9 l0_9.length c0_9) := (blk_cell BK213.out 9).trans rfl; have hcz24_10 : w22.cell? ⟨gb213, 10, none⟩ = some (.slice A0_10 l0_10.length c0_10) := (blk_cell BK213.out 10).trans rfl; have hfz24_0 := blk_frozen BK213.out 0; have hfz24_1 := blk_frozen BK213.out 1; have hfz24_2 := blk_frozen BK213.out 2; have hfz24_3 := blk_frozen BK213.out 3; have hfz24_4 := blk_frozen BK213.out 4; have hfz24_5 := blk_frozen BK213.out 5; have hfz24_6 := blk_frozen BK213.out 6; have hfz24_7 := blk_frozen BK213.out 7; have hfz24_8 := blk_frozen BK213.out 8; have hfz24_9 := blk_frozen BK213.out 9; have hfz24_10 := blk_frozen BK213.out 10; have hcz25_0 : w22.cell? ⟨gb214, 0, none⟩ = some (.int .u64 a1_0) := (blk_cell BK214.out 0).trans rfl; have hcz25_1 : w22.cell? ⟨gb214, 1, none⟩ = some (.int .u64 a1_1) := (blk_cell BK214.out 1).trans rfl; have hcz25_2 : w22.cell? ⟨gb214, 2, none⟩ = some (.int .u64 a1_2) := (blk_cell BK214.out 2).trans rfl; have hcz25_3 : w22.cell? ⟨gb214, 3, none⟩ = some (.string a1_3) := (blk_cell BK214.out 3).trans rfl; have hcz25_4 : w22.cell? ⟨gb214, 4, none⟩ = some (.string a1_4) := (blk_cell BK214.out 4).trans rfl; have hcz25_5 : w22.cell? ⟨gb214, 5, none⟩ = some (.int .i64 a1_5) := (blk_cell BK214.out 5).trans rfl; have hcz25_6 : w22.cell? ⟨gb214, 6, none⟩ = some (.int .i64 a1_6) := (blk_cell BK214.out 6).trans rfl; have hcz25_7 : w22.cell? ⟨gb214, 7, none⟩ = some (.int .i64 a1_7) := (blk_cell BK214.out 7).trans rfl; have hcz25_8 : w22.cell? ⟨gb214, 8, none⟩ = some (.slice A1_8 l1_8.length c1_8) := (blk_cell BK214.out 8).trans rfl; have hcz25_9 : w22.cell? ⟨gb214, 9, none⟩ = some (.slice A1_9 l1_9.length c1_9) := (blk_cell BK214.out 9).trans rfl; have hcz25_10 : w22.cell? ⟨gb214, 10, none⟩ = some (.slice A1_10 l1_10.length c1_10) := (blk_cell BK214.out 10).trans rfl; have hfz25_0 := blk_frozen BK214.out 0; have hfz25_1 := blk_frozen BK214.out 1; have hfz25_2 := blk_frozen BK214.out 2; have hfz25_3 := blk_frozen BK214.out 3; have hfz25_4 := blk_frozen BK214.out 4; have hfz25_5 := blk_frozen BK214.out 5; have hfz25_6 := blk_frozen BK214.out 6; have hfz25_7 := blk_frozen BK214.out 7; have hfz25_8 := blk_frozen BK214.out 8; have hfz25_9 := blk_frozen BK214.out 9; have hfz25_10 := blk_frozen BK214.out 10) | (go_at_call 35; (with_reducible refine (api_Attr.calls k _ _ l0_8 _ _ l1_8 true _ ?side1 ?side2 ?side3 ?side4 A11.out).mono ?_); (case side1 => repeat (first | exact (Kd.C_below HR0_8.out HB.out) | (with_reducible refine Kd.C_alloc ?_ _) | (with_reducible refine Kd.C_drewN ?_ _) | (with_reducible refine Kd.C_drew ?_))); (case side2 => exact HC0_8.out); (case side3 => repeat (first | exact (Kd.C_below HR1_8.out HB.out) | (with_reducible refine Kd.C_alloc ?_ _) | (with_reducible refine Kd.C_drewN ?_ _) | (with_reducible refine Kd.C_drew ?_))); (case side4 => exact HC1_8.out); rintro e w' ⟨rfl, ⟨nd, rfl⟩⟩) | (go_at_call 36; (with_reducible refine (api_Event.calls k _ _ l0_9 _ _ l1_9 false _ ?side1 ?side2 ?side3 ?side4 A13.out).mono ?_); (case side1 => repeat (first | exact (Kd.C_below HR0_9.out (by repeat (first | (with_reducible first | exact HB.out | apply below_alloc | apply pw_below_drewN | apply below_drew1 | refine below_set ?_ GE213.out | refine below_set ?_ GE214.out) | exact HB.out))) | (with_reducible refine Kd.C_alloc ?_ _) | (with_reducible refine Kd.C_drewN ?_ _) | (with_reducible refine Kd.C_drew ?_))); (case side2 => exact HC0_9.out); (case side3 => repeat (first | exact (Kd.C_below HR1_9.out (by repeat (first | (with_reducible first | exact HB.out | apply below_alloc | apply pw_below_drewN | apply below_drew1 | refine below_set ?_ GE213.out | refine below_set ?_ GE214.out) | exact HB.out))) | (with_reducible refine Kd.C_alloc ?_ _) | (with_reducible refine Kd.C_drewN ?_ _) | (with_reducible refine Kd.C_drew ?_))); (case side4 => exact HC1_9.out); rintro e w' ⟨rfl, ⟨nd, rfl⟩⟩))
  go_ret
  exact ⟨by first | rfl | (simp [errW_none, errW_some] <;> rfl) | (simp [*, errW_none, errW_some] <;> rfl), by repeat (first | (with_reducible first | exact HB.out | apply below_alloc | apply pw_below_drewN | apply below_drew1 | refine below_set ?_ GE213.out | refine below_set ?_ GE214.out) | exact HB.out)⟩
 subst c14
 have H1 : ((api_Link.f k l0_10 l1_10).bind fun t217 => (some t217)) = some r := by rw [if_pos rfl] at H; exact H
 clear H
 have H := H1
 clear H1
 replace H := Option.bind_eq_some_iff.mp H
 obtain ⟨t217, A150, H⟩ := H
 replace H : (some t217) = some r := H
 have A15 := Aside0.mk A150
 clear A150
 obtain rfl := Option.some.inj H
 go_enter Tryd.func18, Tryd.ntmps18
 go_wp2_with (first | ((with_reducible refine gate_dst (N := 2) rfl ?_); refine box_event ?hg (N := 2) ?hd (cs := #[.int .u64 a0_0, .int .u64 a0_1, .int .u64 a0_2, .string a0_3, .string a0_4, .int .i64 a0_5, .int .i64 a0_6, .int .i64 a0_7, .slice A0_8 l0_8.length c0_8, .slice A0_9 l0_9.length c0_9, .slice A0_10 l0_10.length c0_10]) (t := 36) ?hr ?_; (case hd => rfl); (case hg => rfl); (case hr => first | (go_simp; done) | (go_simp; rfl)); intro gb213 hg w16 hbox hb; have n0_ := Aside0.mk (below_step (by repeat (first | (with_reducible first | exact HB.out | apply below_alloc | apply pw_below_drewN | apply below_drew1) | exact HB.out)) hb); have n1_ := Aside0.mk (hbox); have n2_ := Aside0.mk ((by rw [hg]; exact (below_size (by repeat (first | (with_reducible first | exact HB.out | apply below_alloc | apply pw_below_drewN | apply below_drew1) | exact HB.out))) : w.heap.size ≤ gb213)); have n3_ := Aside0.mk ((by rw [hg]; exact (below_size (by repeat (first | (with_reducible first | exact HB.out | apply below_alloc | apply pw_below_drewN | apply below_drew1) | exact HB.out))) : w.heap.size ≤ gb213)); clear HB; have HB := n0_; have BK213 := n1_; have GW213 := n2_; have GE213 := n3_; clear n0_ n1_ n2_ n3_; clear hb hbox hg) | ((with_reducible refine gate_dst (N := 3) rfl ?_); refine box_event ?hg (N := 3) ?hd (cs := #[.int .u64 a1_0, .int .u64 a1_1, .int .u64 a1_2, .string a1_3, .string a1_4, .int .i64 a1_5, .int .i64 a1_6, .int .i64 a1_7, .slice A1_8 l1_8.length c1_8, .slice A1_9 l1_9.length c1_9, .slice A1_10 l1_10.length c1_10]) (t := 36) ?hr ?_; (case hd => rfl); (case hg => rfl); (case hr => first | (go_simp; done) | (go_simp; rfl)); intro gb214 hg w17 hbox hb; have n0_ := Aside0.mk (blk_below (g := gb213) (o := .cells #[.int .u64 a0_0, .int .u64 a0_1, .int .u64 a0_2, .string a0_3, .string a0_4, .int .i64 a0_5, .int .i64 a0_6, .int .i64 a0_7, .slice A0_8 l0_8.length c0_8, .slice A0_9 l0_9.length c0_9, .slice A0_10 l0_10.length c0_10] 36 (0, 0)) (by (with_reducible repeat (first | refine blk_drewN ?_ _ | refine blk_drew ?_ | refine blk_alloc ?_ _)); exact BK213.out) hb); have n1_ := Aside0.mk (below_step (by repeat (first | (with_reducible first | exact HB.out | apply below_alloc | apply pw_below_drewN | apply below_drew1 | refine below_set ?_ GE213.out) | exact HB.out)) hb); have n2_ := Aside0.mk (hbox); have n3_ := Aside0.mk ((by rw [hg]; exact (below_size (by repeat (first | (with_reducible first | exact HB.out | apply below_alloc | apply pw_below_drewN | apply below_drew1 | refine below_set ?_ GE213.out) | exact HB.out))) : w.heap.size ≤ gb214)); have n4_ := Aside0.mk ((by rw [hg]; exact (below_size (by repeat (first | (with_reducible first | exact HB.out | apply below_alloc | apply pw_below_drewN | apply below_drew1 | refine below_set ?_ GE213.out) | exact HB.out))) : w.heap.size ≤ gb214)); have n5_ := Aside0.mk ((by rw [hg]; exact Nat.ne_of_lt (blk_lt (g := gb213) (o := .cells #[.int .u64 a0_0, .int .u64 a0_1, .int .u64 a0_2, .string a0_3, .string a0_4, .int .i64 a0_5, .int .i64 a0_6, .int .i64 a0_7, .slice A0_8 l0_8.length c0_8, .slice A0_9 l0_9.length c0_9, .slice A0_10 l0_10.length c0_10] 36 (0, 0)) (by (with_reducible repeat (first | refine blk_drewN ?_ _ | refine blk_drew ?_ | refine blk_alloc ?_ _)); exact BK213.out)) : gb213 ≠ gb214)); have n6_ := Aside0.mk ((by rw [hg]; exact Nat.ne_of_gt (blk_lt (g := gb213) (o := .cells #[.int .u64 a0_0, .int .u64 a0_1, .int .u64 a0_2, .string a0_3, .string a0_4, .int .i64 a0_5, .int .i64 a0_6, .int .i64 a0_7, .slice A0_8 l0_8.length c0_8, .slice A0_9 l0_9.length c0_9, .slice A0_10 l0_10.length c0_10] 36 (0, 0)) (by (with_reducible repeat (first | refine blk_drewN ?_ _ | refine blk_drew ?_ | refine blk_alloc ?_ _)); exact BK213.out)) : gb214 ≠ gb213)); clear BK213; clear HB; have BK213 := n0_; have HB := n1_; have BK214 := n2_; have GW214 := n3_; have GE214 := n4_; have NB213_214 := n5_; have NB214_213 := n6_; clear n0_ n1_ n2_ n3_ n4_ n5_ n6_; clear hb hbox hg; have hnb18 := NB213_214.out; have hnc18 := NB214_213.out; have hcz19_0 : w17.cell? ⟨gb213, 0, none⟩ = some (.int .u64 a0_0) := (blk_cell BK213.out 0).trans rfl; have hcz19_1 : w17.cell? ⟨gb213, 1, none⟩ = some (.int .u64 a0_1) := (blk_cell BK213.out 1).trans rfl; have hcz19_2 : w17.cell? ⟨gb213, 2, none⟩ = some (.int .u64 a0_2) := (blk_cell BK213.out 2).trans rfl; have hcz19_3 : w17.cell? ⟨gb213, 3, none⟩ = some (.string a0_3) := (blk_cell BK213.out 3).trans rfl; have hcz19_4 : w17.cell? ⟨gb213, 4, none⟩ = some (.string a0_4) := (blk_cell BK213.out 4).trans rfl; have hcz19_5 : w17.cell? ⟨gb213, 5, none⟩ = some (.int .i64 a0_5) := (blk_cell BK213.out 5).trans rfl; have hcz19_6 : w17.cell? ⟨gb213, 6, none⟩ = some (.int .i64 a0_6) := (blk_cell BK213.out 6).trans rfl; have hcz19_7 : w17.cell? ⟨gb213, 7, none⟩ = some (.int .i64 a0_7) := (blk_cell BK213.out 7).trans rfl; have hcz19_8 : w17.cell? ⟨gb213, 8, none⟩ = some (.slice A0_8 l0_8.length c0_8) := (blk_cell BK213.out 8).trans rfl; have hcz19_9 : w17.cell? ⟨gb213, 9, none⟩ = some (.slice A0_9 l0_9.length c0_9) := (blk_cell BK213.out 9).trans rfl; have hcz19_10 : w17.cell? ⟨gb213, 10, none⟩ = some (.slice A0_10 l0_10.length c0_10) := (blk_cell BK213.out 10).trans rfl; have hfz19_0 := blk_frozen BK213.out 0; have hfz19_1 := blk_frozen BK213.out 1; have hfz19_2 := blk_frozen BK213.out 2; have hfz19_3 := blk_frozen BK213.out 3; have hfz19_4 := blk_frozen BK213.out 4; have hfz19_5 := blk_frozen BK213.out 5; have hfz19_6 := blk_frozen BK213.out 6; have hfz19_7 := blk_frozen BK213.out 7; have hfz19_8 := blk_frozen BK213.out 8; have hfz19_9 := blk_frozen BK213.out 9; have hfz19_10 := blk_frozen BK213.out 10; have hcz20_0 : w17.cell? ⟨gb214, 0, none⟩ = some (.int .u64 a1_0) := (blk_cell BK214.out 0).trans rfl; have hcz20_1 : w17.cell? ⟨gb214, 1, none⟩ = some (.int .u64 a1_1) := (blk_cell BK214.out 1).trans rfl; have hcz20_2 : w17.cell? ⟨gb214, 2, none⟩ = some (.int .u64 a1_2) := (blk_cell BK214.out 2).trans rfl; have hcz20_3 : w17.cell? ⟨gb214, 3, none⟩ = some (.string a1_3) := (blk_cell BK214.out 3).trans rfl; have hcz20_4 : w17.cell? ⟨gb214, 4, none⟩ = some (.string a1_4) := (blk_cell BK214.out 4).trans rfl; have hcz20_5 : w17.cell? ⟨gb214, 5, none⟩ = some (.int .i64 a1_5) := (blk_cell BK214.out 5).trans rfl; have hcz20_6 : w17.cell? ⟨gb214, 6, none⟩ = some (.int .i64 a1_6) := (blk_cell BK214.out 6).trans rfl; have hcz20_7 : w17.cell? ⟨gb214, 7, none⟩ = some (.int .i64 a1_7) := (blk_cell BK214.out 7).trans rfl; have hcz20_8 : w17.cell? ⟨gb214, 8, none⟩ = some (.slice A1_8 l1_8.length c1_8) := (blk_cell BK214.out 8).trans rfl; have hcz20_9 : w17.cell? ⟨gb214, 9, none⟩ = some (.slice A1_9 l1_9.length c1_9) := (blk_cell BK214.out 9).trans rfl; have hcz20_10 : w17.cell? ⟨gb214, 10, none⟩ = some (.slice A1_10 l1_10.length c1_10) := (blk_cell BK214.out 10).trans rfl; have hfz20_0 := blk_frozen BK214.out 0; have hfz20_1 := blk_frozen BK214.out 1; have hfz20_2 := blk_frozen BK214.out 2; have hfz20_3 := blk_frozen BK214.out 3; have hfz20_4 := blk_frozen BK214.out 4; have hfz20_5 := blk_frozen BK214.out 5; have hfz20_6 := blk_frozen BK214.out 6; have hfz20_7 := blk_frozen BK214.out 7; have hfz20_8 := blk_frozen BK214.out 8; have hfz20_9 := blk_frozen BK214.out 9; have hfz20_10 := blk_frozen BK214.out 10) | (go_at_call 35; (with_reducible refine (api_Attr.calls k _ _ l0_8 _ _ l1_8 true _ ?side1 ?side2 ?side3 ?side4 A11.out).mono ?_); (case side1 => repeat (first | exact (Kd.C_below HR0_8.out HB.out) | (with_reducible refine Kd.C_alloc ?_ _) | (with_reducible refine Kd.C_drewN ?_ _) | (with_reducible refine Kd.C_drew ?_))); (case side2 => exact HC0_8.out); (case side3 => repeat (first | exact (Kd.C_below HR1_8.out HB.out) | (with_reducible refine Kd.C_alloc ?_ _) | (with_reducible refine Kd.C_drewN ?_ _) | (with_reducible refine Kd.C_drew ?_))); (case side4 => exact HC1_8.out); rintro e w' ⟨rfl, ⟨nd, rfl⟩⟩) | (go_at_call 36; (with_reducible refine (api_Event.calls k _ _ l0_9 _ _ l1_9 true _ ?side1 ?side2 ?side3 ?side4 A13.out).mono ?_); (case side1 => repeat (first | exact (Kd.C_below HR0_9.out (by repeat (first | (with_reducible first | exact HB.out | apply below_alloc | apply pw_below_drewN | apply below_drew1 | refine below_set ?_ GE213.out | refine below_set ?_ GE214.out) | exact HB.out))) | (with_reducible refine Kd.C_alloc ?_ _) | (with_reducible refine Kd.C_drewN ?_ _) | (with_reducible refine Kd.C_drew ?_))); (case side2 => exact HC0_9.out); (case side3 => repeat (first | exact (Kd.C_below HR1_9.out (by repeat (first | (with_reducible first | exact HB.out | apply below_alloc | apply pw_below_drewN | apply below_drew1 | refine below_set ?_ GE213.out | refine below_set ?_ GE214.out) | exact HB.out))) | (with_reducible refine Kd.C_alloc ?_ _) | (with_reducible refine Kd.C_drewN ?_ _) | (with_reducible refine Kd.C_drew ?_))); (case side4 => exact HC1_9.out); rintro e w' ⟨rfl, ⟨nd, rfl⟩⟩) | (go_at_call 37; (with_reducible refine (api_Link.calls k _ _ l0_10 _ _ l1_10 t217 _ ?side1 ?side2 ?side3 ?side4 A15.out).mono ?_); (case side1 => repeat (first | exact (Kd.C_below HR0_10.out (by repeat (first | (with_reducible first | exact HB.out | apply below_alloc | apply pw_below_drewN | apply below_drew1 | refine below_set ?_ GE213.out | refine below_set ?_ GE214.out) | exact HB.out))) | (with_reducible refine Kd.C_alloc ?_ _) | (with_reducible refine Kd.C_drewN ?_ _) | (with_reducible refine Kd.C_drew ?_))); (case side2 => exact HC0_10.out); (case side3 => repeat (first | exact (Kd.C_below HR1_10.out (by repeat (first | (with_reducible first | exact HB.out | apply below_alloc | apply pw_below_drewN | apply below_drew1 | refine below_set ?_ GE213.out | refine below_set ?_ GE214.out) | exact HB.out))) | (with_reducible refine Kd.C_alloc ?_ _) | (with_reducible refine Kd.C_drewN ?_ _) | (with_reducible refine Kd.C_drew ?_))); (case side4 => exact HC1_10.out); rintro e w' ⟨rfl, ⟨nd, rfl⟩⟩))
 go_ret
 exact ⟨by first | rfl | (simp [errW_none, errW_some] <;> rfl) | (simp [*, errW_none, errW_some] <;> rfl), by repeat (first | (with_reducible first | exact HB.out | apply below_alloc | apply pw_below_drewN | apply below_drew1 | refine below_set ?_ GE213.out | refine below_set ?_ GE214.out) | exact HB.out)⟩
end Go.Proofs.YtkeepnmlphbffaaDoor.PSp
