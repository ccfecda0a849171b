-- Written by a program: the kit's print.py, driven for several laws at once. Not trusted: Lean checks it.
import Derived.Test.YtffggkhahambhaaPAllx0
import Derived.Test.YtffggkhahambhaaPAllx8
namespace Go.Proofs.Ytffggkhahambhaa.PAll
open Go.RowKit Go.Proofs.YtffggkhahambhaaW.PrintWords Go.Proofs.YtffggkhahambhaaW.PrintLast Go.Proofs.YtffggkhahambhaaW.PrintMore
attribute [local go_sem] max2_int min2_int max_two min_two max_three min_three max_four min_four   -- for this text's walks alone
set_option linter.unusedVariables false
set_option linter.unusedSimpArgs false

def q9m (n m : Nat) : Array Bool := ((List.range n).map (Nat.testBit m)).toArray
theorem q9a {α : Type} (xs : List α) (i : Nat) (x : α) : xs.toArray.setIfInBounds i x = (xs.set i x).toArray := List.setIfInBounds_toArray ..
theorem q9b {α : Type} (x y : α) (xs : List α) : (x :: xs).set 0 y = y :: xs := List.set_cons_zero ..
theorem q9c {α : Type} (x y : α) (xs : List α) (n : Nat) : (x :: xs).set (n + 1) y = x :: xs.set n y := List.set_cons_succ ..
theorem q9h {w w' : World} {p : Addr} {v : Value} (h : Below w.heap.size w w') (x : w.cell? p = some v) : w'.cell? p = some v := (h.cell (World.block_lt_of_cell? w _ x)).trans x
theorem q9p {P : Program} {md : Region.Mode} {ops : Array Oper} {Q : Exit → Act → World → Prop} {S : World → Prop} {ds : List Nat} {T : Bool × List (List Nat × List Nat)} {i : Nat} {N : Option Tmp} {oi : Oper} {v : Value} {fuel : Nat} {l : Array Bool} {a : Act} {w : World} (l' : Array Bool) (hT : rtab md ops = T) {a' : Act}
    (h : wpAnyLast P md ops Q S ds fuel l' a' w) (hi : ops[i]? = some oi := by rfl) (hN : oi.dst = N := by rfl) (hc : anyT T l.toList l'.toList i = true := by kernel_rfl) (hQ : ∀ c a w, Q (.panic c) (a.put oi.dst v) w → Q (.panic c) a w := by exact fun _ _ _ h => h)
    (hw : Region.wanted oi (yielded ops a.tmps) = true := by rfl) (hy : ∀ w', (execOp a.eval oi).run P w' = .ok (.value v) w' := by intro w'; go_simp; with_reducible rfl) (ha : a.put N v = a' := by simp only [Act.put, q9a, q9b, q9c, i64_w, i32_w]; rfl) :
    wpAnyLast P md ops Q S ds (fuel + 1) l a w := pure_ l' hi hN (any_of hT hc) hQ (Or.inl ⟨hw, hy⟩) ha h
theorem q9u {P : Program} {md : Region.Mode} {ops : Array Oper} {Q : Exit → Act → World → Prop} {S : World → Prop} {ds : List Nat} {T : Bool × List (List Nat × List Nat)} {i : Nat} {N : Option Tmp} {oi : Oper} {fuel : Nat} {l : Array Bool} {a : Act} {w : World} (l' : Array Bool) (hT : rtab md ops = T) {a' : Act}
    (h : wpAnyLast P md ops Q S ds fuel l' a' w) (hi : ops[i]? = some oi := by rfl) (hN : oi.dst = N := by rfl) (hc : anyT T l.toList l'.toList i = true := by kernel_rfl) (hQ : ∀ c a w, Q (.panic c) (a.put oi.dst undef) w → Q (.panic c) a w := by exact fun _ _ _ h => h)
    (hw : Region.wanted oi (yielded ops a.tmps) = false := by rfl) (ha : a.put N undef = a' := by simp only [Act.put, q9a, q9b, q9c, i64_w, i32_w]; rfl) :
    wpAnyLast P md ops Q S ds (fuel + 1) l a w := pure_ l' hi hN (any_of hT hc) hQ (Or.inr ⟨hw, rfl⟩) ha h
theorem q9k {w : World} {g : Nat} {cs : Array Value} {t : TypeId} (h : w.heap[g]? = some (.cells cs t (0, 0))) (i : Nat) {v : Value} (e : cs[i]? = some v := by rfl) : w.cell? ⟨g, i, none⟩ = some v := (blk_cell h i).trans e
theorem q9y0 {P : Prop} (h : P := by repeat (first | (with_reducible first | exact HB.out | apply below_alloc | apply pw_below_drewN | apply below_drew1) | exact HB.out)) : P := h
theorem q9y1 {P : Prop} (h : P := by repeat (first | (with_reducible first | exact HB.out | apply below_alloc | apply pw_below_drewN | apply below_drew1 | refine below_set ?_ GE193.out) | exact HB.out)) : P := h
theorem q9y2 {P : Prop} (h : P := by (with_reducible repeat (first | refine blk_drewN ?_ _ | refine blk_drew ?_ | refine blk_alloc ?_ _)); exact BK193.out) : P := h

/-! ### cambiumref21_text2: function 32 -/
def cambiumref21_text2.f (a0 : ByteArray) : Option (Bool) := if a0.toList = ([115, 101, 114, 118, 105, 99, 101] : List UInt8) then (some true) else (some (a0.toList == ([111, 112] : List UInt8)))
set_option maxHeartbeats 8000000 in
set_option maxRecDepth 100000 in
theorem cambiumref21_text2.calls (a0 : ByteArray) (r : Bool) (w : World) (h : cambiumref21_text2.f a0 = some r) :
  Calls Try.prog 32 #[.string a0] w fun e w' => e = .returned (.bool r) ∧ Drawn0 w w' := by
 have H : (if a0.toList = ([115, 101, 114, 118, 105, 99, 101] : List UInt8) then (some true) else (some (a0.toList == ([111, 112] : List UInt8)))) = some r := h
 clear h
 by_cases c2 : a0.toList = ([115, 101, 114, 118, 105, 99, 101] : List UInt8)
 ·rw [if_pos c2] at H
  have c2b0 : (a0.toList == ([115, 101, 114, 118, 105, 99, 101] : List UInt8)) = true := beq_iff_eq.mpr c2
  have c2b1 : (a0.toList != ([115, 101, 114, 118, 105, 99, 101] : List UInt8)) = false := bne_eq_false_iff_eq.mpr c2
  clear c2
  obtain rfl := Option.some.inj H
  go_enter Try.func32, Try.ntmps32
  go_wp2
  go_ret
  exact ⟨by first | rfl | (simp; done) | (simp [*]; done), by repeat (first | exact Drawn0.refl _ | apply Drawn0.step)⟩
 rw [if_neg c2] at H
 have c2b0 : (a0.toList == ([115, 101, 114, 118, 105, 99, 101] : List UInt8)) = false := beq_eq_false_iff_ne.mpr c2
 have c2b1 : (a0.toList != ([115, 101, 114, 118, 105, 99, 101] : List UInt8)) = true := bne_iff_ne.mpr c2
 obtain rfl := Option.some.inj H
 go_enter Try.func32, Try.ntmps32
 go_wp2
 go_ret
 exact ⟨by first | rfl | (simp; done) | (simp [*]; done), by repeat (first | exact Drawn0.refl _ | apply Drawn0.step)⟩

/-! ### cambiumref21_number: function 33 -/
def cambiumref21_number.f (a0 : ByteArray) : Option (Bool) := if a0.toList = ([115, 116, 97, 116, 117, 115] : List UInt8) then (some true) else (if a0.toList = ([100, 117, 114] : List UInt8) then (some true) else (if a0.toList = ([115, 116, 97, 114, 116] : List UInt8) then (some true) else (if a0.toList = ([116, 114, 97, 99, 101] : List UInt8) then (some true) else (if a0.toList = ([105, 100] : List UInt8) then (some true) else (some (a0.toList == ([112, 97, 114, 101, 110, 116] : List UInt8)))))))
set_option maxHeartbeats 8000000 in
set_option maxRecDepth 100000 in
theorem cambiumref21_number.calls (a0 : ByteArray) (r : Bool) (w : World) (h : cambiumref21_number.f a0 = some r) :
  Calls Try.prog 33 #[.string a0] w fun e w' => e = .returned (.bool r) ∧ Drawn0 w w' := by
 have H : (if a0.toList = ([115, 116, 97, 116, 117, 115] : List UInt8) then (some true) else (if a0.toList = ([100, 117, 114] : List UInt8) then (some true) else (if a0.toList = ([115, 116, 97, 114, 116] : List UInt8) then (some true) else (if a0.toList = ([116, 114, 97, 99, 101] : List UInt8) then (some true) else (if a0.toList = ([105, 100] : List UInt8) then (some true) else (some (a0.toList == ([112, 97, 114, 101, 110, 116] : List UInt8)))))))) = some r := h
 clear h
 by_cases c2 : a0.toList = ([115, 116, 97, 116, 117, 115] : List UInt8)
 ·rw [if_pos c2] at H
  have c2b0 : (a0.toList == ([115, 116, 97, 116, 117, 115] : List UInt8)) = true := beq_iff_eq.mpr c2
  have c2b1 : (a0.toList != ([115, 116, 97, 116, 117, 115] : List UInt8)) = false := bne_eq_false_iff_eq.mpr c2
  clear c2
  obtain rfl := Option.some.inj H
  go_enter Try.func33, Try.ntmps33
  go_wp2
  go_ret
  exact ⟨by first | rfl | (simp; done) | (simp [*]; done), by repeat (first | exact Drawn0.refl _ | apply Drawn0.step)⟩
 rw [if_neg c2] at H
 have c2b0 : (a0.toList == ([115, 116, 97, 116, 117, 115] : List UInt8)) = false := beq_eq_false_iff_ne.mpr c2
 have c2b1 : (a0.toList != ([115, 116, 97, 116, 117, 115] : List UInt8)) = true := bne_iff_ne.mpr c2
 by_cases c3 : a0.toList = ([100, 117, 114] : List UInt8)
 ·rw [if_pos c3] at H
  have c3b0 : (a0.toList == ([100, 117, 114] : List UInt8)) = true := beq_iff_eq.mpr c3
  have c3b1 : (a0.toList != ([100, 117, 114] : List UInt8)) = false := bne_eq_false_iff_eq.mpr c3
  clear c3
  obtain rfl := Option.some.inj H
  go_enter Try.func33, Try.ntmps33
  go_wp2
  go_ret
  exact ⟨by first | rfl | (simp; done) | (simp [*]; done), by repeat (first | exact Drawn0.refl _ | apply Drawn0.step)⟩
 rw [if_neg c3] at H
 have c3b0 : (a0.toList == ([100, 117, 114] : List UInt8)) = false := beq_eq_false_iff_ne.mpr c3
 have c3b1 : (a0.toList != ([100, 117, 114] : List UInt8)) = true := bne_iff_ne.mpr c3
 by_cases c4 : a0.toList = ([115, 116, 97, 114, 116] : List UInt8)
 ·rw [if_pos c4] at H
  have c4b0 : (a0.toList == ([115, 116, 97, 114, 116] : List UInt8)) = true := beq_iff_eq.mpr c4
  have c4b1 : (a0.toList != ([115, 116, 97, 114, 116] : List UInt8)) = false := bne_eq_false_iff_eq.mpr c4
  clear c4
  obtain rfl := Option.some.inj H
  go_enter Try.func33, Try.ntmps33
  go_wp2
  go_ret
  exact ⟨by first | rfl | (simp; done) | (simp [*]; done), by repeat (first | exact Drawn0.refl _ | apply Drawn0.step)⟩
 rw [if_neg c4] at H
 have c4b0 : (a0.toList == ([115, 116, 97, 114, 116] : List UInt8)) = false := beq_eq_false_iff_ne.mpr c4
 have c4b1 : (a0.toList != ([115, 116, 97, 114, 116] : List UInt8)) = true := bne_iff_ne.mpr c4
 by_cases c5 : a0.toList = ([116, 114, 97, 99, 101] : List UInt8)
 ·rw [if_pos c5] at H
  have c5b0 : (a0.toList == ([116, 114, 97, 99, 101] : List UInt8)) = true := beq_iff_eq.mpr c5
  have c5b1 : (a0.toList != ([116, 114, 97, 99, 101] : List UInt8)) = false := bne_eq_false_iff_eq.mpr c5
  clear c5
  obtain rfl := Option.some.inj H
  go_enter Try.func33, Try.ntmps33
  go_wp2
  go_ret
  exact ⟨by first | rfl | (simp; done) | (simp [*]; done), by repeat (first | exact Drawn0.refl _ | apply Drawn0.step)⟩
 rw [if_neg c5] at H
 have c5b0 : (a0.toList == ([116, 114, 97, 99, 101] : List UInt8)) = false := beq_eq_false_iff_ne.mpr c5
 have c5b1 : (a0.toList != ([116, 114, 97, 99, 101] : List UInt8)) = true := bne_iff_ne.mpr c5
 by_cases c6 : a0.toList = ([105, 100] : List UInt8)
 ·rw [if_pos c6] at H
  have c6b0 : (a0.toList == ([105, 100] : List UInt8)) = true := beq_iff_eq.mpr c6
  have c6b1 : (a0.toList != ([105, 100] : List UInt8)) = false := bne_eq_false_iff_eq.mpr c6
  clear c6
  obtain rfl := Option.some.inj H
  go_enter Try.func33, Try.ntmps33
  go_wp2
  go_ret
  exact ⟨by first | rfl | (simp; done) | (simp [*]; done), by repeat (first | exact Drawn0.refl _ | apply Drawn0.step)⟩
 rw [if_neg c6] at H
 have c6b0 : (a0.toList == ([105, 100] : List UInt8)) = false := beq_eq_false_iff_ne.mpr c6
 have c6b1 : (a0.toList != ([105, 100] : List UInt8)) = true := bne_iff_ne.mpr c6
 obtain rfl := Option.some.inj H
 go_enter Try.func33, Try.ntmps33
 go_wp2
 go_ret
 exact ⟨by first | rfl | (simp; done) | (simp [*]; done), by repeat (first | exact Drawn0.refl _ | apply Drawn0.step)⟩

end Go.Proofs.Ytffggkhahambhaa.PAll
