-- Written by a program: the kit's print.py, driven for several laws at once. Not trusted: Lean checks it.
import Derived.Test.YtkgpnfjmahjlcaaDoorPAllx0
namespace Go.Proofs.YtkgpnfjmahjlcaaDoor.PAll
open Go.RowKit Go.Proofs.YtkgpnfjmahjlcaaDoorW.PrintWords Go.Proofs.YtkgpnfjmahjlcaaDoorW.PrintLast Go.Proofs.YtkgpnfjmahjlcaaDoorW.PrintMore
attribute [local go_sem] max2_int min2_int max_two min_two max_three min_three max_four min_four   -- for this text's walks alone
set_option linter.unusedVariables false
set_option linter.unusedSimpArgs false

/-! ### cambiumref02_Rune: function 84 -/
def q12m (n m : Nat) : Array Bool := ((List.range n).map (Nat.testBit m)).toArray
theorem q12a {α : Type} (xs : List α) (i : Nat) (x : α) : xs.toArray.setIfInBounds i x = (xs.set i x).toArray := List.setIfInBounds_toArray ..
theorem q12b {α : Type} (x y : α) (xs : List α) : (x :: xs).set 0 y = y :: xs := List.set_cons_zero ..
theorem q12c {α : Type} (x y : α) (xs : List α) (n : Nat) : (x :: xs).set (n + 1) y = x :: xs.set n y := List.set_cons_succ ..
theorem q12h {w w' : World} {p : Addr} {v : Value} (h : Below w.heap.size w w') (x : w.cell? p = some v) : w'.cell? p = some v := (h.cell (World.block_lt_of_cell? w _ x)).trans x
theorem q12p {P : Program} {md : Region.Mode} {ops : Array Oper} {Q : Exit → Act → World → Prop} {S : World → Prop} {ds : List Nat} {T : Bool × List (List Nat × List Nat)} {i : Nat} {N : Option Tmp} {oi : Oper} {v : Value} {fuel : Nat} {l : Array Bool} {a : Act} {w : World} (l' : Array Bool) (hT : rtab md ops = T) {a' : Act}
    (h : wpAnyLast P md ops Q S ds fuel l' a' w) (hi : ops[i]? = some oi := by rfl) (hN : oi.dst = N := by rfl) (hc : anyT T l.toList l'.toList i = true := by kernel_rfl) (hQ : ∀ c a w, Q (.panic c) (a.put oi.dst v) w → Q (.panic c) a w := by exact fun _ _ _ h => h)
    (hw : Region.wanted oi (yielded ops a.tmps) = true := by rfl) (hy : ∀ w', (execOp a.eval oi).run P w' = .ok (.value v) w' := by intro w'; go_simp; with_reducible rfl) (ha : a.put N v = a' := by simp only [Act.put, q12a, q12b, q12c, i64_w, i32_w]; rfl) :
    wpAnyLast P md ops Q S ds (fuel + 1) l a w := pure_ l' hi hN (any_of hT hc) hQ (Or.inl ⟨hw, hy⟩) ha h
theorem q12u {P : Program} {md : Region.Mode} {ops : Array Oper} {Q : Exit → Act → World → Prop} {S : World → Prop} {ds : List Nat} {T : Bool × List (List Nat × List Nat)} {i : Nat} {N : Option Tmp} {oi : Oper} {fuel : Nat} {l : Array Bool} {a : Act} {w : World} (l' : Array Bool) (hT : rtab md ops = T) {a' : Act}
    (h : wpAnyLast P md ops Q S ds fuel l' a' w) (hi : ops[i]? = some oi := by rfl) (hN : oi.dst = N := by rfl) (hc : anyT T l.toList l'.toList i = true := by kernel_rfl) (hQ : ∀ c a w, Q (.panic c) (a.put oi.dst undef) w → Q (.panic c) a w := by exact fun _ _ _ h => h)
    (hw : Region.wanted oi (yielded ops a.tmps) = false := by rfl) (ha : a.put N undef = a' := by simp only [Act.put, q12a, q12b, q12c, i64_w, i32_w]; rfl) :
    wpAnyLast P md ops Q S ds (fuel + 1) l a w := pure_ l' hi hN (any_of hT hc) hQ (Or.inr ⟨hw, rfl⟩) ha h
theorem q12k {w : World} {g : Nat} {cs : Array Value} {t : TypeId} (h : w.heap[g]? = some (.cells cs t (0, 0))) (i : Nat) {v : Value} (e : cs[i]? = some v := by rfl) : w.cell? ⟨g, i, none⟩ = some v := (blk_cell h i).trans e
theorem q12y0 {P : Prop} (h : P := by first | rfl | (simp; done) | (simp [*]; done)) : P := h
theorem q12y1 {P : Prop} (h : P := by repeat (first | (with_reducible first | exact HB.out | apply below_alloc | apply pw_below_drewN | apply below_drew1) | exact HB.out)) : P := h
theorem q12y2 {P : Prop} (h : P := by first | (with_reducible assumption) | assumption) : P := h

mutual
def cambiumref02_Rune.j0 : Nat → ByteArray → Int → Int → Int → Int → Bool → Option (Int × Int)
 | 0, _, _, _, _, _, _ => none
 | k + 1, x0, x4, x5, x6, x7, x18 => if x18 = true then (cambiumref02_Rune.j3 k x0 2 (Int.tmod x4 32) 128) else (if x4 ≥ 224 then (cambiumref02_Rune.j1 k x0 x4 x5 x6 x7 (decide (x4 < 240))) else (cambiumref02_Rune.j1 k x0 x4 x5 x6 x7 false))
def cambiumref02_Rune.j3 : Nat → ByteArray → Int → Int → Int → Option (Int × Int)
 | 0, _, _, _, _ => none
 | k + 1, x0, x5, x6, x7 => if x5 > (x0.size : Int) then (some (65533, 1)) else (cambiumref02_Rune.l0 k x0 x5 x6 x7 1)
def cambiumref02_Rune.l0 : Nat → ByteArray → Int → Int → Int → Int → Option (Int × Int)
 | 0, _, _, _, _, _ => none
 | k + 1, x0, x5, x6, x7, x8 => if x8 < x5 then (if 0 ≤ x8 then (if x8 < (x0.size : Int) then (if ((Int.tdiv (bt x0 x8) 64) % 256) = 2 then (cambiumref02_Rune.l0 k x0 x5 (wrap64 ((wrap64 (x6 * 64)) + (Int.tmod (wrap64 (bt x0 x8)) 64))) x7 (wrap64 (x8 + 1))) else (some (65533, 1))) else (none)) else (none)) else (if x6 < x7 then (some (65533, 1)) else (if x6 > 1114111 then (some (65533, 1)) else (if x6 ≥ 55296 then (if x6 < 57344 then (some (65533, 1)) else (some (x6, x5))) else (some (x6, x5)))))
def cambiumref02_Rune.j1 : Nat → ByteArray → Int → Int → Int → Int → Bool → Option (Int × Int)
 | 0, _, _, _, _, _, _ => none
 | k + 1, x0, x4, x5, x6, x7, x26 => if x26 = true then (cambiumref02_Rune.j3 k x0 3 (Int.tmod x4 16) 2048) else (if x4 ≥ 240 then (cambiumref02_Rune.j2 k x0 x4 x5 x6 x7 (decide (x4 < 245))) else (cambiumref02_Rune.j2 k x0 x4 x5 x6 x7 false))
def cambiumref02_Rune.j2 : Nat → ByteArray → Int → Int → Int → Int → Bool → Option (Int × Int)
 | 0, _, _, _, _, _, _ => none
 | k + 1, x0, x4, x5, x6, x7, x34 => if x34 = true then (cambiumref02_Rune.j3 k x0 4 (Int.tmod x4 8) 65536) else (if x4 ≥ 128 then (some (65533, 1)) else (cambiumref02_Rune.j3 k x0 x5 x6 x7))
end
def cambiumref02_Rune.f (k : Nat) (a0 : ByteArray) : Option (Int × Int) := if 0 < (a0.size : Int) then (if (wrap64 (bt a0 0)) ≥ 194 then (cambiumref02_Rune.j0 k a0 (wrap64 (bt a0 0)) 1 (wrap64 (bt a0 0)) 0 (decide ((wrap64 (bt a0 0)) < 224))) else (cambiumref02_Rune.j0 k a0 (wrap64 (bt a0 0)) 1 (wrap64 (bt a0 0)) 0 false)) else (none)
theorem cambiumref02_Rune.mono_l : ∀ k, (∀ y0 y1 y2 y3 y4 y5, LeO (cambiumref02_Rune.j0 k y0 y1 y2 y3 y4 y5) (cambiumref02_Rune.j0 (k + 1) y0 y1 y2 y3 y4 y5)) ∧ (∀ y0 y1 y2 y3, LeO (cambiumref02_Rune.j3 k y0 y1 y2 y3) (cambiumref02_Rune.j3 (k + 1) y0 y1 y2 y3)) ∧ (∀ y0 y1 y2 y3 y4, LeO (cambiumref02_Rune.l0 k y0 y1 y2 y3 y4) (cambiumref02_Rune.l0 (k + 1) y0 y1 y2 y3 y4)) ∧ (∀ y0 y1 y2 y3 y4 y5, LeO (cambiumref02_Rune.j1 k y0 y1 y2 y3 y4 y5) (cambiumref02_Rune.j1 (k + 1) y0 y1 y2 y3 y4 y5)) ∧ (∀ y0 y1 y2 y3 y4 y5, LeO (cambiumref02_Rune.j2 k y0 y1 y2 y3 y4 y5) (cambiumref02_Rune.j2 (k + 1) y0 y1 y2 y3 y4 y5))
 | 0 => ⟨fun _ _ _ _ _ _ r h => by simp [cambiumref02_Rune.j0] at h, fun _ _ _ _ r h => by simp [cambiumref02_Rune.j3] at h, fun _ _ _ _ _ r h => by simp [cambiumref02_Rune.l0] at h, fun _ _ _ _ _ _ r h => by simp [cambiumref02_Rune.j1] at h, fun _ _ _ _ _ _ r h => by simp [cambiumref02_Rune.j2] at h⟩
 | k + 1 => by
  obtain ⟨ih0, ih1, ih2, ih3, ih4⟩ := cambiumref02_Rune.mono_l k
  refine ⟨?_, ?_, ?_, ?_, ?_⟩
  ·intro y0 y1 y2 y3 y4 y5
   unfold cambiumref02_Rune.j0
   repeat' first
   | (with_reducible exact ih0 _ _ _ _ _ _)
   | (with_reducible exact ih1 _ _ _ _)
   | (with_reducible exact ih2 _ _ _ _ _)
   | (with_reducible exact ih3 _ _ _ _ _ _)
   | (with_reducible exact ih4 _ _ _ _ _ _)
   | (with_reducible exact LeO.refl _)
   | (with_reducible exact LeO.none _)
   | (with_reducible refine LeO.ite ?_ ?_)
   | (with_reducible refine LeO.bind ?_ (fun _ => ?_))
   | exact ih0 _ _ _ _ _ _
   | exact ih1 _ _ _ _
   | exact ih2 _ _ _ _ _
   | exact ih3 _ _ _ _ _ _
   | exact ih4 _ _ _ _ _ _
   | exact LeO.none _
   | refine LeO.ite ?_ ?_
   | refine LeO.bind ?_ (fun _ => ?_)
  ·intro y0 y1 y2 y3
   unfold cambiumref02_Rune.j3
   repeat' first
   | (with_reducible exact ih0 _ _ _ _ _ _)
   | (with_reducible exact ih1 _ _ _ _)
   | (with_reducible exact ih2 _ _ _ _ _)
   | (with_reducible exact ih3 _ _ _ _ _ _)
   | (with_reducible exact ih4 _ _ _ _ _ _)
   | (with_reducible exact LeO.refl _)
   | (with_reducible exact LeO.none _)
   | (with_reducible refine LeO.ite ?_ ?_)
   | (with_reducible refine LeO.bind ?_ (fun _ => ?_))
   | exact ih0 _ _ _ _ _ _
   | exact ih1 _ _ _ _
   | exact ih2 _ _ _ _ _
   | exact ih3 _ _ _ _ _ _
   | exact ih4 _ _ _ _ _ _
   | exact LeO.none _
   | refine LeO.ite ?_ ?_
   | refine LeO.bind ?_ (fun _ => ?_)
  ·intro y0 y1 y2 y3 y4
   unfold cambiumref02_Rune.l0
   repeat' first
   | (with_reducible exact ih0 _ _ _ _ _ _)
   | (with_reducible exact ih1 _ _ _ _)
   | (with_reducible exact ih2 _ _ _ _ _)
   | (with_reducible exact ih3 _ _ _ _ _ _)
   | (with_reducible exact ih4 _ _ _ _ _ _)
   | (with_reducible exact LeO.refl _)
   | (with_reducible exact LeO.none _)
   | (with_reducible refine LeO.ite ?_ ?_)
   | (with_reducible refine LeO.bind ?_ (fun _ => ?_))
   | exact ih0 _ _ _ _ _ _
   | exact ih1 _ _ _ _
   | exact ih2 _ _ _ _ _
   | exact ih3 _ _ _ _ _ _
   | exact ih4 _ _ _ _ _ _
   | exact LeO.none _
   | refine LeO.ite ?_ ?_
   | refine LeO.bind ?_ (fun _ => ?_)
  ·intro y0 y1 y2 y3 y4 y5
   unfold cambiumref02_Rune.j1
   repeat' first
   | (with_reducible exact ih0 _ _ _ _ _ _)
   | (with_reducible exact ih1 _ _ _ _)
   | (with_reducible exact ih2 _ _ _ _ _)
   | (with_reducible exact ih3 _ _ _ _ _ _)
   | (with_reducible exact ih4 _ _ _ _ _ _)
   | (with_reducible exact LeO.refl _)
   | (with_reducible exact LeO.none _)
   | (with_reducible refine LeO.ite ?_ ?_)
   | (with_reducible refine LeO.bind ?_ (fun _ => ?_))
   | exact ih0 _ _ _ _ _ _
   | exact ih1 _ _ _ _
   | exact ih2 _ _ _ _ _
   | exact ih3 _ _ _ _ _ _
   | exact ih4 _ _ _ _ _ _
   | exact LeO.none _
   | refine LeO.ite ?_ ?_
   | refine LeO.bind ?_ (fun _ => ?_)
  ·intro y0 y1 y2 y3 y4 y5
   unfold cambiumref02_Rune.j2
   repeat' first
   | (with_reducible exact ih0 _ _ _ _ _ _)
   | (with_reducible exact ih1 _ _ _ _)
   | (with_reducible exact ih2 _ _ _ _ _)
   | (with_reducible exact ih3 _ _ _ _ _ _)
   | (with_reducible exact ih4 _ _ _ _ _ _)
   | (with_reducible exact LeO.refl _)
   | (with_reducible exact LeO.none _)
   | (with_reducible refine LeO.ite ?_ ?_)
   | (with_reducible refine LeO.bind ?_ (fun _ => ?_))
   | exact ih0 _ _ _ _ _ _
   | exact ih1 _ _ _ _
   | exact ih2 _ _ _ _ _
   | exact ih3 _ _ _ _ _ _
   | exact ih4 _ _ _ _ _ _
   | exact LeO.none _
   | refine LeO.ite ?_ ?_
   | refine LeO.bind ?_ (fun _ => ?_)
theorem cambiumref02_Rune.mono : ∀ a0 k, LeO (cambiumref02_Rune.f k a0) (cambiumref02_Rune.f (k + 1) a0) := by
 intro a0 k
 obtain ⟨ih0, ih1, ih2, ih3, ih4⟩ := cambiumref02_Rune.mono_l k
 unfold cambiumref02_Rune.f
 repeat' first
   | (with_reducible exact ih0 _ _ _ _ _ _)
   | (with_reducible exact ih1 _ _ _ _)
   | (with_reducible exact ih2 _ _ _ _ _)
   | (with_reducible exact ih3 _ _ _ _ _ _)
   | (with_reducible exact ih4 _ _ _ _ _ _)
   | (with_reducible exact LeO.refl _)
   | (with_reducible exact LeO.none _)
   | (with_reducible refine LeO.ite ?_ ?_)
   | (with_reducible refine LeO.bind ?_ (fun _ => ?_))
   | exact ih0 _ _ _ _ _ _
   | exact ih1 _ _ _ _
   | exact ih2 _ _ _ _ _
   | exact ih3 _ _ _ _ _ _
   | exact ih4 _ _ _ _ _ _
   | exact LeO.none _
   | refine LeO.ite ?_ ?_
   | refine LeO.bind ?_ (fun _ => ?_)
set_option maxHeartbeats 8000000 in
set_option maxRecDepth 100000 in
theorem cambiumref02_Rune.calls (k : Nat) (a0 : ByteArray) (r1 : Int) (r2 : Int) (w : World) (h : cambiumref02_Rune.f k a0 = some (r1, r2)) :
  Calls Tryd.prog 84 #[.string a0] w fun e w' => e = .returned (.tuple #[.int .i64 r1, .int .i64 r2]) ∧ Drawn0 w w' := by
 have H : (if 0 < (a0.size : Int) then (if (wrap64 (bt a0 0)) ≥ 194 then (cambiumref02_Rune.j0 k a0 (wrap64 (bt a0 0)) 1 (wrap64 (bt a0 0)) 0 (decide ((wrap64 (bt a0 0)) < 224))) else (cambiumref02_Rune.j0 k a0 (wrap64 (bt a0 0)) 1 (wrap64 (bt a0 0)) 0 false)) else (none)) = some (r1, r2) := h
 clear h
 by_cases c2 : 0 < (a0.size : Int)
 rotate_left
 ·rw [if_neg c2] at H
  exact absurd H (by simp)

 rw [if_pos c2] at H
 have c2b0 : decide (0 < (a0.size : Int)) = true := decide_eq_true c2
 have c2b1 : decide (0 < a0.size) = true := decide_eq_true (by omega)
 clear c2
 have HC4 := Aside0.mk H
 clear H
 have p3 : 0 ≤ (0 : Int) := (by omega)
 have q3 : 0 < a0.size := (by have : (0 : Int) < (a0.size : Int) := of_decide_eq_true q12y2; omega)
 have hx3 : ∀ h : 0 < a0.size, ((a0[0]'h).toNat : Int) = bt a0 0 := bt_at a0 0
 clear p3
 have qi3 : (0 < (a0.size : Int)) = True := eq_true (of_decide_eq_true q12y2)
 replace q3 := eq_true q3
 go_enter Tryd.func84, Tryd.ntmps84
 go_upto_region 5 with (fail)
 go_cut [18] (fun v18 wc => ∃ (kq : Nat) (x18_3 : Bool), v18 = .bool x18_3 ∧ Aside0 (cambiumref02_Rune.j0 kq a0 (wrap64 (bt a0 0)) 1 (wrap64 (bt a0 0)) 0 x18_3 = some (r1, r2)) ∧ Aside0 (kq ≤ k) ∧ Drawn0 w wc)
 case first =>
  have H := HC4.out
  clear HC4
  by_cases c5 : (wrap64 (bt a0 0)) ≥ 194
  ·rw [if_pos c5] at H
   have c5b0 : decide (194 ≤ (wrap64 (bt a0 0))) = true := decide_eq_true c5
   clear c5
   (first | rw [c5b0] | (simp only [i64_w, i32_w]; rw [c5b0]) | skip)
   have H' := Aside0.mk H
   clear H
   go_wp2
   go_meet
   case rel => exact ⟨_, (decide ((wrap64 (bt a0 0)) < 224)), q12y0, H', ⟨by first | omega | exact Nat.le_refl _⟩, by repeat (first | exact Drawn0.refl _ | apply Drawn0.step)⟩
  rw [if_neg c5] at H
  have c5b0 : decide (194 ≤ (wrap64 (bt a0 0))) = false := decide_eq_false c5
  clear c5
  (first | rw [c5b0] | (simp only [i64_w, i32_w]; rw [c5b0]) | skip)
  have H' := Aside0.mk H
  clear H
  go_wp2
  go_meet
  case rel => exact ⟨_, (false), q12y0, H', ⟨by first | omega | exact Nat.le_refl _⟩, by repeat (first | exact Drawn0.refl _ | apply Drawn0.step)⟩
 case rest =>
  clear HC4
  try clear c2
  try clear c2b0
  try clear c2b1
  try clear p2
  try clear p3
  try clear q3
  try clear hx3
  try clear qi3
  try clear c5
  try clear c5b0
  try clear p3
  try clear q3
  obtain ⟨kq, x18_3, rfl, HA, HJ3, ⟨mc3, rfl⟩⟩ := hcut
  cases kq with
  | zero => exact absurd HA.out (by simp [cambiumref02_Rune.j0])
  | succ kj3 =>
   have H := HA.out
   clear HA
   simp only [cambiumref02_Rune.j0] at H
   have HC6 := Aside0.mk H
   clear H
   go_upto_if 18 with (fail)
   go_cut [5, 6, 7] (fun v5 v6 v7 wc => ∃ (kq : Nat) (x5_5 : Int) (x6_5 : Int) (x7_5 : Int), v5 = .int .i64 x5_5 ∧ v6 = .int .i64 x6_5 ∧ v7 = .int .i64 x7_5 ∧ Aside0 (cambiumref02_Rune.j3 kq a0 x5_5 x6_5 x7_5 = some (r1, r2)) ∧ Aside0 (kq ≤ kj3) ∧ Drawn0 w wc)
   case first =>
    have H := HC6.out
    clear HC6
    by_cases c7 : x18_3 = true
    ·subst c7
     have H1 : (cambiumref02_Rune.j3 kj3 a0 2 (Int.tmod (wrap64 (bt a0 0)) 32) 128) = some (r1, r2) := by rw [if_pos rfl] at H; exact H
     clear H
     have H := H1
     clear H1
     have H' := Aside0.mk H
     clear H
     go_wp2
     go_meet
     case rel => exact ⟨_, (2), (Int.tmod (wrap64 (bt a0 0)) 32), (128), q12y0, q12y0, q12y0, H', ⟨by have := HJ3.out; first | omega | exact Nat.le_refl _⟩, by repeat (first | exact Drawn0.refl _ | apply Drawn0.step)⟩
    replace c7 := Bool.eq_false_iff.mpr c7
    subst c7
    have H1 : (if (wrap64 (bt a0 0)) ≥ 224 then (cambiumref02_Rune.j1 kj3 a0 (wrap64 (bt a0 0)) 1 (wrap64 (bt a0 0)) 0 (decide ((wrap64 (bt a0 0)) < 240))) else (cambiumref02_Rune.j1 kj3 a0 (wrap64 (bt a0 0)) 1 (wrap64 (bt a0 0)) 0 false)) = some (r1, r2) := by rw [if_neg (show ¬ (false = true) by decide)] at H; exact H
    clear H
    have H := H1
    clear H1
    have HC8 := Aside0.mk H
    clear H
    go_upto_region 9 with (fail)
    go_cut [26] (fun v26 wc => ∃ (kq : Nat) (x26_7 : Bool), v26 = .bool x26_7 ∧ Aside0 (cambiumref02_Rune.j1 kq a0 (wrap64 (bt a0 0)) 1 (wrap64 (bt a0 0)) 0 x26_7 = some (r1, r2)) ∧ Aside0 (kq ≤ kj3) ∧ Drawn0 w wc)
    case first =>
     have H := HC8.out
     clear HC8
     by_cases c9 : (wrap64 (bt a0 0)) ≥ 224
     ·rw [if_pos c9] at H
      have c9b0 : decide (224 ≤ (wrap64 (bt a0 0))) = true := decide_eq_true c9
      clear c9
      (first | rw [c9b0] | (simp only [i64_w, i32_w]; rw [c9b0]) | skip)
      have H' := Aside0.mk H
      clear H
      go_wp2
      go_meet
      case rel => exact ⟨_, (decide ((wrap64 (bt a0 0)) < 240)), q12y0, H', ⟨by have := HJ3.out; first | omega | exact Nat.le_refl _⟩, by repeat (first | exact Drawn0.refl _ | apply Drawn0.step)⟩
     rw [if_neg c9] at H
     have c9b0 : decide (224 ≤ (wrap64 (bt a0 0))) = false := decide_eq_false c9
     clear c9
     (first | rw [c9b0] | (simp only [i64_w, i32_w]; rw [c9b0]) | skip)
     have H' := Aside0.mk H
     clear H
     go_wp2
     go_meet
     case rel => exact ⟨_, (false), q12y0, H', ⟨by have := HJ3.out; first | omega | exact Nat.le_refl _⟩, by repeat (first | exact Drawn0.refl _ | apply Drawn0.step)⟩
    case rest =>
     clear HC8
     try clear c2
     try clear c2b0
     try clear c2b1
     try clear p2
     try clear c3
     try clear p3
     try clear q3
     try clear hx3
     try clear qi3
     try clear c5
     try clear c5b0
     try clear p6
     try clear c7
     try clear c8
     try clear c9
     try clear c9b0
     try clear p2
     try clear p3
     try clear q3
     obtain ⟨kq, x26_7, rfl, HA, HJ7, ⟨mc7, rfl⟩⟩ := hcut
     cases kq with
     | zero => exact absurd HA.out (by simp [cambiumref02_Rune.j1])
     | succ kj7 =>
      have H := HA.out
      clear HA
      simp only [cambiumref02_Rune.j1] at H
      by_cases c10 : x26_7 = true
      ·subst c10
       have H1 : (cambiumref02_Rune.j3 kj7 a0 3 (Int.tmod (wrap64 (bt a0 0)) 16) 2048) = some (r1, r2) := by rw [if_pos rfl] at H; exact H
       clear H
       have H := H1
       clear H1
       have H' := Aside0.mk H
       clear H
       go_wp2
       go_meet
       case rel => exact ⟨_, (3), (Int.tmod (wrap64 (bt a0 0)) 16), (2048), q12y0, q12y0, q12y0, H', ⟨by have := HJ3.out; have := HJ7.out; first | omega | exact Nat.le_refl _⟩, by repeat (first | exact Drawn0.refl _ | apply Drawn0.step)⟩
      replace c10 := Bool.eq_false_iff.mpr c10
      subst c10
      have H1 : (if (wrap64 (bt a0 0)) ≥ 240 then (cambiumref02_Rune.j2 kj7 a0 (wrap64 (bt a0 0)) 1 (wrap64 (bt a0 0)) 0 (decide ((wrap64 (bt a0 0)) < 245))) else (cambiumref02_Rune.j2 kj7 a0 (wrap64 (bt a0 0)) 1 (wrap64 (bt a0 0)) 0 false)) = some (r1, r2) := by rw [if_neg (show ¬ (false = true) by decide)] at H; exact H
      clear H
      have H := H1
      clear H1
      have HC11 := Aside0.mk H
      clear H
      go_upto_region 13 with (fail)
      go_cut [34] (fun v34 wc => ∃ (kq : Nat) (x34_10 : Bool), v34 = .bool x34_10 ∧ Aside0 (cambiumref02_Rune.j2 kq a0 (wrap64 (bt a0 0)) 1 (wrap64 (bt a0 0)) 0 x34_10 = some (r1, r2)) ∧ Aside0 (kq ≤ kj7) ∧ Drawn0 w wc)
      case first =>
       have H := HC11.out
       clear HC11
       by_cases c12 : (wrap64 (bt a0 0)) ≥ 240
       ·rw [if_pos c12] at H
        have c12b0 : decide (240 ≤ (wrap64 (bt a0 0))) = true := decide_eq_true c12
        clear c12
        (first | rw [c12b0] | (simp only [i64_w, i32_w]; rw [c12b0]) | skip)
        have H' := Aside0.mk H
        clear H
        go_wp2
        go_meet
        case rel => exact ⟨_, (decide ((wrap64 (bt a0 0)) < 245)), q12y0, H', ⟨by have := HJ3.out; have := HJ7.out; first | omega | exact Nat.le_refl _⟩, by repeat (first | exact Drawn0.refl _ | apply Drawn0.step)⟩
       rw [if_neg c12] at H
       have c12b0 : decide (240 ≤ (wrap64 (bt a0 0))) = false := decide_eq_false c12
       clear c12
       (first | rw [c12b0] | (simp only [i64_w, i32_w]; rw [c12b0]) | skip)
       have H' := Aside0.mk H
       clear H
       go_wp2
       go_meet
       case rel => exact ⟨_, (false), q12y0, H', ⟨by have := HJ3.out; have := HJ7.out; first | omega | exact Nat.le_refl _⟩, by repeat (first | exact Drawn0.refl _ | apply Drawn0.step)⟩
      case rest =>
       clear HC11
       try clear c1
       try clear c2
       try clear c2b0
       try clear c2b1
       try clear p2
       try clear c3
       try clear p3
       try clear q3
       try clear hx3
       try clear qi3
       try clear c5
       try clear c5b0
       try clear p6
       try clear c7
       try clear c8
       try clear c9
       try clear c9b0
       try clear c10
       try clear c12
       try clear c12b0
       try clear p2
       try clear p3
       try clear p6
       try clear q3
       obtain ⟨kq, x34_10, rfl, HA, HJ10, ⟨mc10, rfl⟩⟩ := hcut
       cases kq with
       | zero => exact absurd HA.out (by simp [cambiumref02_Rune.j2])
       | succ kj10 =>
        have H := HA.out
        clear HA
        simp only [cambiumref02_Rune.j2] at H
        by_cases c13 : x34_10 = true
        ·subst c13
         have H1 : (cambiumref02_Rune.j3 kj10 a0 4 (Int.tmod (wrap64 (bt a0 0)) 8) 65536) = some (r1, r2) := by rw [if_pos rfl] at H; exact H
         clear H
         have H := H1
         clear H1
         have H' := Aside0.mk H
         clear H
         go_wp2
         go_meet
         case rel => exact ⟨_, (4), (Int.tmod (wrap64 (bt a0 0)) 8), (65536), q12y0, q12y0, q12y0, H', ⟨by have := HJ3.out; have := HJ7.out; have := HJ10.out; first | omega | exact Nat.le_refl _⟩, by repeat (first | exact Drawn0.refl _ | apply Drawn0.step)⟩
        replace c13 := Bool.eq_false_iff.mpr c13
        subst c13
        have H1 : (if (wrap64 (bt a0 0)) ≥ 128 then (some (65533, 1)) else (cambiumref02_Rune.j3 kj10 a0 1 (wrap64 (bt a0 0)) 0)) = some (r1, r2) := by rw [if_neg (show ¬ (false = true) by decide)] at H; exact H
        clear H
        have H := H1
        clear H1
        by_cases c14 : (wrap64 (bt a0 0)) ≥ 128
        ·rw [if_pos c14] at H
         have c14b0 : decide (128 ≤ (wrap64 (bt a0 0))) = true := decide_eq_true c14
         clear c14
         simp only [Option.some.injEq, Prod.mk.injEq] at H
         obtain ⟨rfl, rfl⟩ := H
         go_wp2
         go_ret2
         exact ⟨by first | rfl | (simp; done) | (simp [*]; done), by repeat (first | exact Drawn0.refl _ | apply Drawn0.step)⟩
        rw [if_neg c14] at H
        have c14b0 : decide (128 ≤ (wrap64 (bt a0 0))) = false := decide_eq_false c14
        clear c14
        have H' := Aside0.mk H
        clear H
        go_wp2
        go_meet
        case rel => exact ⟨_, (1), ((wrap64 (bt a0 0))), (0), q12y0, q12y0, q12y0, H', ⟨by have := HJ3.out; have := HJ7.out; have := HJ10.out; first | omega | exact Nat.le_refl _⟩, by repeat (first | exact Drawn0.refl _ | apply Drawn0.step)⟩
   case rest =>
    clear HC6
    try clear c1
    try clear c2
    try clear c2b0
    try clear c2b1
    try clear p2
    try clear c3
    try clear p3
    try clear q3
    try clear hx3
    try clear qi3
    try clear c5
    try clear c5b0
    try clear p6
    try clear c7
    try clear c8
    try clear c9
    try clear c9b0
    try clear c10
    try clear c12
    try clear c12b0
    try clear c13
    try clear c14
    try clear c14b0
    try clear p2
    try clear p3
    try clear p6
    try clear q3
    obtain ⟨kq, x5_5, x6_5, x7_5, rfl, rfl, rfl, HA, HJ5, ⟨mc5, rfl⟩⟩ := hcut
    cases kq with
    | zero => exact absurd HA.out (by simp [cambiumref02_Rune.j3])
    | succ kj5 =>
     have H := HA.out
     clear HA
     simp only [cambiumref02_Rune.j3] at H
     by_cases c15 : x5_5 > (a0.size : Int)
     ·rw [if_pos c15] at H
      have c15b0 : decide ((a0.size : Int) < x5_5) = true := decide_eq_true c15
      clear c15
      simp only [Option.some.injEq, Prod.mk.injEq] at H
      obtain ⟨rfl, rfl⟩ := H
      go_wp2
      go_ret2
      exact ⟨by first | rfl | (simp; done) | (simp [*]; done), by repeat (first | exact Drawn0.refl _ | apply Drawn0.step)⟩
     rw [if_neg c15] at H
     have c15b0 : decide ((a0.size : Int) < x5_5) = false := decide_eq_false c15
     clear c15
     have H' := Aside0.mk H
     clear H
     go_wp2
     go_loopg [6, 8] kj5 (fun kq v6 v8 w' => ∃ (x6_3 : Int) (x8_3 : Int), v6 = .int .i64 x6_3 ∧ v8 = .int .i64 x8_3 ∧ Aside0 (cambiumref02_Rune.l0 kq a0 x5_5 x6_3 x7_5 x8_3 = some (r1, r2)) ∧ Aside0 (kq ≤ kj5) ∧ Drawn0 w w')
     case atStart => exact ⟨(x6_5), (1), q12y0, q12y0, H', ⟨Nat.le_refl _⟩, by repeat (first | exact Drawn0.refl _ | apply Drawn0.step)⟩
     case round =>
      clear H'
      try clear c1
      try clear c2
      try clear c2b0
      try clear c2b1
      try clear p2
      try clear c3
      try clear p3
      try clear q3
      try clear hx3
      try clear qi3
      try clear c5
      try clear c5b0
      try clear p6
      try clear c7
      try clear c8
      try clear c9
      try clear c9b0
      try clear c10
      try clear c12
      try clear c12b0
      try clear c13
      try clear c14
      try clear c14b0
      try clear c15
      try clear c15b0
      try clear p2
      try clear p3
      try clear p6
      try clear q3
      obtain ⟨x6_3, x8_3, rfl, rfl, HA, HK3, ⟨m3, rfl⟩⟩ := hrel
      cases gk with
      | zero => exact absurd HA.out (by simp [cambiumref02_Rune.l0])
      | succ k3 =>
       have H := HA.out
       clear HA
       simp only [cambiumref02_Rune.l0] at H
       by_cases c16 : x8_3 < x5_5
       ·rw [if_pos c16] at H
        have c16b0 : decide (x8_3 < x5_5) = true := decide_eq_true c16
        clear c16
        by_cases c17 : 0 ≤ x8_3
        rotate_left
        ·rw [if_neg c17] at H
         exact absurd H (by simp)
        rw [if_pos c17] at H
        have c17b0 : decide (0 ≤ x8_3) = true := decide_eq_true c17
        clear c17
        by_cases c18 : x8_3 < (a0.size : Int)
        rotate_left
        ·rw [if_neg c18] at H
         exact absurd H (by simp)
        rw [if_pos c18] at H
        have c18b0 : decide (x8_3 < (a0.size : Int)) = true := decide_eq_true c18
        clear c18
        by_cases c20 : ((Int.tdiv (bt a0 x8_3) 64) % 256) = 2
        rotate_left
        ·rw [if_neg c20] at H
         have c20b0 : (((Int.tdiv (bt a0 x8_3) 64) % 256) == 2) = false := beq_eq_false_iff_ne.mpr c20
         have c20b1 : (((Int.tdiv (bt a0 x8_3) 64) % 256) != 2) = true := bne_iff_ne.mpr c20
         simp only [Option.some.injEq, Prod.mk.injEq] at H
         obtain ⟨rfl, rfl⟩ := H
         have p19 : 0 ≤ (x8_3 : Int) := of_decide_eq_true q12y2
         have q19 : x8_3 < (a0.size : Int) := of_decide_eq_true q12y2
         have hx19 := bt_at a0 x8_3
         replace p19 := eq_true p19
         replace q19 := eq_true q19
         go_wp2
         go_ret2
         exact ⟨by first | rfl | (simp; done) | (simp [*]; done), by repeat (first | exact Drawn0.refl _ | apply Drawn0.step)⟩
        rw [if_pos c20] at H
        have c20b0 : (((Int.tdiv (bt a0 x8_3) 64) % 256) == 2) = true := beq_iff_eq.mpr c20
        have c20b1 : (((Int.tdiv (bt a0 x8_3) 64) % 256) != 2) = false := bne_eq_false_iff_eq.mpr c20
        clear c20
        have H' := Aside0.mk H
        clear H
        have p19 : 0 ≤ (x8_3 : Int) := of_decide_eq_true q12y2
        have q19 : x8_3 < (a0.size : Int) := of_decide_eq_true q12y2
        have hx19 := bt_at a0 x8_3
        replace p19 := eq_true p19
        replace q19 := eq_true q19
        have p21 : 0 ≤ (x8_3 : Int) := of_decide_eq_true q12y2
        have q21 : x8_3 < (a0.size : Int) := of_decide_eq_true q12y2
        have hx21 := bt_at a0 x8_3
        replace p21 := eq_true p21
        replace q21 := eq_true q21
        go_wp2
        go_roundg k3
        case measure => have := HJ3.out; have := HJ5.out; have := HK3.out; omega
        case rel => exact ⟨(wrap64 ((wrap64 (x6_3 * 64)) + (Int.tmod (wrap64 (bt a0 x8_3)) 64))), (wrap64 (x8_3 + 1)), q12y0, q12y0, H', ⟨by have := HJ3.out; have := HJ5.out; have := HK3.out; omega⟩, by repeat (first | exact Drawn0.refl _ | apply Drawn0.step)⟩
       rw [if_neg c16] at H
       have c16b0 : decide (x8_3 < x5_5) = false := decide_eq_false c16
       clear c16
       by_cases c22 : x6_3 < x7_5
       ·rw [if_pos c22] at H
        have c22b0 : decide (x6_3 < x7_5) = true := decide_eq_true c22
        clear c22
        simp only [Option.some.injEq, Prod.mk.injEq] at H
        obtain ⟨rfl, rfl⟩ := H
        go_wp2
        go_ret2
        exact ⟨by first | rfl | (simp; done) | (simp [*]; done), by repeat (first | exact Drawn0.refl _ | apply Drawn0.step)⟩
       rw [if_neg c22] at H
       have c22b0 : decide (x6_3 < x7_5) = false := decide_eq_false c22
       clear c22
       by_cases c23 : x6_3 > 1114111
       ·rw [if_pos c23] at H
        have c23b0 : decide (1114111 < x6_3) = true := decide_eq_true c23
        clear c23
        simp only [Option.some.injEq, Prod.mk.injEq] at H
        obtain ⟨rfl, rfl⟩ := H
        go_wp2
        go_ret2
        exact ⟨by first | rfl | (simp; done) | (simp [*]; done), by repeat (first | exact Drawn0.refl _ | apply Drawn0.step)⟩
       rw [if_neg c23] at H
       have c23b0 : decide (1114111 < x6_3) = false := decide_eq_false c23
       clear c23
       by_cases c24 : x6_3 ≥ 55296
       rotate_left
       ·rw [if_neg c24] at H
        have c24b0 : decide (55296 ≤ x6_3) = false := decide_eq_false c24
        clear c24
        simp only [Option.some.injEq, Prod.mk.injEq] at H
        obtain ⟨rfl, rfl⟩ := H
        go_wp2
        go_ret2
        exact ⟨by first | rfl | (simp; done) | (simp [*]; done), by repeat (first | exact Drawn0.refl _ | apply Drawn0.step)⟩
       rw [if_pos c24] at H
       have c24b0 : decide (55296 ≤ x6_3) = true := decide_eq_true c24
       clear c24
       by_cases c25 : x6_3 < 57344
       ·rw [if_pos c25] at H
        have c25b0 : decide (x6_3 < 57344) = true := decide_eq_true c25
        clear c25
        simp only [Option.some.injEq, Prod.mk.injEq] at H
        obtain ⟨rfl, rfl⟩ := H
        go_wp2
        go_ret2
        exact ⟨by first | rfl | (simp; done) | (simp [*]; done), by repeat (first | exact Drawn0.refl _ | apply Drawn0.step)⟩
       rw [if_neg c25] at H
       have c25b0 : decide (x6_3 < 57344) = false := decide_eq_false c25
       clear c25
       simp only [Option.some.injEq, Prod.mk.injEq] at H
       obtain ⟨rfl, rfl⟩ := H
       go_wp2
       go_ret2
       exact ⟨by first | rfl | (simp; done) | (simp [*]; done), by repeat (first | exact Drawn0.refl _ | apply Drawn0.step)⟩
/-! ### cambiumref02_Runes: function 77 -/
def cambiumref02_Runes.l0 : Nat → ByteArray → List Int → List Int → Int → Option (List Int × List Int)
 | 0, _, _, _, _ => none
 | k + 1, x0, x4, x5, x6 => if x6 < (x0.size : Int) then (if 0 ≤ x6 then (if x6 ≤ (x0.size : Int) then ((cambiumref02_Rune.f k (x0.extract (x6 : Int).toNat x0.size)).bind fun bt183 => (if x4.length < 17592186044416 then (if x5.length < 17592186044416 then (cambiumref02_Runes.l0 k x0 (x4 ++ [bt183.1]) (x5 ++ [x6]) (wrap64 (x6 + bt183.2))) else (none)) else (none))) else (none)) else (none)) else (some (x4, x5))
def cambiumref02_Runes.f (k : Nat) (a0 : ByteArray) : Option (List Int × List Int) := cambiumref02_Runes.l0 k a0 ([] : List Int) ([] : List Int) 0
theorem cambiumref02_Runes.mono_l : ∀ k, (∀ y0 y1 y2 y3, LeO (cambiumref02_Runes.l0 k y0 y1 y2 y3) (cambiumref02_Runes.l0 (k + 1) y0 y1 y2 y3))
 | 0 => fun _ _ _ _ r h => by simp [cambiumref02_Runes.l0] at h
 | k + 1 => by
  have ih0 := cambiumref02_Runes.mono_l k
  ·intro y0 y1 y2 y3
   unfold cambiumref02_Runes.l0
   repeat' first
   | (with_reducible exact ih0 _ _ _ _)
   | (with_reducible exact cambiumref02_Rune.mono _ _)
   | (with_reducible exact LeO.refl _)
   | (with_reducible exact LeO.none _)
   | (with_reducible refine LeO.ite ?_ ?_)
   | (with_reducible refine LeO.bind ?_ (fun _ => ?_))
   | exact ih0 _ _ _ _
   | exact cambiumref02_Rune.mono _ _
   | exact LeO.none _
   | refine LeO.ite ?_ ?_
   | refine LeO.bind ?_ (fun _ => ?_)
theorem cambiumref02_Runes.mono : ∀ a0 k, LeO (cambiumref02_Runes.f k a0) (cambiumref02_Runes.f (k + 1) a0) := by
 intro a0 k
 have ih0 := cambiumref02_Runes.mono_l k
 unfold cambiumref02_Runes.f
 repeat' first
   | (with_reducible exact ih0 _ _ _ _)
   | (with_reducible exact cambiumref02_Rune.mono _ _)
   | (with_reducible exact LeO.refl _)
   | (with_reducible exact LeO.none _)
   | (with_reducible refine LeO.ite ?_ ?_)
   | (with_reducible refine LeO.bind ?_ (fun _ => ?_))
   | exact ih0 _ _ _ _
   | exact cambiumref02_Rune.mono _ _
   | exact LeO.none _
   | refine LeO.ite ?_ ?_
   | refine LeO.bind ?_ (fun _ => ?_)
set_option maxHeartbeats 8000000 in
set_option maxRecDepth 100000 in
theorem cambiumref02_Runes.calls (k : Nat) (a0 : ByteArray) (r1 : List Int) (r2 : List Int) (w : World) (h : cambiumref02_Runes.f k a0 = some (r1, r2)) :
  Calls Tryd.prog 77 #[.string a0] w fun e w' => ∃ v0_ v1_ : Value, e = .returned (.tuple #[v0_, v1_]) ∧ Kd.R (Kd.int .i64) 3 w' w.heap.size (fun k_ => some k_ ≠ (v1_ : Value).ownBlock) v0_ r1 ∧ Kd.R (Kd.int .i64) 3 w' w.heap.size (fun k_ => some k_ ≠ (v0_ : Value).ownBlock) v1_ r2 ∧ Below w.heap.size w w' := by
 have HB := Aside0.mk (Below.refl w.heap.size w)
 have H : (cambiumref02_Runes.l0 k a0 ([] : List Int) ([] : List Int) 0) = some (r1, r2) := h
 clear h
 have H' := Aside0.mk H
 clear H
 go_enter Tryd.func77, Tryd.ntmps77
 go_wp2
 go_loopg [4, 5, 6] k (fun kq v4 v5 v6 w' => ∃ (x4_1 : List Int) (x5_1 : List Int) (x6_1 : Int), v6 = .int .i64 x6_1 ∧ Aside0 (cambiumref02_Runes.l0 kq a0 x4_1 x5_1 x6_1 = some (r1, r2)) ∧ Aside0 (kq ≤ k) ∧ Aside0 (Kd.R (Kd.int .i64) 3 w' w.heap.size (fun k_ => some k_ ≠ (v5 : Value).ownBlock) v4 x4_1) ∧ Aside0 (Kd.R (Kd.int .i64) 3 w' w.heap.size (fun k_ => some k_ ≠ (v4 : Value).ownBlock) v5 x5_1) ∧ Aside0 (Below w.heap.size w w'))
 case atStart => exact ⟨(([] : List Int)), (([] : List Int)), (0), q12y0, H', ⟨Nat.le_refl _⟩, ⟨by first | exact Kd.R_nil _ _ _ _ _ | exact Kd.N_nil _ _ _ _ _ | exact Kd.V_nil _ _ _ _ _ | exact Kd.Q_nil _ _ _ _ _ | exact Kd.S_nil _ _ _ _ _⟩, ⟨by first | exact Kd.R_nil _ _ _ _ _ | exact Kd.N_nil _ _ _ _ _ | exact Kd.V_nil _ _ _ _ _ | exact Kd.Q_nil _ _ _ _ _ | exact Kd.S_nil _ _ _ _ _⟩, ⟨by repeat (first | (with_reducible first | exact HB.out | apply below_alloc | apply pw_below_drewN | apply below_drew1) | exact HB.out)⟩⟩
 case round =>
  clear H'
  obtain ⟨x4_1, x5_1, x6_1, rfl, HA, HK1, HO_4, HO_5, HB⟩ := hrel
  cases gk with
  | zero => exact absurd HA.out (by simp [cambiumref02_Runes.l0])
  | succ k1 =>
   have H := HA.out
   clear HA
   simp only [cambiumref02_Runes.l0] at H
   by_cases c2 : x6_1 < (a0.size : Int)
   rotate_left
   ·rw [if_neg c2] at H
    have c2b0 : decide (x6_1 < (a0.size : Int)) = false := decide_eq_false c2
    clear c2
    simp only [Option.some.injEq, Prod.mk.injEq] at H
    obtain ⟨rfl, rfl⟩ := H
    go_wp2
    go_ret2
    exact ⟨_, _, by first | rfl | (simp [errW_none, errW_some] <;> rfl) | (simp [*, errW_none, errW_some] <;> rfl), by (with_reducible repeat (first | apply Kd.R_alloc | apply Kd.R_drewN | apply Kd.R_drew)); exact HO_4.out, by (with_reducible repeat (first | apply Kd.R_alloc | apply Kd.R_drewN | apply Kd.R_drew)); exact HO_5.out, by repeat (first | (with_reducible first | exact HB.out | apply below_alloc | apply pw_below_drewN | apply below_drew1) | exact HB.out)⟩

   rw [if_pos c2] at H
   have c2b0 : decide (x6_1 < (a0.size : Int)) = true := decide_eq_true c2
   clear c2
   by_cases c3 : 0 ≤ x6_1
   rotate_left
   ·rw [if_neg c3] at H
    exact absurd H (by simp)
   rw [if_pos c3] at H
   have c3b0 := eq_true c3
   have c3b1 : decide (0 ≤ x6_1) = true := decide_eq_true c3
   clear c3
   by_cases c4 : x6_1 ≤ (a0.size : Int)
   rotate_left
   ·rw [if_neg c4] at H
    exact absurd H (by simp)
   rw [if_pos c4] at H
   have c4b0 := eq_true c4
   have c4b1 : decide (x6_1 ≤ (a0.size : Int)) = true := decide_eq_true c4
   clear c4
   replace H := Option.bind_eq_some_iff.mp H
   obtain ⟨⟨t183, t184⟩, A50, H⟩ := H
   replace H : (if x4_1.length < 17592186044416 then (if x5_1.length < 17592186044416 then (cambiumref02_Runes.l0 k1 a0 (x4_1 ++ [t183]) (x5_1 ++ [x6_1]) (wrap64 (x6_1 + t184))) else (none)) else (none)) = some (r1, r2) := H
   have A5 := Aside0.mk A50
   clear A50
   by_cases c6 : x4_1.length < 17592186044416
   rotate_left
   ·rw [if_neg c6] at H
    exact absurd H (by simp)
   rw [if_pos c6] at H
   have LMc6 := Aside0.mk c6
   clear c6
   obtain ⟨y185, hy185⟩ : ∃ y_ : List Int, y_ = (x4_1 ++ [t183]) := ⟨_, rfl⟩
   replace H : (if x5_1.length < 17592186044416 then (cambiumref02_Runes.l0 k1 a0 y185 (x5_1 ++ [x6_1]) (wrap64 (x6_1 + t184))) else (none)) = some (r1, r2) := by first | (rw [hy185]; with_reducible exact H) | (have H2_ := (Option.bind_some _ _).symm.trans H; rw [hy185]; with_reducible exact H2_) | (have H2_ := (Option.bind_some _ _).symm.trans H; with_reducible exact H2_) | with_reducible exact H | (rw [hy185]; exact H) | exact H
   have Ny185 := Aside0.mk hy185
   clear hy185
   by_cases c7 : x5_1.length < 17592186044416
   rotate_left
   ·rw [if_neg c7] at H
    exact absurd H (by simp)
   rw [if_pos c7] at H
   have LMc7 := Aside0.mk c7
   clear c7
   obtain ⟨y188, hy188⟩ : ∃ y_ : List Int, y_ = (x5_1 ++ [x6_1]) := ⟨_, rfl⟩
   replace H : (cambiumref02_Runes.l0 k1 a0 y185 y188 (wrap64 (x6_1 + t184))) = some (r1, r2) := by first | (rw [hy188]; with_reducible exact H) | (have H2_ := (Option.bind_some _ _).symm.trans H; rw [hy188]; with_reducible exact H2_) | (have H2_ := (Option.bind_some _ _).symm.trans H; with_reducible exact H2_) | with_reducible exact H | (rw [hy188]; exact H) | exact H
   have Ny188 := Aside0.mk hy188
   clear hy188
   have H' := Aside0.mk H
   clear H
   go_wp2_with (first | ((with_reducible refine gate_callee (f := 84) rfl ?_); refine goesL_ (some 17) rfl rfl Tryd.func84 (by kernel_rfl) rfl #[.string (a0.extract (x6_1 : Int).toNat a0.size)] rfl (by (try simp only [List.map_toArray, List.map_cons, List.map_nil]); first | done | rfl | (simp only [List.length_drop, List.length_take]; rfl)) ?_; (with_reducible refine (cambiumref02_Rune.calls k1 (a0.extract (x6_1 : Int).toNat a0.size) t183 t184 _ A5.out).mono ?_); rintro e w' ⟨rfl, ⟨nd, rfl⟩⟩; refine ⟨_, rfl, ?_⟩) | ((with_reducible refine gate_builtin (b := .append) (xs := #[.tmp 20, .tmp 22]) rfl ?_); at_builtin; refine Kd.R_append (Kd.int .i64) (w0 := w) w.heap.size rfl (.tmp 20) (.tmp 22) 110 3 (.int .i64 0) 8 rfl Tryd.underlying110 info3 rfl (by decide) (by omega) u4 x4_1 t183 [.int .i64 t183] (fun k_ => some k_ ≠ (u5 : Value).ownBlock) (fun _ => False) rfl rfl ?aP (fun _ hk => hk.elim) ?aF ?aO ?aB ?aS ?aL ?_; (case aP => exact rfl); (case aB => exact q12y1); (case aF => exact (fun k_ hk => Kd.fresh' (Kd.R_lt (by (with_reducible repeat (first | apply Kd.R_alloc | apply Kd.R_drewN | apply Kd.R_drew)); exact HO_5.out)) k_ hk)); (case aO => exact (by (with_reducible repeat (first | apply Kd.R_alloc | apply Kd.R_drewN | apply Kd.R_drew)); exact HO_4.out)); (case aS => exact (below_size q12y1)); (case aL => have := LMc6.out; omega); intro v186 w8 ho hb hg hat; rw [← Ny185.out] at ho; have HO187 := Aside0.mk (ho); replace HO_5 := Aside0.mk (Kd.R_after (ok := (fun _ => True)) (by (with_reducible repeat (first | apply Kd.R_alloc | apply Kd.R_drewN | apply Kd.R_drew)); exact Kd.R_mono HO_5.out (fun _ hk => ⟨trivial, hk⟩)) hg hat); replace HB := Aside0.mk (hb); clear ho hb hg hat) | ((with_reducible refine gate_builtin (b := .append) (xs := #[.tmp 24, .tmp 26]) rfl ?_); at_builtin; refine Kd.R_append (Kd.int .i64) (w0 := w) w.heap.size rfl (.tmp 24) (.tmp 26) 110 3 (.int .i64 0) 8 rfl Tryd.underlying110 info3 rfl (by decide) (by omega) u5 x5_1 x6_1 [.int .i64 x6_1] (fun k_ => some k_ ≠ (v186 : Value).ownBlock) (fun _ => False) rfl rfl ?aP (fun _ hk => hk.elim) ?aF ?aO ?aB ?aS ?aL ?_; (case aP => exact rfl); (case aB => exact q12y1); (case aF => exact (fun k_ hk => Kd.fresh' (Kd.R_lt (by (with_reducible repeat (first | apply Kd.R_alloc | apply Kd.R_drewN | apply Kd.R_drew)); exact HO187.out)) k_ hk)); (case aO => exact (by (with_reducible repeat (first | apply Kd.R_alloc | apply Kd.R_drewN | apply Kd.R_drew)); exact Kd.R_mono HO_5.out (fun _ hk => hk.2))); (case aS => exact (below_size q12y1)); (case aL => have := LMc7.out; omega); intro v189 w9 ho hb hg hat; rw [← Ny188.out] at ho; have HO190 := Aside0.mk (ho); replace HO187 := Aside0.mk (Kd.R_after (ok := (fun _ => True)) (by (with_reducible repeat (first | apply Kd.R_alloc | apply Kd.R_drewN | apply Kd.R_drew)); exact Kd.R_mono HO187.out (fun _ hk => ⟨trivial, hk⟩)) hg hat); replace HB := Aside0.mk (hb); clear ho hb hg hat))
   go_roundg k1
   case measure => have := HK1.out; omega
   case rel => exact ⟨(y185), (y188), (wrap64 (x6_1 + t184)), q12y0, H', ⟨by have := HK1.out; omega⟩, ⟨by (with_reducible repeat (first | apply Kd.R_alloc | apply Kd.R_drewN | apply Kd.R_drew)); exact Kd.R_mono HO187.out (fun _ hk => hk.2)⟩, ⟨by (with_reducible repeat (first | apply Kd.R_alloc | apply Kd.R_drewN | apply Kd.R_drew)); exact HO190.out⟩, ⟨by repeat (first | (with_reducible first | exact HB.out | apply below_alloc | apply pw_below_drewN | apply below_drew1) | exact HB.out)⟩⟩
end Go.Proofs.YtkgpnfjmahjlcaaDoor.PAll
