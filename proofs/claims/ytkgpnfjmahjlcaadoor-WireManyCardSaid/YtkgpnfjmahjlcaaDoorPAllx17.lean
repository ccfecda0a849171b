-- Written by a program: the kit's print.py, driven for several laws at once. Not trusted: Lean checks it.
import Derived.Test.YtkgpnfjmahjlcaaDoorPAllx0
import Derived.Test.YtkgpnfjmahjlcaaDoorPAllx11
import Derived.Test.YtkgpnfjmahjlcaaDoorPAllx16
namespace Go.Proofs.YtkgpnfjmahjlcaaDoor.PAll
open Go.RowKit Go.Proofs.YtkgpnfjmahjlcaaDoorW.PrintWords Go.Proofs.YtkgpnfjmahjlcaaDoorW.PrintLast Go.Proofs.YtkgpnfjmahjlcaaDoorW.PrintMore
attribute [local go_sem] max2_int min2_int max_two min_two max_three min_three max_four min_four   -- for this text's walks alone
set_option linter.unusedVariables false
set_option linter.unusedSimpArgs false

/-! ### cambiumref01_Get: function 67 -/
def q17m (n m : Nat) : Array Bool := ((List.range n).map (Nat.testBit m)).toArray
theorem q17a {α : Type} (xs : List α) (i : Nat) (x : α) : xs.toArray.setIfInBounds i x = (xs.set i x).toArray := List.setIfInBounds_toArray ..
theorem q17b {α : Type} (x y : α) (xs : List α) : (x :: xs).set 0 y = y :: xs := List.set_cons_zero ..
theorem q17c {α : Type} (x y : α) (xs : List α) (n : Nat) : (x :: xs).set (n + 1) y = x :: xs.set n y := List.set_cons_succ ..
theorem q17h {w w' : World} {p : Addr} {v : Value} (h : Below w.heap.size w w') (x : w.cell? p = some v) : w'.cell? p = some v := (h.cell (World.block_lt_of_cell? w _ x)).trans x
theorem q17p {P : Program} {md : Region.Mode} {ops : Array Oper} {Q : Exit → Act → World → Prop} {S : World → Prop} {ds : List Nat} {T : Bool × List (List Nat × List Nat)} {i : Nat} {N : Option Tmp} {oi : Oper} {v : Value} {fuel : Nat} {l : Array Bool} {a : Act} {w : World} (l' : Array Bool) (hT : rtab md ops = T) {a' : Act}
    (h : wpAnyLast P md ops Q S ds fuel l' a' w) (hi : ops[i]? = some oi := by rfl) (hN : oi.dst = N := by rfl) (hc : anyT T l.toList l'.toList i = true := by kernel_rfl) (hQ : ∀ c a w, Q (.panic c) (a.put oi.dst v) w → Q (.panic c) a w := by exact fun _ _ _ h => h)
    (hw : Region.wanted oi (yielded ops a.tmps) = true := by rfl) (hy : ∀ w', (execOp a.eval oi).run P w' = .ok (.value v) w' := by intro w'; go_simp; with_reducible rfl) (ha : a.put N v = a' := by simp only [Act.put, q17a, q17b, q17c, i64_w, i32_w]; rfl) :
    wpAnyLast P md ops Q S ds (fuel + 1) l a w := pure_ l' hi hN (any_of hT hc) hQ (Or.inl ⟨hw, hy⟩) ha h
theorem q17u {P : Program} {md : Region.Mode} {ops : Array Oper} {Q : Exit → Act → World → Prop} {S : World → Prop} {ds : List Nat} {T : Bool × List (List Nat × List Nat)} {i : Nat} {N : Option Tmp} {oi : Oper} {fuel : Nat} {l : Array Bool} {a : Act} {w : World} (l' : Array Bool) (hT : rtab md ops = T) {a' : Act}
    (h : wpAnyLast P md ops Q S ds fuel l' a' w) (hi : ops[i]? = some oi := by rfl) (hN : oi.dst = N := by rfl) (hc : anyT T l.toList l'.toList i = true := by kernel_rfl) (hQ : ∀ c a w, Q (.panic c) (a.put oi.dst undef) w → Q (.panic c) a w := by exact fun _ _ _ h => h)
    (hw : Region.wanted oi (yielded ops a.tmps) = false := by rfl) (ha : a.put N undef = a' := by simp only [Act.put, q17a, q17b, q17c, i64_w, i32_w]; rfl) :
    wpAnyLast P md ops Q S ds (fuel + 1) l a w := pure_ l' hi hN (any_of hT hc) hQ (Or.inr ⟨hw, rfl⟩) ha h
theorem q17k {w : World} {g : Nat} {cs : Array Value} {t : TypeId} (h : w.heap[g]? = some (.cells cs t (0, 0))) (i : Nat) {v : Value} (e : cs[i]? = some v := by rfl) : w.cell? ⟨g, i, none⟩ = some v := (blk_cell h i).trans e
theorem q17y0 {P : Prop} (h : P := by repeat (first | (with_reducible first | exact HB.out | apply below_alloc | apply pw_below_drewN | apply below_drew1) | exact HB.out)) : P := h
theorem q17y1 {P : Prop} (h : P := by first | (with_reducible assumption) | assumption) : P := h
theorem q17y2 {P : Prop} (h : P := by first | rfl | (simp; done) | (simp [*]; done)) : P := h
theorem q17y3 {P : Prop} (h : P := by (try simp only [List.map_toArray, List.map_cons, List.map_nil]); first | done | rfl | (simp only [List.length_drop, List.length_take]; rfl)) : P := h

mutual
def cambiumref01_Get.j1 : Nat → List Int → Int → Option (Int × Int)
 | 0, _, _ => none
 | k + 1, x0, x4 => if x4 ≥ (x0.length : Int) then (cambiumref01_Get.j2 k x0 x4 true) else (cambiumref01_Get.j2 k x0 x4 (decide (x4 ≥ 10)))
def cambiumref01_Get.j2 : Nat → List Int → Int → Bool → Option (Int × Int)
 | 0, _, _, _ => none
 | k + 1, x0, x4, x31 => if x31 = true then (some (0, 0)) else (cambiumref01_Get.l1 k x0 x4 0 x4)
def cambiumref01_Get.l1 : Nat → List Int → Int → Int → Int → Option (Int × Int)
 | 0, _, _, _, _ => none
 | k + 1, x0, x4, x5, x6 => if x6 ≥ 0 then (if 0 ≤ x6 then (if x6 < (x0.length : Int) then (cambiumref01_Get.l1 k x0 x4 (IntKind.u64.wrap ((IntKind.u64.wrap (x5 * 128)) + (IntKind.u64.wrap (Int.tmod (rd x0 x6) 128)))) (wrap64 (x6 - 1))) else (none)) else (none)) else ((cambiumref01_Put.f k x5).bind fun t409 => (if 0 ≤ (wrap64 (x4 + 1)) then (if (wrap64 (x4 + 1)) ≤ (x0.length : Int) then ((cambiumref01_Same.f k t409 (x0.take ((wrap64 (x4 + 1)) : Int).toNat)).bind fun t413 => (if t413 = true then (some (x5, wrap64 (x4 + 1))) else (some (0, 0)))) else (none)) else (none)))
def cambiumref01_Get.l0 : Nat → List Int → Int → Option (Int × Int)
 | 0, _, _ => none
 | k + 1, x0, x4 => if x4 < (x0.length : Int) then (if x4 < 10 then (if 0 ≤ x4 then (if (rd x0 x4) ≥ 128 then (cambiumref01_Get.l0 k x0 (wrap64 (x4 + 1))) else (cambiumref01_Get.j1 k x0 x4)) else (none)) else (cambiumref01_Get.j1 k x0 x4)) else (cambiumref01_Get.j1 k x0 x4)
end
def cambiumref01_Get.f (k : Nat) (l0 : List Int) : Option (Int × Int) := cambiumref01_Get.l0 k l0 0
theorem cambiumref01_Get.mono_l : ∀ k, (∀ y0 y1, LeO (cambiumref01_Get.j1 k y0 y1) (cambiumref01_Get.j1 (k + 1) y0 y1)) ∧ (∀ y0 y1 y2, LeO (cambiumref01_Get.j2 k y0 y1 y2) (cambiumref01_Get.j2 (k + 1) y0 y1 y2)) ∧ (∀ y0 y1 y2 y3, LeO (cambiumref01_Get.l1 k y0 y1 y2 y3) (cambiumref01_Get.l1 (k + 1) y0 y1 y2 y3)) ∧ (∀ y0 y1, LeO (cambiumref01_Get.l0 k y0 y1) (cambiumref01_Get.l0 (k + 1) y0 y1))
 | 0 => ⟨fun _ _ r h => by simp [cambiumref01_Get.j1] at h, fun _ _ _ r h => by simp [cambiumref01_Get.j2] at h, fun _ _ _ _ r h => by simp [cambiumref01_Get.l1] at h, fun _ _ r h => by simp [cambiumref01_Get.l0] at h⟩
 | k + 1 => by
  obtain ⟨ih0, ih1, ih2, ih3⟩ := cambiumref01_Get.mono_l k
  refine ⟨?_, ?_, ?_, ?_⟩
  ·intro y0 y1
   unfold cambiumref01_Get.j1
   repeat' first
   | (with_reducible exact ih0 _ _)
   | (with_reducible exact ih1 _ _ _)
   | (with_reducible exact ih2 _ _ _ _)
   | (with_reducible exact ih3 _ _)
   | (with_reducible exact cambiumref01_Put.mono _ _)
   | (with_reducible exact cambiumref01_Same.mono _ _ _)
   | (with_reducible exact LeO.refl _)
   | (with_reducible exact LeO.none _)
   | (with_reducible refine LeO.ite ?_ ?_)
   | (with_reducible refine LeO.bind ?_ (fun _ => ?_))
   | exact ih0 _ _
   | exact ih1 _ _ _
   | exact ih2 _ _ _ _
   | exact ih3 _ _
   | exact cambiumref01_Put.mono _ _
   | exact cambiumref01_Same.mono _ _ _
   | exact LeO.none _
   | refine LeO.ite ?_ ?_
   | refine LeO.bind ?_ (fun _ => ?_)
  ·intro y0 y1 y2
   unfold cambiumref01_Get.j2
   repeat' first
   | (with_reducible exact ih0 _ _)
   | (with_reducible exact ih1 _ _ _)
   | (with_reducible exact ih2 _ _ _ _)
   | (with_reducible exact ih3 _ _)
   | (with_reducible exact cambiumref01_Put.mono _ _)
   | (with_reducible exact cambiumref01_Same.mono _ _ _)
   | (with_reducible exact LeO.refl _)
   | (with_reducible exact LeO.none _)
   | (with_reducible refine LeO.ite ?_ ?_)
   | (with_reducible refine LeO.bind ?_ (fun _ => ?_))
   | exact ih0 _ _
   | exact ih1 _ _ _
   | exact ih2 _ _ _ _
   | exact ih3 _ _
   | exact cambiumref01_Put.mono _ _
   | exact cambiumref01_Same.mono _ _ _
   | exact LeO.none _
   | refine LeO.ite ?_ ?_
   | refine LeO.bind ?_ (fun _ => ?_)
  ·intro y0 y1 y2 y3
   unfold cambiumref01_Get.l1
   repeat' first
   | (with_reducible exact ih0 _ _)
   | (with_reducible exact ih1 _ _ _)
   | (with_reducible exact ih2 _ _ _ _)
   | (with_reducible exact ih3 _ _)
   | (with_reducible exact cambiumref01_Put.mono _ _)
   | (with_reducible exact cambiumref01_Same.mono _ _ _)
   | (with_reducible exact LeO.refl _)
   | (with_reducible exact LeO.none _)
   | (with_reducible refine LeO.ite ?_ ?_)
   | (with_reducible refine LeO.bind ?_ (fun _ => ?_))
   | exact ih0 _ _
   | exact ih1 _ _ _
   | exact ih2 _ _ _ _
   | exact ih3 _ _
   | exact cambiumref01_Put.mono _ _
   | exact cambiumref01_Same.mono _ _ _
   | exact LeO.none _
   | refine LeO.ite ?_ ?_
   | refine LeO.bind ?_ (fun _ => ?_)
  ·intro y0 y1
   unfold cambiumref01_Get.l0
   repeat' first
   | (with_reducible exact ih0 _ _)
   | (with_reducible exact ih1 _ _ _)
   | (with_reducible exact ih2 _ _ _ _)
   | (with_reducible exact ih3 _ _)
   | (with_reducible exact cambiumref01_Put.mono _ _)
   | (with_reducible exact cambiumref01_Same.mono _ _ _)
   | (with_reducible exact LeO.refl _)
   | (with_reducible exact LeO.none _)
   | (with_reducible refine LeO.ite ?_ ?_)
   | (with_reducible refine LeO.bind ?_ (fun _ => ?_))
   | exact ih0 _ _
   | exact ih1 _ _ _
   | exact ih2 _ _ _ _
   | exact ih3 _ _
   | exact cambiumref01_Put.mono _ _
   | exact cambiumref01_Same.mono _ _ _
   | exact LeO.none _
   | refine LeO.ite ?_ ?_
   | refine LeO.bind ?_ (fun _ => ?_)
theorem cambiumref01_Get.mono : ∀ a0 k, LeO (cambiumref01_Get.f k a0) (cambiumref01_Get.f (k + 1) a0) := by
 intro a0 k
 obtain ⟨ih0, ih1, ih2, ih3⟩ := cambiumref01_Get.mono_l k
 unfold cambiumref01_Get.f
 repeat' first
   | (with_reducible exact ih0 _ _)
   | (with_reducible exact ih1 _ _ _)
   | (with_reducible exact ih2 _ _ _ _)
   | (with_reducible exact ih3 _ _)
   | (with_reducible exact cambiumref01_Put.mono _ _)
   | (with_reducible exact cambiumref01_Same.mono _ _ _)
   | (with_reducible exact LeO.refl _)
   | (with_reducible exact LeO.none _)
   | (with_reducible refine LeO.ite ?_ ?_)
   | (with_reducible refine LeO.bind ?_ (fun _ => ?_))
   | exact ih0 _ _
   | exact ih1 _ _ _
   | exact ih2 _ _ _ _
   | exact ih3 _ _
   | exact cambiumref01_Put.mono _ _
   | exact cambiumref01_Same.mono _ _ _
   | exact LeO.none _
   | refine LeO.ite ?_ ?_
   | refine LeO.bind ?_ (fun _ => ?_)
def cambiumref01_Get.T11 : Bool × List (List Nat × List Nat) := (true, [([], []), ([0], [0]), ([], []), ([], []), ([3], [3]), ([2, 4], [2, 4]), ([1, 5, 1], [1, 5]), ([6], [6])])
def cambiumref01_Get.B11 : List Nat := [0, 1, 0, 0, 8, 28, 63, 127]
theorem cambiumref01_Get.tab11 : rtab .any (opsOf Tryd.f67 11) = cambiumref01_Get.T11 := by kernel_rfl
theorem cambiumref01_Get.bits11 : waitsOk cambiumref01_Get.T11.2 cambiumref01_Get.B11 = true := by kernel_rfl
set_option maxHeartbeats 8000000 in
set_option maxRecDepth 100000 in
theorem cambiumref01_Get.calls (k : Nat) (A0 : Option Addr) (c0 : Nat) (l0 : List Int) (r1 : Int) (r2 : Int) (w : World) (hr0 : Kd.C (Kd.int .u8) w A0 l0.length l0) (hc0 : l0.length ≤ c0) (h : cambiumref01_Get.f k l0 = some (r1, r2)) :
  Calls Tryd.prog 67 #[.slice A0 l0.length c0] w fun e w' => e = .returned (.tuple #[.int .u64 r1, .int .i64 r2]) ∧ Below w.heap.size w w' := by
 have HR0 := Aside0.mk hr0
 have HC0 := Aside0.mk hc0
 clear hr0 hc0
 have HB := Aside0.mk (Below.refl w.heap.size w)
 have H : (cambiumref01_Get.l0 k l0 0) = some (r1, r2) := h
 clear h
 have HC2 := Aside0.mk H
 clear H
 go_enter Tryd.func67, Tryd.ntmps67
 go_upto_block 0 with (fail)
 go_cut [4] (fun v4 wc => ∃ (kq : Nat) (x4_1 : Int), v4 = .int .i64 x4_1 ∧ Aside0 (cambiumref01_Get.j1 kq l0 x4_1 = some (r1, r2)) ∧ Aside0 (kq ≤ k) ∧ Aside0 (Below w.heap.size w wc))
 case first =>
  have H := HC2.out
  clear HC2
  have H' := Aside0.mk H
  clear H
  go_wp2
  go_loopg [4] k (fun kq v4 w' => ∃ (x4_1 : Int), v4 = .int .i64 x4_1 ∧ Aside0 (cambiumref01_Get.l0 kq l0 x4_1 = some (r1, r2)) ∧ Aside0 (kq ≤ k) ∧ Aside0 (Below w.heap.size w w'))
  case atStart => exact ⟨(0), q17y2, H', ⟨Nat.le_refl _⟩, ⟨by repeat (first | (with_reducible first | exact HB.out | apply below_alloc | apply pw_below_drewN | apply below_drew1) | exact HB.out)⟩⟩
  case round =>
   clear H'
   try clear p2
   obtain ⟨x4_1, rfl, HA, HK1, HB⟩ := hrel
   cases gk with
   | zero => exact absurd HA.out (by simp [cambiumref01_Get.l0])
   | succ k1 =>
    have H := HA.out
    clear HA
    simp only [cambiumref01_Get.l0] at H
    by_cases c3 : x4_1 < (l0.length : Int)
    rotate_left
    ·rw [if_neg c3] at H
     have c3b0 : decide (x4_1 < (l0.length : Int)) = false := decide_eq_false c3
     clear c3
     (first | rw [c3b0] | (simp only [i64_w, i32_w]; rw [c3b0]) | skip)
     have H' := Aside0.mk H
     clear H
     go_wp2
     go_meet
     case rel => exact ⟨_, (x4_1), q17y2, H', ⟨by have := HK1.out; first | omega | exact Nat.le_refl _⟩, ⟨by repeat (first | (with_reducible first | exact HB.out | apply below_alloc | apply pw_below_drewN | apply below_drew1) | exact HB.out)⟩⟩
    rw [if_pos c3] at H
    have c3b0 : decide (x4_1 < (l0.length : Int)) = true := decide_eq_true c3
    clear c3
    (first | rw [c3b0] | (simp only [i64_w, i32_w]; rw [c3b0]) | skip)
    by_cases c4 : x4_1 < 10
    rotate_left
    ·rw [if_neg c4] at H
     have c4b0 : decide (x4_1 < 10) = false := decide_eq_false c4
     clear c4
     have H' := Aside0.mk H
     clear H
     go_wp2
     go_meet
     case rel => exact ⟨_, (x4_1), q17y2, H', ⟨by have := HK1.out; first | omega | exact Nat.le_refl _⟩, ⟨by repeat (first | (with_reducible first | exact HB.out | apply below_alloc | apply pw_below_drewN | apply below_drew1) | exact HB.out)⟩⟩
    rw [if_pos c4] at H
    have c4b0 : decide (x4_1 < 10) = true := decide_eq_true c4
    clear c4
    by_cases c5 : 0 ≤ x4_1
    rotate_left
    ·rw [if_neg c5] at H
     exact absurd H (by simp)
    rw [if_pos c5] at H
    have c5b0 : decide (0 ≤ x4_1) = true := decide_eq_true c5
    clear c5
    by_cases c6 : (rd l0 x4_1) ≥ 128
    rotate_left
    ·rw [if_neg c6] at H
     have c6b0 : decide (128 ≤ (rd l0 x4_1)) = false := decide_eq_false c6
     clear c6
     have H' := Aside0.mk H
     clear H
     have p407 : 0 ≤ (x4_1 : Int) := of_decide_eq_true q17y1
     have q407 : x4_1 < (l0.length : Int) := of_decide_eq_true q17y1
     obtain ⟨ad407, e407, hx407_0⟩ := Kd.at_int HR0.out x4_1 p407 q407
     cases e407
     replace hx407_0 := (HB.out.cell (World.block_lt_of_cell? w _ hx407_0)).trans hx407_0
     replace p407 := eq_true p407
     replace q407 := eq_true q407
     go_wp2
     go_meet
     case rel => exact ⟨_, (x4_1), q17y2, H', ⟨by have := HK1.out; first | omega | exact Nat.le_refl _⟩, ⟨by repeat (first | (with_reducible first | exact HB.out | apply below_alloc | apply pw_below_drewN | apply below_drew1) | exact HB.out)⟩⟩
    rw [if_pos c6] at H
    have c6b0 : decide (128 ≤ (rd l0 x4_1)) = true := decide_eq_true c6
    clear c6
    have H' := Aside0.mk H
    clear H
    have p407 : 0 ≤ (x4_1 : Int) := of_decide_eq_true q17y1
    have q407 : x4_1 < (l0.length : Int) := of_decide_eq_true q17y1
    obtain ⟨ad407, e407, hx407_0⟩ := Kd.at_int HR0.out x4_1 p407 q407
    cases e407
    replace hx407_0 := (HB.out.cell (World.block_lt_of_cell? w _ hx407_0)).trans hx407_0
    replace p407 := eq_true p407
    replace q407 := eq_true q407
    go_wp2
    go_roundg k1
    case measure => have := HK1.out; omega
    case rel => exact ⟨(wrap64 (x4_1 + 1)), q17y2, H', ⟨by have := HK1.out; omega⟩, ⟨by repeat (first | (with_reducible first | exact HB.out | apply below_alloc | apply pw_below_drewN | apply below_drew1) | exact HB.out)⟩⟩
 case rest =>
  clear HC2
  try clear p2
  try clear c3
  try clear c3b0
  try clear c4
  try clear c4b0
  try clear p4
  try clear q4
  try clear hx4
  try clear c5
  try clear c5b0
  try clear c6
  try clear c6b0
  try clear p6
  try clear hx407_0
  try clear p2
  try clear p407
  try clear q407
  obtain ⟨kq, x4_1, rfl, HA, HJ1, HB⟩ := hcut
  cases kq with
  | zero => exact absurd HA.out (by simp [cambiumref01_Get.j1])
  | succ kj1 =>
   have H := HA.out
   clear HA
   simp only [cambiumref01_Get.j1] at H
   have HC7 := Aside0.mk H
   clear H
   go_upto_region 4 with (fail)
   go_cut [31] (fun v31 wc => ∃ (kq : Nat) (x31_6 : Bool), v31 = .bool x31_6 ∧ Aside0 (cambiumref01_Get.j2 kq l0 x4_1 x31_6 = some (r1, r2)) ∧ Aside0 (kq ≤ kj1) ∧ Aside0 (Below w.heap.size w wc))
   case first =>
    have H := HC7.out
    clear HC7
    by_cases c8 : x4_1 ≥ (l0.length : Int)
    ·rw [if_pos c8] at H
     have c8b0 : decide ((l0.length : Int) ≤ x4_1) = true := decide_eq_true c8
     clear c8
     (first | rw [c8b0] | (simp only [i64_w, i32_w]; rw [c8b0]) | skip)
     have H' := Aside0.mk H
     clear H
     go_wp2
     go_meet
     case rel => exact ⟨_, (true), q17y2, H', ⟨by have := HJ1.out; first | omega | exact Nat.le_refl _⟩, ⟨by repeat (first | (with_reducible first | exact HB.out | apply below_alloc | apply pw_below_drewN | apply below_drew1) | exact HB.out)⟩⟩
    rw [if_neg c8] at H
    have c8b0 : decide ((l0.length : Int) ≤ x4_1) = false := decide_eq_false c8
    clear c8
    (first | rw [c8b0] | (simp only [i64_w, i32_w]; rw [c8b0]) | skip)
    have H' := Aside0.mk H
    clear H
    go_wp2
    go_meet
    case rel => exact ⟨_, (decide (x4_1 ≥ 10)), q17y2, H', ⟨by have := HJ1.out; first | omega | exact Nat.le_refl _⟩, ⟨by repeat (first | (with_reducible first | exact HB.out | apply below_alloc | apply pw_below_drewN | apply below_drew1) | exact HB.out)⟩⟩
   case rest =>
    clear HC7
    try clear p2
    try clear c3
    try clear c3b0
    try clear c4
    try clear c4b0
    try clear p4
    try clear q4
    try clear hx4
    try clear c5
    try clear c5b0
    try clear c6
    try clear c6b0
    try clear p6
    try clear c8
    try clear c8b0
    try clear hx407_0
    try clear p2
    try clear p4
    try clear p407
    try clear p6
    try clear q4
    try clear q407
    obtain ⟨kq, x31_6, rfl, HA, HJ6, HB⟩ := hcut
    cases kq with
    | zero => exact absurd HA.out (by simp [cambiumref01_Get.j2])
    | succ kj6 =>
     have H := HA.out
     clear HA
     simp only [cambiumref01_Get.j2] at H
     by_cases c9 : x31_6 = true
     ·subst c9
      have H1 : (some (0, 0)) = some (r1, r2) := by rw [if_pos rfl] at H; exact H
      clear H
      have H := H1
      clear H1
      simp only [Option.some.injEq, Prod.mk.injEq] at H
      obtain ⟨rfl, rfl⟩ := H
      go_wp2
      go_ret2
      exact ⟨by first | rfl | (simp [errW_none, errW_some] <;> rfl) | (simp [*, errW_none, errW_some] <;> rfl), by repeat (first | (with_reducible first | exact HB.out | apply below_alloc | apply pw_below_drewN | apply below_drew1) | exact HB.out)⟩
     replace c9 := Bool.eq_false_iff.mpr c9
     subst c9
     have H1 : (cambiumref01_Get.l1 kj6 l0 x4_1 0 x4_1) = some (r1, r2) := by rw [if_neg (show ¬ (false = true) by decide)] at H; exact H
     clear H
     have H := H1
     clear H1
     have H' := Aside0.mk H
     clear H
     go_wp2
     go_loopg [5, 6] kj6 (fun kq v5 v6 w' => ∃ (x5_3 : Int) (x6_3 : Int), v5 = .int .u64 x5_3 ∧ v6 = .int .i64 x6_3 ∧ Aside0 (cambiumref01_Get.l1 kq l0 x4_1 x5_3 x6_3 = some (r1, r2)) ∧ Aside0 (kq ≤ kj6) ∧ Aside0 (Below w.heap.size w w'))
     case atStart => exact ⟨(0), (x4_1), q17y2, q17y2, H', ⟨Nat.le_refl _⟩, ⟨by repeat (first | (with_reducible first | exact HB.out | apply below_alloc | apply pw_below_drewN | apply below_drew1) | exact HB.out)⟩⟩
     case round =>
      clear H'
      try clear p2
      try clear c3
      try clear c3b0
      try clear c4
      try clear c4b0
      try clear p4
      try clear q4
      try clear hx4
      try clear c5
      try clear c5b0
      try clear c6
      try clear c6b0
      try clear p6
      try clear c8
      try clear c8b0
      try clear c9
      try clear hx407_0
      try clear p2
      try clear p4
      try clear p407
      try clear p6
      try clear q4
      try clear q407
      obtain ⟨x5_3, x6_3, rfl, rfl, HA, HK3, HB⟩ := hrel
      cases gk with
      | zero => exact absurd HA.out (by simp [cambiumref01_Get.l1])
      | succ k3 =>
       have H := HA.out
       clear HA
       simp only [cambiumref01_Get.l1] at H
       by_cases c10 : x6_3 ≥ 0
       ·rw [if_pos c10] at H
        have c10b0 : decide (0 ≤ x6_3) = true := decide_eq_true c10
        clear c10
        by_cases c11 : 0 ≤ x6_3
        rotate_left
        ·rw [if_neg c11] at H
         exact absurd H (by simp)
        rw [if_pos c11] at H
        have c11b0 : decide (0 ≤ x6_3) = true := decide_eq_true c11
        clear c11
        by_cases c12 : x6_3 < (l0.length : Int)
        rotate_left
        ·rw [if_neg c12] at H
         exact absurd H (by simp)
        rw [if_pos c12] at H
        have c12b0 : decide (x6_3 < (l0.length : Int)) = true := decide_eq_true c12
        clear c12
        have H' := Aside0.mk H
        clear H
        have p408 : 0 ≤ (x6_3 : Int) := of_decide_eq_true q17y1
        have q408 : x6_3 < (l0.length : Int) := of_decide_eq_true q17y1
        obtain ⟨ad408, e408, hx408_0⟩ := Kd.at_int HR0.out x6_3 p408 q408
        cases e408
        replace hx408_0 := (HB.out.cell (World.block_lt_of_cell? w _ hx408_0)).trans hx408_0
        replace p408 := eq_true p408
        replace q408 := eq_true q408
        go_wp2
        go_roundg k3
        case measure => have := HJ1.out; have := HJ6.out; have := HK3.out; omega
        case rel => exact ⟨(IntKind.u64.wrap ((IntKind.u64.wrap (x5_3 * 128)) + (IntKind.u64.wrap (Int.tmod (rd l0 x6_3) 128)))), (wrap64 (x6_3 - 1)), q17y2, q17y2, H', ⟨by have := HJ1.out; have := HJ6.out; have := HK3.out; omega⟩, ⟨by repeat (first | (with_reducible first | exact HB.out | apply below_alloc | apply pw_below_drewN | apply below_drew1) | exact HB.out)⟩⟩
       rw [if_neg c10] at H
       have c10b0 : decide (0 ≤ x6_3) = false := decide_eq_false c10
       clear c10
       replace H := Option.bind_eq_some_iff.mp H
       obtain ⟨t409, A130, H⟩ := H
       replace H : (if 0 ≤ (wrap64 (x4_1 + 1)) then (if (wrap64 (x4_1 + 1)) ≤ (l0.length : Int) then ((cambiumref01_Same.f k3 t409 (l0.take ((wrap64 (x4_1 + 1)) : Int).toNat)).bind fun t413 => (if t413 = true then (some (x5_3, wrap64 (x4_1 + 1))) else (some (0, 0)))) else (none)) else (none)) = some (r1, r2) := H
       have A13 := Aside0.mk A130
       clear A130
       obtain ⟨ji14, hji14⟩ : ∃ j_ : Int, (wrap64 (x4_1 + 1)) = j_ := ⟨_, rfl⟩
       replace H : (if 0 ≤ (ji14) then (if (ji14) ≤ (l0.length : Int) then ((cambiumref01_Same.f k3 t409 (l0.take ((ji14) : Int).toNat)).bind fun t413 => (if t413 = true then (some (x5_3, ji14)) else (some (0, 0)))) else (none)) else (none)) = some (r1, r2) := by first | (rw [hji14] at H; exact H) | (simp only [hji14] at H ⊢; exact H)
       (try rw [hji14] at A13)
       have hji14w : (IntKind.i64.wrap (x4_1 + 1)) = ji14 := (i64_w _).trans hji14
       by_cases c15 : 0 ≤ (ji14)
       rotate_left
       ·rw [if_neg c15] at H
        exact absurd H (by simp)

       rw [if_pos c15] at H
       have c15b0 := eq_true c15
       have c15b1 : decide (0 ≤ (ji14)) = true := decide_eq_true c15
       clear c15
       by_cases c16 : (ji14) ≤ (l0.length : Int)
       rotate_left
       ·rw [if_neg c16] at H
        exact absurd H (by simp)
       rw [if_pos c16] at H
       have c16b0 := eq_true c16
       have c16b1 : decide ((ji14) ≤ (l0.length : Int)) = true := decide_eq_true c16
       clear c16
       replace H := Option.bind_eq_some_iff.mp H
       obtain ⟨t413, A170, H⟩ := H
       replace H : (if t413 = true then (some (x5_3, ji14)) else (some (0, 0))) = some (r1, r2) := H
       have A17 := Aside0.mk A170
       clear A170
       by_cases c18 : t413 = true
       ·subst c18
        have H1 : (some (x5_3, ji14)) = some (r1, r2) := by rw [if_pos rfl] at H; exact H
        clear H
        have H := H1
        clear H1
        simp only [Option.some.injEq, Prod.mk.injEq] at H
        obtain ⟨rfl, rfl⟩ := H
        try go_wp2
        replace HB := Aside0.mk (below_drew1 HB.out)
        obtain ⟨i020, hi020, _, hsz20, _⟩ := info_parts info5
        obtain ⟨hcut20, hA20, hC20⟩ := print_take_of (P := Tryd.prog) (Value.int .u8) 0 30 5 .i64 Tryd.underlying30 hi020 hsz20 A0 c0 l0 (ji14) (of_decide_eq_true q17y1) (of_decide_eq_true q17y1) HC0.out
        have HR412 := Aside0.mk (Kd.C_of_reads (h1 := fun _ => rfl) (hA20 _ (Kd.reads_of_C HR0.out)))
        have HC412 := Aside0.mk hC20
        clear hA20 hC20 hi020 hsz20
        refine start_ (n := 8) (S := fun w' => True) (ds := []) #[false, false, false, false, false, false, false, false] (by kernel_rfl) rfl rfl trivial (fun hHeld => ?_); refine with_tabW cambiumref01_Get.tab11 cambiumref01_Get.bits11 (fun HT_ HW_ => ?_)
        generalize wr.drew = w19 at HB HR412 hHeld ⊢
        refine q17p (i := 0) (N := some 46) (q17m 8 1) HT_.out ?_
        refine q17p (i := 2) (N := some 48) (q17m 8 5) HT_.out ?_
        refine q17p (i := 3) (N := some 49) (q17m 8 13) HT_.out ?_
        refine q17p (i := 4) (N := some 50) (q17m 8 29) HT_.out ?_
        refine q17p (i := 5) (N := some 51) (q17m 8 61) HT_.out ?_
        refine one_ (i := 1) (N := some 47) (q17m 8 63) rfl rfl (one_of HT_.out (by kernel_rfl)) (by decide) (fun K hK => ?_)
        refine goes_ Tryd.func33 (by kernel_rfl) rfl #[.int .u64 x5_3] (by rfl) rfl rfl q17y3 ?_
        with_reducible refine (cambiumref01_Put.calls k3 x5_3 t409 _ A13.out).mono ?_
        rintro e w21 ⟨v410, rfl, ho0, hb⟩
        refine ⟨_, rfl, ?_⟩
        have HO411 := Aside0.mk (Kd.R_lower ho0 (below_size q17y0))
        replace HB := Aside0.mk (below_step q17y0 hb)
        (try clear hb)
        (try clear hb2)
        (try clear hk)
        (try clear hi)
        (try clear ho0)
        obtain ⟨Ao22, co22, eo22⟩ := Kd.R_slice HO411.out
        (first | subst eo22 | (injection eo22 with f1_ f2_ f3_; have f4_ := f1_.symm; have f5_ := f3_.symm; clear f1_ f2_ f3_; subst f4_; subst f5_))
        refine hK.out _ _ trivial (fun hHeld => ?_)
        clear hK K
        refine norm_ (a' := ?_) ?_ ?_
        rotate_left
        ·show Act.put _ (some 47) _ = _
         simp only [Act.put, q17a, q17b, q17c, i64_w, i32_w]
         rfl
        refine one_ (i := 6) (N := some 52) (q17m 8 127) rfl rfl (one_of HT_.out (by kernel_rfl)) (by decide) (fun K hK => ?_)
        refine goes_ Tryd.func11 (by kernel_rfl) rfl #[.slice Ao22 t409.length co22, .slice A0 (l0.take ((ji14) : Int).toNat).length c0] (by rfl) rfl rfl (by (try simp only [List.map_toArray, List.map_cons, List.map_nil]); first | done | (rw [show (l0.take ((ji14) : Int).toNat).length = (ji14).toNat from (by rw [List.length_take]; have h_ : ((ji14) : Int) ≤ (l0.length : Int) := of_decide_eq_true q17y1; omega)] <;> rfl) | (simp only [hji14]; rfl) | rfl | (simp only [List.length_drop, List.length_take]; rfl)) ?_
        with_reducible refine (cambiumref01_Same.calls k3 _ _ t409 _ _ (l0.take ((ji14) : Int).toNat) true _ ?side1 ?side2 ?side3 ?side4 A17.out).mono ?_
        (case side1 => repeat (first | exact (Kd.R_reads' HO411.out).2.2 | (with_reducible refine Kd.C_alloc ?_ _) | (with_reducible refine Kd.C_drewN ?_ _) | (with_reducible refine Kd.C_drew ?_)))
        (case side2 => exact (Kd.R_reads' HO411.out).2.1)
        (case side3 => repeat (first | exact (Kd.C_below HR412.out HB.out) | (with_reducible refine Kd.C_alloc ?_ _) | (with_reducible refine Kd.C_drewN ?_ _) | (with_reducible refine Kd.C_drew ?_)))
        (case side4 => exact HC412.out)
        rintro e w' ⟨rfl, ⟨nd, rfl⟩⟩
        refine ⟨_, rfl, ?_⟩
        refine hK.out _ _ trivial (fun hHeld => ?_)
        clear hK K
        refine norm_ (a' := ?_) ?_ ?_
        rotate_left
        ·show Act.put _ (some 52) _ = _
         simp only [Act.put, q17a, q17b, q17c, i64_w, i32_w]
         rfl
        refine q17p (i := 7) (N := some 53) (q17m 8 255) HT_.out ?_
        refine done_ (done_of HT_.out (by kernel_rfl)) ?_
        try go_wp2
        go_ret2
        exact ⟨by first | rfl | (simp [errW_none, errW_some] <;> rfl) | (simp only [← hji14]; first | rfl | (simp [errW_none, errW_some] <;> rfl)) | (simp [*, errW_none, errW_some] <;> rfl), by repeat (first | (with_reducible first | exact HB.out | apply below_alloc | apply pw_below_drewN | apply below_drew1) | exact HB.out)⟩
       replace c18 := Bool.eq_false_iff.mpr c18
       subst c18
       have H1 : (some (0, 0)) = some (r1, r2) := by rw [if_neg (show ¬ (false = true) by decide)] at H; exact H
       clear H
       have H := H1
       clear H1
       simp only [Option.some.injEq, Prod.mk.injEq] at H
       obtain ⟨rfl, rfl⟩ := H
       try go_wp2
       replace HB := Aside0.mk (below_drew1 HB.out)
       obtain ⟨i024, hi024, _, hsz24, _⟩ := info_parts info5
       obtain ⟨hcut24, hA24, hC24⟩ := print_take_of (P := Tryd.prog) (Value.int .u8) 0 30 5 .i64 Tryd.underlying30 hi024 hsz24 A0 c0 l0 (ji14) (of_decide_eq_true q17y1) (of_decide_eq_true q17y1) HC0.out
       have HR412 := Aside0.mk (Kd.C_of_reads (h1 := fun _ => rfl) (hA24 _ (Kd.reads_of_C HR0.out)))
       have HC412 := Aside0.mk hC24
       clear hA24 hC24 hi024 hsz24
       refine start_ (n := 8) (S := fun w' => True) (ds := []) #[false, false, false, false, false, false, false, false] (by kernel_rfl) rfl rfl trivial (fun hHeld => ?_); refine with_tabW cambiumref01_Get.tab11 cambiumref01_Get.bits11 (fun HT_ HW_ => ?_)
       generalize wr.drew = w23 at HB HR412 hHeld ⊢
       refine q17p (i := 0) (N := some 46) (q17m 8 1) HT_.out ?_
       refine q17p (i := 2) (N := some 48) (q17m 8 5) HT_.out ?_
       refine q17p (i := 3) (N := some 49) (q17m 8 13) HT_.out ?_
       refine q17p (i := 4) (N := some 50) (q17m 8 29) HT_.out ?_
       refine q17p (i := 5) (N := some 51) (q17m 8 61) HT_.out ?_
       refine one_ (i := 1) (N := some 47) (q17m 8 63) rfl rfl (one_of HT_.out (by kernel_rfl)) (by decide) (fun K hK => ?_)
       refine goes_ Tryd.func33 (by kernel_rfl) rfl #[.int .u64 x5_3] (by rfl) rfl rfl q17y3 ?_
       with_reducible refine (cambiumref01_Put.calls k3 x5_3 t409 _ A13.out).mono ?_
       rintro e w25 ⟨v410, rfl, ho0, hb⟩
       refine ⟨_, rfl, ?_⟩
       have HO411 := Aside0.mk (Kd.R_lower ho0 (below_size q17y0))
       replace HB := Aside0.mk (below_step q17y0 hb)
       (try clear hb)
       (try clear hb2)
       (try clear hk)
       (try clear hi)
       (try clear ho0)
       obtain ⟨Ao26, co26, eo26⟩ := Kd.R_slice HO411.out
       (first | subst eo26 | (injection eo26 with f1_ f2_ f3_; have f4_ := f1_.symm; have f5_ := f3_.symm; clear f1_ f2_ f3_; subst f4_; subst f5_))
       refine hK.out _ _ trivial (fun hHeld => ?_)
       clear hK K
       refine norm_ (a' := ?_) ?_ ?_
       rotate_left
       ·show Act.put _ (some 47) _ = _
        simp only [Act.put, q17a, q17b, q17c, i64_w, i32_w]
        rfl
       refine one_ (i := 6) (N := some 52) (q17m 8 127) rfl rfl (one_of HT_.out (by kernel_rfl)) (by decide) (fun K hK => ?_)
       refine goes_ Tryd.func11 (by kernel_rfl) rfl #[.slice Ao26 t409.length co26, .slice A0 (l0.take ((ji14) : Int).toNat).length c0] (by rfl) rfl rfl (by (try simp only [List.map_toArray, List.map_cons, List.map_nil]); first | done | (rw [show (l0.take ((ji14) : Int).toNat).length = (ji14).toNat from (by rw [List.length_take]; have h_ : ((ji14) : Int) ≤ (l0.length : Int) := of_decide_eq_true q17y1; omega)] <;> rfl) | (simp only [hji14]; rfl) | rfl | (simp only [List.length_drop, List.length_take]; rfl)) ?_
       with_reducible refine (cambiumref01_Same.calls k3 _ _ t409 _ _ (l0.take ((ji14) : Int).toNat) false _ ?side1 ?side2 ?side3 ?side4 A17.out).mono ?_
       (case side1 => repeat (first | exact (Kd.R_reads' HO411.out).2.2 | (with_reducible refine Kd.C_alloc ?_ _) | (with_reducible refine Kd.C_drewN ?_ _) | (with_reducible refine Kd.C_drew ?_)))
       (case side2 => exact (Kd.R_reads' HO411.out).2.1)
       (case side3 => repeat (first | exact (Kd.C_below HR412.out HB.out) | (with_reducible refine Kd.C_alloc ?_ _) | (with_reducible refine Kd.C_drewN ?_ _) | (with_reducible refine Kd.C_drew ?_)))
       (case side4 => exact HC412.out)
       rintro e w' ⟨rfl, ⟨nd, rfl⟩⟩
       refine ⟨_, rfl, ?_⟩
       refine hK.out _ _ trivial (fun hHeld => ?_)
       clear hK K
       refine norm_ (a' := ?_) ?_ ?_
       rotate_left
       ·show Act.put _ (some 52) _ = _
        simp only [Act.put, q17a, q17b, q17c, i64_w, i32_w]
        rfl
       refine q17p (i := 7) (N := some 53) (q17m 8 255) HT_.out ?_
       refine done_ (done_of HT_.out (by kernel_rfl)) ?_
       try go_wp2
       go_ret2
       exact ⟨by first | rfl | (simp [errW_none, errW_some] <;> rfl) | (simp only [← hji14]; first | rfl | (simp [errW_none, errW_some] <;> rfl)) | (simp [*, errW_none, errW_some] <;> rfl), by repeat (first | (with_reducible first | exact HB.out | apply below_alloc | apply pw_below_drewN | apply below_drew1) | exact HB.out)⟩
-- NOT PRINTED: function 50 (cambiumref17_Read_num)

-- NOT PRINTED: function 51 (cambiumref17_Read_Row)

/-! ### cambiumref01_GetInt: function 68 -/
def cambiumref01_GetInt.f (k : Nat) (l0 : List Int) : Option (Int × Int) := (cambiumref01_Get.f k l0).bind fun bt414 => (if (Int.tmod bt414.1 2) = 1 then (some (wrap64 ((wrap64 (-(wrap64 (IntKind.u64.wrap (Int.tdiv bt414.1 2))))) - 1), bt414.2)) else (some (wrap64 (IntKind.u64.wrap (Int.tdiv bt414.1 2)), bt414.2)))
theorem cambiumref01_GetInt.mono : ∀ a0 k, LeO (cambiumref01_GetInt.f k a0) (cambiumref01_GetInt.f (k + 1) a0) := by
 intro a0 k
 unfold cambiumref01_GetInt.f
 repeat' first
   | (with_reducible exact cambiumref01_Get.mono _ _)
   | (with_reducible exact LeO.refl _)
   | (with_reducible exact LeO.none _)
   | (with_reducible refine LeO.ite ?_ ?_)
   | (with_reducible refine LeO.bind ?_ (fun _ => ?_))
   | exact cambiumref01_Get.mono _ _
   | exact LeO.none _
   | refine LeO.ite ?_ ?_
   | refine LeO.bind ?_ (fun _ => ?_)
set_option maxHeartbeats 8000000 in
set_option maxRecDepth 100000 in
theorem cambiumref01_GetInt.calls (k : Nat) (A0 : Option Addr) (c0 : Nat) (l0 : List Int) (r1 : Int) (r2 : Int) (w : World) (hr0 : Kd.C (Kd.int .u8) w A0 l0.length l0) (hc0 : l0.length ≤ c0) (h : cambiumref01_GetInt.f k l0 = some (r1, r2)) :
  Calls Tryd.prog 68 #[.slice A0 l0.length c0] w fun e w' => e = .returned (.tuple #[.int .i64 r1, .int .i64 r2]) ∧ Below w.heap.size w w' := by
 have HR0 := Aside0.mk hr0
 have HC0 := Aside0.mk hc0
 clear hr0 hc0
 have HB := Aside0.mk (Below.refl w.heap.size w)
 have H : ((cambiumref01_Get.f k l0).bind fun bt414 => (if (Int.tmod bt414.1 2) = 1 then (some (wrap64 ((wrap64 (-(wrap64 (IntKind.u64.wrap (Int.tdiv bt414.1 2))))) - 1), bt414.2)) else (some (wrap64 (IntKind.u64.wrap (Int.tdiv bt414.1 2)), bt414.2)))) = some (r1, r2) := h
 clear h
 replace H := Option.bind_eq_some_iff.mp H
 obtain ⟨⟨t414, t415⟩, A20, H⟩ := H
 replace H : (if (Int.tmod t414 2) = 1 then (some (wrap64 ((wrap64 (-(wrap64 (IntKind.u64.wrap (Int.tdiv t414 2))))) - 1), t415)) else (some (wrap64 (IntKind.u64.wrap (Int.tdiv t414 2)), t415))) = some (r1, r2) := H
 have A2 := Aside0.mk A20
 clear A20
 by_cases c3 : (Int.tmod t414 2) = 1
 ·rw [if_pos c3] at H
  have c3b0 : ((Int.tmod t414 2) == 1) = true := beq_iff_eq.mpr c3
  have c3b1 : ((Int.tmod t414 2) != 1) = false := bne_eq_false_iff_eq.mpr c3
  clear c3
  simp only [Option.some.injEq, Prod.mk.injEq] at H
  obtain ⟨rfl, rfl⟩ := H
  go_enter Tryd.func68, Tryd.ntmps68
  go_wp2_with (first | ((with_reducible refine gate_callee (f := 67) rfl ?_); refine goesL_ (some 8) rfl rfl Tryd.func67 (by kernel_rfl) rfl #[.slice A0 l0.length c0] rfl q17y3 ?_; (with_reducible refine (cambiumref01_Get.calls k _ _ l0 t414 t415 _ ?side1 ?side2 A2.out).mono ?_); (case side1 => repeat (first | exact HR0.out | (with_reducible refine Kd.C_alloc ?_ _) | (with_reducible refine Kd.C_drewN ?_ _) | (with_reducible refine Kd.C_drew ?_))); (case side2 => exact HC0.out); rintro e w4 ⟨rfl, hb⟩; refine ⟨_, rfl, ?_⟩; replace HB := Aside0.mk (below_step q17y0 hb); (try clear hb); (try clear hb2); (try clear hk); (try clear hi)))
  go_ret2
  exact ⟨by first | rfl | (simp [errW_none, errW_some] <;> rfl) | (simp [*, errW_none, errW_some] <;> rfl), by repeat (first | (with_reducible first | exact HB.out | apply below_alloc | apply pw_below_drewN | apply below_drew1) | exact HB.out)⟩
 rw [if_neg c3] at H
 have c3b0 : ((Int.tmod t414 2) == 1) = false := beq_eq_false_iff_ne.mpr c3
 have c3b1 : ((Int.tmod t414 2) != 1) = true := bne_iff_ne.mpr c3
 simp only [Option.some.injEq, Prod.mk.injEq] at H
 obtain ⟨rfl, rfl⟩ := H
 go_enter Tryd.func68, Tryd.ntmps68
 go_wp2_with (first | ((with_reducible refine gate_callee (f := 67) rfl ?_); refine goesL_ (some 8) rfl rfl Tryd.func67 (by kernel_rfl) rfl #[.slice A0 l0.length c0] rfl q17y3 ?_; (with_reducible refine (cambiumref01_Get.calls k _ _ l0 t414 t415 _ ?side1 ?side2 A2.out).mono ?_); (case side1 => repeat (first | exact HR0.out | (with_reducible refine Kd.C_alloc ?_ _) | (with_reducible refine Kd.C_drewN ?_ _) | (with_reducible refine Kd.C_drew ?_))); (case side2 => exact HC0.out); rintro e w5 ⟨rfl, hb⟩; refine ⟨_, rfl, ?_⟩; replace HB := Aside0.mk (below_step q17y0 hb); (try clear hb); (try clear hb2); (try clear hk); (try clear hi)))
 go_ret2
 exact ⟨by first | rfl | (simp [errW_none, errW_some] <;> rfl) | (simp [*, errW_none, errW_some] <;> rfl), by repeat (first | (with_reducible first | exact HB.out | apply below_alloc | apply pw_below_drewN | apply below_drew1) | exact HB.out)⟩

-- NOT PRINTED: function 52 (cambiumref17_Read_signed)

end Go.Proofs.YtkgpnfjmahjlcaaDoor.PAll
