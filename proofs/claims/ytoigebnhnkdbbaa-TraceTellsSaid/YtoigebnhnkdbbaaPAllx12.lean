-- Written by a program: the kit's print.py, driven for several laws at once. Not trusted: Lean checks it.
import Derived.Test.YtoigebnhnkdbbaaPAllx0
import Derived.Test.YtoigebnhnkdbbaaPAllx8
namespace Go.Proofs.Ytoigebnhnkdbbaa.PAll
open Go.RowKit Go.Proofs.YtoigebnhnkdbbaaW.PrintWords Go.Proofs.YtoigebnhnkdbbaaW.PrintLast Go.Proofs.YtoigebnhnkdbbaaW.PrintMore
attribute [local go_sem] max2_int min2_int max_two min_two max_three min_three max_four min_four   -- for this text's walks alone
set_option linter.unusedVariables false
set_option linter.unusedSimpArgs false

/-! ### cambiumref16_Spans: function 14 -/
def q12m (n m : Nat) : Array Bool := ((List.range n).map (Nat.testBit m)).toArray
theorem q12a {α : Type} (xs : List α) (i : Nat) (x : α) : xs.toArray.setIfInBounds i x = (xs.set i x).toArray := List.setIfInBounds_toArray ..
theorem q12b {α : Type} (x y : α) (xs : List α) : (x :: xs).set 0 y = y :: xs := List.set_cons_zero ..
theorem q12c {α : Type} (x y : α) (xs : List α) (n : Nat) : (x :: xs).set (n + 1) y = x :: xs.set n y := List.set_cons_succ ..
theorem q12h {w w' : World} {p : Addr} {v : Value} (h : Below w.heap.size w w') (x : w.cell? p = some v) : w'.cell? p = some v := (h.cell (World.block_lt_of_cell? w _ x)).trans x
theorem q12p {P : Program} {md : Region.Mode} {ops : Array Oper} {Q : Exit → Act → World → Prop} {S : World → Prop} {ds : List Nat} {T : Bool × List (List Nat × List Nat)} {i : Nat} {N : Option Tmp} {oi : Oper} {v : Value} {fuel : Nat} {l : Array Bool} {a : Act} {w : World} (l' : Array Bool) (hT : rtab md ops = T) {a' : Act}
    (h : wpAnyLast P md ops Q S ds fuel l' a' w) (hi : ops[i]? = some oi := by rfl) (hN : oi.dst = N := by rfl) (hc : anyT T l.toList l'.toList i = true := by kernel_rfl) (hQ : ∀ c a w, Q (.panic c) (a.put oi.dst v) w → Q (.panic c) a w := by exact fun _ _ _ h => h)
    (hw : Region.wanted oi (yielded ops a.tmps) = true := by rfl) (hy : ∀ w', (execOp a.eval oi).run P w' = .ok (.value v) w' := by intro w'; go_simp; with_reducible rfl) (ha : a.put N v = a' := by simp only [Act.put, q12a, q12b, q12c, i64_w, i32_w]; rfl) :
    wpAnyLast P md ops Q S ds (fuel + 1) l a w := pure_ l' hi hN (any_of hT hc) hQ (Or.inl ⟨hw, hy⟩) ha h
theorem q12u {P : Program} {md : Region.Mode} {ops : Array Oper} {Q : Exit → Act → World → Prop} {S : World → Prop} {ds : List Nat} {T : Bool × List (List Nat × List Nat)} {i : Nat} {N : Option Tmp} {oi : Oper} {fuel : Nat} {l : Array Bool} {a : Act} {w : World} (l' : Array Bool) (hT : rtab md ops = T) {a' : Act}
    (h : wpAnyLast P md ops Q S ds fuel l' a' w) (hi : ops[i]? = some oi := by rfl) (hN : oi.dst = N := by rfl) (hc : anyT T l.toList l'.toList i = true := by kernel_rfl) (hQ : ∀ c a w, Q (.panic c) (a.put oi.dst undef) w → Q (.panic c) a w := by exact fun _ _ _ h => h)
    (hw : Region.wanted oi (yielded ops a.tmps) = false := by rfl) (ha : a.put N undef = a' := by simp only [Act.put, q12a, q12b, q12c, i64_w, i32_w]; rfl) :
    wpAnyLast P md ops Q S ds (fuel + 1) l a w := pure_ l' hi hN (any_of hT hc) hQ (Or.inr ⟨hw, rfl⟩) ha h
theorem q12k {w : World} {g : Nat} {cs : Array Value} {t : TypeId} (h : w.heap[g]? = some (.cells cs t (0, 0))) (i : Nat) {v : Value} (e : cs[i]? = some v := by rfl) : w.cell? ⟨g, i, none⟩ = some v := (blk_cell h i).trans e
theorem q12y0 {P : Prop} (h : P := by first | (with_reducible assumption) | assumption) : P := h

def cambiumref16_Spans.l0 : Nat → List (S38) → List (S38) → Int → Option (Bool)
 | 0, _, _, _ => none
 | k + 1, x0, x1, x5 => if x5 < (x0.length : Int) then (if 0 ≤ x5 then (if x5 < (x1.length : Int) then ((cambiumref16_Same.f k ((rd_T38 x0 x5).f0) ((rd_T38 x0 x5).f1) ((rd_T38 x0 x5).f2) ((rd_T38 x0 x5).f3) ((rd_T38 x0 x5).f4) ((rd_T38 x0 x5).f5) ((rd_T38 x0 x5).f6) ((rd_T38 x0 x5).f7) ((rd_T38 x0 x5).f8) ((rd_T38 x0 x5).f9) ((rd_T38 x0 x5).f10) ((rd_T38 x1 x5).f0) ((rd_T38 x1 x5).f1) ((rd_T38 x1 x5).f2) ((rd_T38 x1 x5).f3) ((rd_T38 x1 x5).f4) ((rd_T38 x1 x5).f5) ((rd_T38 x1 x5).f6) ((rd_T38 x1 x5).f7) ((rd_T38 x1 x5).f8) ((rd_T38 x1 x5).f9) ((rd_T38 x1 x5).f10)).bind fun t231 => (if t231 = true then (cambiumref16_Spans.l0 k x0 x1 (wrap64 (x5 + 1))) else (some false))) else (none)) else (none)) else (some true)
def cambiumref16_Spans.f (k : Nat) (l0 : List (S38)) (l1 : List (S38)) : Option (Bool) := if (l0.length : Int) = (l1.length : Int) then (cambiumref16_Spans.l0 k l0 l1 0) else (some false)
theorem cambiumref16_Spans.mono_l : ∀ k, (∀ y0 y1 y2, LeO (cambiumref16_Spans.l0 k y0 y1 y2) (cambiumref16_Spans.l0 (k + 1) y0 y1 y2))
 | 0 => fun _ _ _ r h => by simp [cambiumref16_Spans.l0] at h
 | k + 1 => by
  have ih0 := cambiumref16_Spans.mono_l k
  ·intro y0 y1 y2
   unfold cambiumref16_Spans.l0
   repeat' first
   | (with_reducible exact ih0 _ _ _)
   | (with_reducible exact cambiumref16_Same.mono _ _ _ _ _ _ _ _ _ _ _ _ _ _ _ _ _ _ _ _ _ _ _)
   | (with_reducible exact LeO.refl _)
   | (with_reducible exact LeO.none _)
   | (with_reducible refine LeO.ite ?_ ?_)
   | (with_reducible refine LeO.bind ?_ (fun _ => ?_))
   | exact ih0 _ _ _
   | exact cambiumref16_Same.mono _ _ _ _ _ _ _ _ _ _ _ _ _ _ _ _ _ _ _ _ _ _ _
   | exact LeO.none _
   | refine LeO.ite ?_ ?_
   | refine LeO.bind ?_ (fun _ => ?_)
theorem cambiumref16_Spans.mono : ∀ a0 a1 k, LeO (cambiumref16_Spans.f k a0 a1) (cambiumref16_Spans.f (k + 1) a0 a1) := by
 intro a0 a1 k
 have ih0 := cambiumref16_Spans.mono_l k
 unfold cambiumref16_Spans.f
 repeat' first
   | (with_reducible exact ih0 _ _ _)
   | (with_reducible exact cambiumref16_Same.mono _ _ _ _ _ _ _ _ _ _ _ _ _ _ _ _ _ _ _ _ _ _ _)
   | (with_reducible exact LeO.refl _)
   | (with_reducible exact LeO.none _)
   | (with_reducible refine LeO.ite ?_ ?_)
   | (with_reducible refine LeO.bind ?_ (fun _ => ?_))
   | exact ih0 _ _ _
   | exact cambiumref16_Same.mono _ _ _ _ _ _ _ _ _ _ _ _ _ _ _ _ _ _ _ _ _ _ _
   | exact LeO.none _
   | refine LeO.ite ?_ ?_
   | refine LeO.bind ?_ (fun _ => ?_)
def cambiumref16_Spans.T6 : Bool × List (List Nat × List Nat) := (true, [([], []), ([], []), ([0, 1], [0, 1]), ([2], [2]), ([], []), ([], []), ([4, 5], [4, 5]), ([6], [6]), ([3, 7], [3, 7]), ([8], [8])])
def cambiumref16_Spans.B6 : List Nat := [0, 0, 3, 7, 0, 0, 48, 112, 255, 511]
theorem cambiumref16_Spans.tab6 : rtab .any (opsOf Try.f14 6) = cambiumref16_Spans.T6 := by kernel_rfl
theorem cambiumref16_Spans.bits6 : waitsOk cambiumref16_Spans.T6.2 cambiumref16_Spans.B6 = true := by kernel_rfl
set_option maxHeartbeats 8000000 in
set_option maxRecDepth 100000 in
theorem cambiumref16_Spans.calls (k : Nat) (A0 : Option Addr) (c0 : Nat) (l0 : List (S38)) (A1 : Option Addr) (c1 : Nat) (l1 : List (S38)) (r : Bool) (w : World) (hr0 : Kd.C k38 w A0 l0.length l0) (hc0 : l0.length ≤ c0) (hr1 : Kd.C k38 w A1 l1.length l1) (hc1 : l1.length ≤ c1) (h : cambiumref16_Spans.f k l0 l1 = some r) :
  Calls Try.prog 14 #[.slice A0 l0.length c0, .slice A1 l1.length c1] w fun e w' => e = .returned (.bool r) ∧ Below w.heap.size w w' := by
 have hu38 := Try.underlying38
 have HR0 := Aside0.mk hr0
 have HC0 := Aside0.mk hc0
 clear hr0 hc0
 have HR1 := Aside0.mk hr1
 have HC1 := Aside0.mk hc1
 clear hr1 hc1
 have HB := Aside0.mk (Below.refl w.heap.size w)
 have H : (if (l0.length : Int) = (l1.length : Int) then (cambiumref16_Spans.l0 k l0 l1 0) else (some false)) = some r := h
 clear h
 by_cases c3 : (l0.length : Int) = (l1.length : Int)
 rotate_left
 ·rw [if_neg c3] at H
  have c3b0 : ((l0.length : Int) == (l1.length : Int)) = false := beq_eq_false_iff_ne.mpr c3
  have c3b1 : ((l0.length : Int) != (l1.length : Int)) = true := bne_iff_ne.mpr c3
  have c3b2 : (l0.length == l1.length) = false := by first | simpa using c3 | (simp at c3 ⊢; omega)
  obtain rfl := Option.some.inj H
  go_enter Try.func14, Try.ntmps14
  go_wp2
  go_ret
  exact ⟨by first | rfl | (simp [errW_none, errW_some] <;> rfl) | (simp [*, errW_none, errW_some] <;> rfl), by repeat (first | (with_reducible first | exact HB.out | apply below_alloc | apply pw_below_drewN | apply below_drew1) | exact HB.out)⟩

 rw [if_pos c3] at H
 have c3b0 : ((l0.length : Int) == (l1.length : Int)) = true := beq_iff_eq.mpr c3
 have c3b1 : ((l0.length : Int) != (l1.length : Int)) = false := bne_eq_false_iff_eq.mpr c3
 have c3b2 : (l0.length == l1.length) = true := by first | simpa using c3 | (simp at c3 ⊢; omega)
 clear c3
 have H' := Aside0.mk H
 clear H
 go_enter Try.func14, Try.ntmps14
 go_wp2
 go_loopg [5] k (fun kq v5 w' => ∃ (x5_1 : Int), v5 = .int .i64 x5_1 ∧ Aside0 (cambiumref16_Spans.l0 kq l0 l1 x5_1 = some r) ∧ Aside0 (kq ≤ k) ∧ Aside0 (Below w.heap.size w w'))
 case atStart => exact ⟨(0), (by first | rfl | (simp; done) | (simp [*]; done)), H', ⟨Nat.le_refl _⟩, ⟨by repeat (first | (with_reducible first | exact HB.out | apply below_alloc | apply pw_below_drewN | apply below_drew1) | exact HB.out)⟩⟩
 case round =>
  clear H'
  try clear c1
  try clear p2
  try clear c3
  try clear c3b0
  try clear c3b1
  try clear c3b2
  obtain ⟨x5_1, rfl, HA, HK1, HB⟩ := hrel
  cases gk with
  | zero => exact absurd HA.out (by simp [cambiumref16_Spans.l0])
  | succ k1 =>
   have H := HA.out
   clear HA
   simp only [cambiumref16_Spans.l0] at H
   by_cases c4 : x5_1 < (l0.length : Int)
   rotate_left
   ·rw [if_neg c4] at H
    have c4b0 : decide (x5_1 < (l0.length : Int)) = false := decide_eq_false c4
    clear c4
    obtain rfl := Option.some.inj H
    go_wp2
    go_ret
    exact ⟨by first | rfl | (simp [errW_none, errW_some] <;> rfl) | (simp [*, errW_none, errW_some] <;> rfl), by repeat (first | (with_reducible first | exact HB.out | apply below_alloc | apply pw_below_drewN | apply below_drew1) | exact HB.out)⟩
   rw [if_pos c4] at H
   have c4b0 : decide (x5_1 < (l0.length : Int)) = true := decide_eq_true c4
   clear c4
   by_cases c5 : 0 ≤ x5_1
   rotate_left
   ·rw [if_neg c5] at H
    exact absurd H (by simp)
   rw [if_pos c5] at H
   have c5b0 : decide (0 ≤ x5_1) = true := decide_eq_true c5
   clear c5
   by_cases c6 : x5_1 < (l1.length : Int)
   rotate_left
   ·rw [if_neg c6] at H
    exact absurd H (by simp)
   rw [if_pos c6] at H
   have c6b0 : decide (x5_1 < (l1.length : Int)) = true := decide_eq_true c6
   clear c6
   replace H := Option.bind_eq_some_iff.mp H
   obtain ⟨t231, A70, H⟩ := H
   replace H : (if t231 = true then (cambiumref16_Spans.l0 k1 l0 l1 (wrap64 (x5_1 + 1))) else (some false)) = some r := H
   have A7 := Aside0.mk A70
   clear A70
   by_cases c8 : t231 = true
   rotate_left
   ·replace c8 := Bool.eq_false_iff.mpr c8
    subst c8
    have H1 : (some false) = some r := by rw [if_neg (show ¬ (false = true) by decide)] at H; exact H
    clear H
    have H := H1
    clear H1
    obtain rfl := Option.some.inj H
    try go_wp2
    have n0_ := Aside0.mk (below_drew1 HB.out)
    clear HB
    have HB := n0_
    clear n0_
    have p229 : 0 ≤ (x5_1 : Int) := of_decide_eq_true q12y0
    have q229 : x5_1 < (l0.length : Int) := of_decide_eq_true q12y0
    obtain ⟨ad229, A229_8, c229_8, A229_9, c229_9, A229_10, c229_10, e229, hx229_0, hx229_1, hx229_2, hx229_3, hx229_4, hx229_5, hx229_6, hx229_7, hx229_8, hx229_9, hx229_10, hl229_8, hi229_8, hl229_9, hi229_9, hl229_10, hi229_10⟩ := at_T38 HR0.out x5_1 p229 q229
    have hw229_10 := hx229_10
    have hw229_9 := hx229_9
    have hw229_8 := hx229_8
    have hw229_7 := hx229_7
    have hw229_6 := hx229_6
    have hw229_5 := hx229_5
    have hw229_4 := hx229_4
    have hw229_3 := hx229_3
    have hw229_2 := hx229_2
    have hw229_1 := hx229_1
    have hw229_0 := hx229_0
    cases e229
    replace hx229_0 := (HB.out.cell (World.block_lt_of_cell? w _ hx229_0)).trans hx229_0
    replace hx229_1 := (HB.out.cell (World.block_lt_of_cell? w _ hx229_1)).trans hx229_1
    replace hx229_2 := (HB.out.cell (World.block_lt_of_cell? w _ hx229_2)).trans hx229_2
    replace hx229_3 := (HB.out.cell (World.block_lt_of_cell? w _ hx229_3)).trans hx229_3
    replace hx229_4 := (HB.out.cell (World.block_lt_of_cell? w _ hx229_4)).trans hx229_4
    replace hx229_5 := (HB.out.cell (World.block_lt_of_cell? w _ hx229_5)).trans hx229_5
    replace hx229_6 := (HB.out.cell (World.block_lt_of_cell? w _ hx229_6)).trans hx229_6
    replace hx229_7 := (HB.out.cell (World.block_lt_of_cell? w _ hx229_7)).trans hx229_7
    replace hx229_8 := (HB.out.cell (World.block_lt_of_cell? w _ hx229_8)).trans hx229_8
    replace hx229_9 := (HB.out.cell (World.block_lt_of_cell? w _ hx229_9)).trans hx229_9
    replace hx229_10 := (HB.out.cell (World.block_lt_of_cell? w _ hx229_10)).trans hx229_10
    have HR229_8 := Aside0.mk hi229_8
    have HC229_8 := Aside0.mk hl229_8
    clear hi229_8 hl229_8
    have HR229_9 := Aside0.mk hi229_9
    have HC229_9 := Aside0.mk hl229_9
    clear hi229_9 hl229_9
    have HR229_10 := Aside0.mk hi229_10
    have HC229_10 := Aside0.mk hl229_10
    clear hi229_10 hl229_10
    replace p229 := eq_true p229
    replace q229 := eq_true q229
    have p230 : 0 ≤ (x5_1 : Int) := of_decide_eq_true q12y0
    have q230 : x5_1 < (l1.length : Int) := of_decide_eq_true q12y0
    obtain ⟨ad230, A230_8, c230_8, A230_9, c230_9, A230_10, c230_10, e230, hx230_0, hx230_1, hx230_2, hx230_3, hx230_4, hx230_5, hx230_6, hx230_7, hx230_8, hx230_9, hx230_10, hl230_8, hi230_8, hl230_9, hi230_9, hl230_10, hi230_10⟩ := at_T38 HR1.out x5_1 p230 q230
    have hw230_10 := hx230_10
    have hw230_9 := hx230_9
    have hw230_8 := hx230_8
    have hw230_7 := hx230_7
    have hw230_6 := hx230_6
    have hw230_5 := hx230_5
    have hw230_4 := hx230_4
    have hw230_3 := hx230_3
    have hw230_2 := hx230_2
    have hw230_1 := hx230_1
    have hw230_0 := hx230_0
    cases e230
    replace hx230_0 := (HB.out.cell (World.block_lt_of_cell? w _ hx230_0)).trans hx230_0
    replace hx230_1 := (HB.out.cell (World.block_lt_of_cell? w _ hx230_1)).trans hx230_1
    replace hx230_2 := (HB.out.cell (World.block_lt_of_cell? w _ hx230_2)).trans hx230_2
    replace hx230_3 := (HB.out.cell (World.block_lt_of_cell? w _ hx230_3)).trans hx230_3
    replace hx230_4 := (HB.out.cell (World.block_lt_of_cell? w _ hx230_4)).trans hx230_4
    replace hx230_5 := (HB.out.cell (World.block_lt_of_cell? w _ hx230_5)).trans hx230_5
    replace hx230_6 := (HB.out.cell (World.block_lt_of_cell? w _ hx230_6)).trans hx230_6
    replace hx230_7 := (HB.out.cell (World.block_lt_of_cell? w _ hx230_7)).trans hx230_7
    replace hx230_8 := (HB.out.cell (World.block_lt_of_cell? w _ hx230_8)).trans hx230_8
    replace hx230_9 := (HB.out.cell (World.block_lt_of_cell? w _ hx230_9)).trans hx230_9
    replace hx230_10 := (HB.out.cell (World.block_lt_of_cell? w _ hx230_10)).trans hx230_10
    have HR230_8 := Aside0.mk hi230_8
    have HC230_8 := Aside0.mk hl230_8
    clear hi230_8 hl230_8
    have HR230_9 := Aside0.mk hi230_9
    have HC230_9 := Aside0.mk hl230_9
    clear hi230_9 hl230_9
    have HR230_10 := Aside0.mk hi230_10
    have HC230_10 := Aside0.mk hl230_10
    clear hi230_10 hl230_10
    replace p230 := eq_true p230
    replace q230 := eq_true q230
    refine start_ (n := 10) (S := fun w' => w'.cell? (ad229.add ((x5_1).toNat * 11)) = some (.int .u64 ((rd_T38 l0 x5_1).f0)) ∧ w'.cell? ⟨(ad229.add ((x5_1).toNat * 11)).block, (ad229.add ((x5_1).toNat * 11)).off + 1, none⟩ = some (.int .u64 ((rd_T38 l0 x5_1).f1)) ∧ w'.cell? ⟨(ad229.add ((x5_1).toNat * 11)).block, (ad229.add ((x5_1).toNat * 11)).off + 2, none⟩ = some (.int .u64 ((rd_T38 l0 x5_1).f2)) ∧ w'.cell? ⟨(ad229.add ((x5_1).toNat * 11)).block, (ad229.add ((x5_1).toNat * 11)).off + 3, none⟩ = some (.string ((rd_T38 l0 x5_1).f3)) ∧ w'.cell? ⟨(ad229.add ((x5_1).toNat * 11)).block, (ad229.add ((x5_1).toNat * 11)).off + 4, none⟩ = some (.string ((rd_T38 l0 x5_1).f4)) ∧ w'.cell? ⟨(ad229.add ((x5_1).toNat * 11)).block, (ad229.add ((x5_1).toNat * 11)).off + 5, none⟩ = some (.int .i64 ((rd_T38 l0 x5_1).f5)) ∧ w'.cell? ⟨(ad229.add ((x5_1).toNat * 11)).block, (ad229.add ((x5_1).toNat * 11)).off + 6, none⟩ = some (.int .i64 ((rd_T38 l0 x5_1).f6)) ∧ w'.cell? ⟨(ad229.add ((x5_1).toNat * 11)).block, (ad229.add ((x5_1).toNat * 11)).off + 7, none⟩ = some (.int .i64 ((rd_T38 l0 x5_1).f7)) ∧ w'.cell? ⟨(ad229.add ((x5_1).toNat * 11)).block, (ad229.add ((x5_1).toNat * 11)).off + 8, none⟩ = some (.slice A229_8 ((rd_T38 l0 x5_1).f8).length c229_8) ∧ w'.cell? ⟨(ad229.add ((x5_1).toNat * 11)).block, (ad229.add ((x5_1).toNat * 11)).off + 9, none⟩ = some (.slice A229_9 ((rd_T38 l0 x5_1).f9).length c229_9) ∧ w'.cell? ⟨(ad229.add ((x5_1).toNat * 11)).block, (ad229.add ((x5_1).toNat * 11)).off + 10, none⟩ = some (.slice A229_10 ((rd_T38 l0 x5_1).f10).length c229_10) ∧ w'.cell? (ad230.add ((x5_1).toNat * 11)) = some (.int .u64 ((rd_T38 l1 x5_1).f0)) ∧ w'.cell? ⟨(ad230.add ((x5_1).toNat * 11)).block, (ad230.add ((x5_1).toNat * 11)).off + 1, none⟩ = some (.int .u64 ((rd_T38 l1 x5_1).f1)) ∧ w'.cell? ⟨(ad230.add ((x5_1).toNat * 11)).block, (ad230.add ((x5_1).toNat * 11)).off + 2, none⟩ = some (.int .u64 ((rd_T38 l1 x5_1).f2)) ∧ w'.cell? ⟨(ad230.add ((x5_1).toNat * 11)).block, (ad230.add ((x5_1).toNat * 11)).off + 3, none⟩ = some (.string ((rd_T38 l1 x5_1).f3)) ∧ w'.cell? ⟨(ad230.add ((x5_1).toNat * 11)).block, (ad230.add ((x5_1).toNat * 11)).off + 4, none⟩ = some (.string ((rd_T38 l1 x5_1).f4)) ∧ w'.cell? ⟨(ad230.add ((x5_1).toNat * 11)).block, (ad230.add ((x5_1).toNat * 11)).off + 5, none⟩ = some (.int .i64 ((rd_T38 l1 x5_1).f5)) ∧ w'.cell? ⟨(ad230.add ((x5_1).toNat * 11)).block, (ad230.add ((x5_1).toNat * 11)).off + 6, none⟩ = some (.int .i64 ((rd_T38 l1 x5_1).f6)) ∧ w'.cell? ⟨(ad230.add ((x5_1).toNat * 11)).block, (ad230.add ((x5_1).toNat * 11)).off + 7, none⟩ = some (.int .i64 ((rd_T38 l1 x5_1).f7)) ∧ w'.cell? ⟨(ad230.add ((x5_1).toNat * 11)).block, (ad230.add ((x5_1).toNat * 11)).off + 8, none⟩ = some (.slice A230_8 ((rd_T38 l1 x5_1).f8).length c230_8) ∧ w'.cell? ⟨(ad230.add ((x5_1).toNat * 11)).block, (ad230.add ((x5_1).toNat * 11)).off + 9, none⟩ = some (.slice A230_9 ((rd_T38 l1 x5_1).f9).length c230_9) ∧ w'.cell? ⟨(ad230.add ((x5_1).toNat * 11)).block, (ad230.add ((x5_1).toNat * 11)).off + 10, none⟩ = some (.slice A230_10 ((rd_T38 l1 x5_1).f10).length c230_10)) (ds := []) #[false, false, false, false, false, false, false, false, false, false] (by kernel_rfl) rfl rfl ⟨(q12h HB.out hw229_0:), (q12h HB.out hw229_1:), (q12h HB.out hw229_2:), (q12h HB.out hw229_3:), (q12h HB.out hw229_4:), (q12h HB.out hw229_5:), (q12h HB.out hw229_6:), (q12h HB.out hw229_7:), (q12h HB.out hw229_8:), (q12h HB.out hw229_9:), (q12h HB.out hw229_10:), (q12h HB.out hw230_0:), (q12h HB.out hw230_1:), (q12h HB.out hw230_2:), (q12h HB.out hw230_3:), (q12h HB.out hw230_4:), (q12h HB.out hw230_5:), (q12h HB.out hw230_6:), (q12h HB.out hw230_7:), (q12h HB.out hw230_8:), (q12h HB.out hw230_9:), (q12h HB.out hw230_10:)⟩ (fun hHeld => ?_); refine with_tabW cambiumref16_Spans.tab6 cambiumref16_Spans.bits6 (fun HT_ HW_ => ?_)
    generalize wr.drew = w11 at HB HR229_10 HR229_8 HR229_9 HR230_10 HR230_8 HR230_9 hx229_0 hx229_1 hx229_10 hx229_2 hx229_3 hx229_4 hx229_5 hx229_6 hx229_7 hx229_8 hx229_9 hx230_0 hx230_1 hx230_10 hx230_2 hx230_3 hx230_4 hx230_5 hx230_6 hx230_7 hx230_8 hx230_9 hHeld ⊢
    refine q12p (i := 0) (N := some 17) (q12m 10 1) HT_.out ?_
    refine q12p (i := 1) (N := some 18) (q12m 10 3) HT_.out ?_
    refine q12p (i := 2) (N := some 19) (q12m 10 7) HT_.out ?_
    refine q12p (i := 4) (N := some 21) (q12m 10 23) HT_.out ?_
    refine q12p (i := 5) (N := some 22) (q12m 10 55) HT_.out ?_
    refine q12p (i := 6) (N := some 23) (q12m 10 119) HT_.out ?_
    refine take_ (i := 3) (N := some 20) (v := ?_) (a' := ?_) (q12m 10 127) rfl rfl (take_ofW HT_.out HW_.out (by kernel_rfl)) (fun _ _ _ h => h) (Or.inl ⟨by rfl, ?_⟩) hHeld ?_ ?_; rotate_left; (rintro w' ⟨s0, s1, s2, s3, s4, s5, s6, s7, s8, s9, s10, s11, s12, s13, s14, s15, s16, s17, s18, s19, s20, s21⟩; go_simp; with_reducible rfl); rotate_left; (simp only [Act.put, q12a, q12b, q12c, i64_w, i32_w]; rfl)
    refine take_ (i := 7) (N := some 24) (v := ?_) (a' := ?_) (q12m 10 255) rfl rfl (take_ofW HT_.out HW_.out (by kernel_rfl)) (fun _ _ _ h => h) (Or.inl ⟨by rfl, ?_⟩) hHeld ?_ ?_; rotate_left; (rintro w' ⟨s0, s1, s2, s3, s4, s5, s6, s7, s8, s9, s10, s11, s12, s13, s14, s15, s16, s17, s18, s19, s20, s21⟩; go_simp; with_reducible rfl); rotate_left; (simp only [Act.put, q12a, q12b, q12c, i64_w, i32_w]; rfl)
    refine one_ (i := 8) (N := some 25) (q12m 10 511) rfl rfl (one_of HT_.out (by kernel_rfl)) (by decide) (fun K hK => ?_)
    refine goes_ Try.func20 (by kernel_rfl) rfl #[.agg #[.int .u64 ((rd_T38 l0 x5_1).f0), .int .u64 ((rd_T38 l0 x5_1).f1), .int .u64 ((rd_T38 l0 x5_1).f2), .string ((rd_T38 l0 x5_1).f3), .string ((rd_T38 l0 x5_1).f4), .int .i64 ((rd_T38 l0 x5_1).f5), .int .i64 ((rd_T38 l0 x5_1).f6), .int .i64 ((rd_T38 l0 x5_1).f7), .slice A229_8 ((rd_T38 l0 x5_1).f8).length c229_8, .slice A229_9 ((rd_T38 l0 x5_1).f9).length c229_9, .slice A229_10 ((rd_T38 l0 x5_1).f10).length c229_10], .agg #[.int .u64 ((rd_T38 l1 x5_1).f0), .int .u64 ((rd_T38 l1 x5_1).f1), .int .u64 ((rd_T38 l1 x5_1).f2), .string ((rd_T38 l1 x5_1).f3), .string ((rd_T38 l1 x5_1).f4), .int .i64 ((rd_T38 l1 x5_1).f5), .int .i64 ((rd_T38 l1 x5_1).f6), .int .i64 ((rd_T38 l1 x5_1).f7), .slice A230_8 ((rd_T38 l1 x5_1).f8).length c230_8, .slice A230_9 ((rd_T38 l1 x5_1).f9).length c230_9, .slice A230_10 ((rd_T38 l1 x5_1).f10).length c230_10]] (by rfl) rfl rfl (by (try simp only [List.map_toArray, List.map_cons, List.map_nil]); first | done | rfl | (simp only [List.length_drop, List.length_take]; rfl)) ?_
    with_reducible refine (cambiumref16_Same.calls k1 ((rd_T38 l0 x5_1).f0) ((rd_T38 l0 x5_1).f1) ((rd_T38 l0 x5_1).f2) ((rd_T38 l0 x5_1).f3) ((rd_T38 l0 x5_1).f4) ((rd_T38 l0 x5_1).f5) ((rd_T38 l0 x5_1).f6) ((rd_T38 l0 x5_1).f7) _ _ ((rd_T38 l0 x5_1).f8) _ _ ((rd_T38 l0 x5_1).f9) _ _ ((rd_T38 l0 x5_1).f10) ((rd_T38 l1 x5_1).f0) ((rd_T38 l1 x5_1).f1) ((rd_T38 l1 x5_1).f2) ((rd_T38 l1 x5_1).f3) ((rd_T38 l1 x5_1).f4) ((rd_T38 l1 x5_1).f5) ((rd_T38 l1 x5_1).f6) ((rd_T38 l1 x5_1).f7) _ _ ((rd_T38 l1 x5_1).f8) _ _ ((rd_T38 l1 x5_1).f9) _ _ ((rd_T38 l1 x5_1).f10) false _ ?side1 ?side2 ?side3 ?side4 ?side5 ?side6 ?side7 ?side8 ?side9 ?side10 ?side11 ?side12 A7.out).mono ?_
    (case side1 => repeat (first | exact (Kd.C_below HR229_8.out HB.out) | (with_reducible refine Kd.C_alloc ?_ _) | (with_reducible refine Kd.C_drewN ?_ _) | (with_reducible refine Kd.C_drew ?_)))
    (case side2 => exact HC229_8.out)
    (case side3 => repeat (first | exact (Kd.C_below HR229_9.out HB.out) | (with_reducible refine Kd.C_alloc ?_ _) | (with_reducible refine Kd.C_drewN ?_ _) | (with_reducible refine Kd.C_drew ?_)))
    (case side4 => exact HC229_9.out)
    (case side5 => repeat (first | exact (Kd.C_below HR229_10.out HB.out) | (with_reducible refine Kd.C_alloc ?_ _) | (with_reducible refine Kd.C_drewN ?_ _) | (with_reducible refine Kd.C_drew ?_)))
    (case side6 => exact HC229_10.out)
    (case side7 => repeat (first | exact (Kd.C_below HR230_8.out HB.out) | (with_reducible refine Kd.C_alloc ?_ _) | (with_reducible refine Kd.C_drewN ?_ _) | (with_reducible refine Kd.C_drew ?_)))
    (case side8 => exact HC230_8.out)
    (case side9 => repeat (first | exact (Kd.C_below HR230_9.out HB.out) | (with_reducible refine Kd.C_alloc ?_ _) | (with_reducible refine Kd.C_drewN ?_ _) | (with_reducible refine Kd.C_drew ?_)))
    (case side10 => exact HC230_9.out)
    (case side11 => repeat (first | exact (Kd.C_below HR230_10.out HB.out) | (with_reducible refine Kd.C_alloc ?_ _) | (with_reducible refine Kd.C_drewN ?_ _) | (with_reducible refine Kd.C_drew ?_)))
    (case side12 => exact HC230_10.out)
    rintro e w12 ⟨rfl, hb⟩
    refine ⟨_, rfl, ?_⟩
    have n0_ := Aside0.mk (below_step (by repeat (first | (with_reducible first | exact HB.out | apply below_alloc | apply pw_below_drewN | apply below_drew1) | exact HB.out)) hb)
    clear HB
    have HB := n0_
    clear n0_
    (try clear hb)
    (try clear hb2)
    (try clear hk)
    (try clear hi)
    refine hK.out _ _ ⟨(q12h HB.out hw229_0:), (q12h HB.out hw229_1:), (q12h HB.out hw229_2:), (q12h HB.out hw229_3:), (q12h HB.out hw229_4:), (q12h HB.out hw229_5:), (q12h HB.out hw229_6:), (q12h HB.out hw229_7:), (q12h HB.out hw229_8:), (q12h HB.out hw229_9:), (q12h HB.out hw229_10:), (q12h HB.out hw230_0:), (q12h HB.out hw230_1:), (q12h HB.out hw230_2:), (q12h HB.out hw230_3:), (q12h HB.out hw230_4:), (q12h HB.out hw230_5:), (q12h HB.out hw230_6:), (q12h HB.out hw230_7:), (q12h HB.out hw230_8:), (q12h HB.out hw230_9:), (q12h HB.out hw230_10:)⟩ (fun hHeld => ?_)
    clear hK K
    refine norm_ (a' := ?_) ?_ ?_
    rotate_left
    ·show Act.put _ (some 25) _ = _
     simp only [Act.put, q12a, q12b, q12c, i64_w, i32_w]
     rfl
    refine q12p (i := 9) (N := some 26) (q12m 10 1023) HT_.out ?_
    refine done_ (done_of HT_.out (by kernel_rfl)) ?_
    try go_wp2
    go_ret
    exact ⟨by first | rfl | (simp [errW_none, errW_some] <;> rfl) | (simp [*, errW_none, errW_some] <;> rfl), by repeat (first | (with_reducible first | exact HB.out | apply below_alloc | apply pw_below_drewN | apply below_drew1) | exact HB.out)⟩
   subst c8
   have H1 : (cambiumref16_Spans.l0 k1 l0 l1 (wrap64 (x5_1 + 1))) = some r := by rw [if_pos rfl] at H; exact H
   clear H
   have H := H1
   clear H1
   have H' := Aside0.mk H
   clear H
   try go_wp2
   have n0_ := Aside0.mk (below_drew1 HB.out)
   clear HB
   have HB := n0_
   clear n0_
   have p229 : 0 ≤ (x5_1 : Int) := of_decide_eq_true q12y0
   have q229 : x5_1 < (l0.length : Int) := of_decide_eq_true q12y0
   obtain ⟨ad229, A229_8, c229_8, A229_9, c229_9, A229_10, c229_10, e229, hx229_0, hx229_1, hx229_2, hx229_3, hx229_4, hx229_5, hx229_6, hx229_7, hx229_8, hx229_9, hx229_10, hl229_8, hi229_8, hl229_9, hi229_9, hl229_10, hi229_10⟩ := at_T38 HR0.out x5_1 p229 q229
   have hw229_10 := hx229_10
   have hw229_9 := hx229_9
   have hw229_8 := hx229_8
   have hw229_7 := hx229_7
   have hw229_6 := hx229_6
   have hw229_5 := hx229_5
   have hw229_4 := hx229_4
   have hw229_3 := hx229_3
   have hw229_2 := hx229_2
   have hw229_1 := hx229_1
   have hw229_0 := hx229_0
   cases e229
   replace hx229_0 := (HB.out.cell (World.block_lt_of_cell? w _ hx229_0)).trans hx229_0
   replace hx229_1 := (HB.out.cell (World.block_lt_of_cell? w _ hx229_1)).trans hx229_1
   replace hx229_2 := (HB.out.cell (World.block_lt_of_cell? w _ hx229_2)).trans hx229_2
   replace hx229_3 := (HB.out.cell (World.block_lt_of_cell? w _ hx229_3)).trans hx229_3
   replace hx229_4 := (HB.out.cell (World.block_lt_of_cell? w _ hx229_4)).trans hx229_4
   replace hx229_5 := (HB.out.cell (World.block_lt_of_cell? w _ hx229_5)).trans hx229_5
   replace hx229_6 := (HB.out.cell (World.block_lt_of_cell? w _ hx229_6)).trans hx229_6
   replace hx229_7 := (HB.out.cell (World.block_lt_of_cell? w _ hx229_7)).trans hx229_7
   replace hx229_8 := (HB.out.cell (World.block_lt_of_cell? w _ hx229_8)).trans hx229_8
   replace hx229_9 := (HB.out.cell (World.block_lt_of_cell? w _ hx229_9)).trans hx229_9
   replace hx229_10 := (HB.out.cell (World.block_lt_of_cell? w _ hx229_10)).trans hx229_10
   have HR229_8 := Aside0.mk hi229_8
   have HC229_8 := Aside0.mk hl229_8
   clear hi229_8 hl229_8
   have HR229_9 := Aside0.mk hi229_9
   have HC229_9 := Aside0.mk hl229_9
   clear hi229_9 hl229_9
   have HR229_10 := Aside0.mk hi229_10
   have HC229_10 := Aside0.mk hl229_10
   clear hi229_10 hl229_10
   replace p229 := eq_true p229
   replace q229 := eq_true q229
   have p230 : 0 ≤ (x5_1 : Int) := of_decide_eq_true q12y0
   have q230 : x5_1 < (l1.length : Int) := of_decide_eq_true q12y0
   obtain ⟨ad230, A230_8, c230_8, A230_9, c230_9, A230_10, c230_10, e230, hx230_0, hx230_1, hx230_2, hx230_3, hx230_4, hx230_5, hx230_6, hx230_7, hx230_8, hx230_9, hx230_10, hl230_8, hi230_8, hl230_9, hi230_9, hl230_10, hi230_10⟩ := at_T38 HR1.out x5_1 p230 q230
   have hw230_10 := hx230_10
   have hw230_9 := hx230_9
   have hw230_8 := hx230_8
   have hw230_7 := hx230_7
   have hw230_6 := hx230_6
   have hw230_5 := hx230_5
   have hw230_4 := hx230_4
   have hw230_3 := hx230_3
   have hw230_2 := hx230_2
   have hw230_1 := hx230_1
   have hw230_0 := hx230_0
   cases e230
   replace hx230_0 := (HB.out.cell (World.block_lt_of_cell? w _ hx230_0)).trans hx230_0
   replace hx230_1 := (HB.out.cell (World.block_lt_of_cell? w _ hx230_1)).trans hx230_1
   replace hx230_2 := (HB.out.cell (World.block_lt_of_cell? w _ hx230_2)).trans hx230_2
   replace hx230_3 := (HB.out.cell (World.block_lt_of_cell? w _ hx230_3)).trans hx230_3
   replace hx230_4 := (HB.out.cell (World.block_lt_of_cell? w _ hx230_4)).trans hx230_4
   replace hx230_5 := (HB.out.cell (World.block_lt_of_cell? w _ hx230_5)).trans hx230_5
   replace hx230_6 := (HB.out.cell (World.block_lt_of_cell? w _ hx230_6)).trans hx230_6
   replace hx230_7 := (HB.out.cell (World.block_lt_of_cell? w _ hx230_7)).trans hx230_7
   replace hx230_8 := (HB.out.cell (World.block_lt_of_cell? w _ hx230_8)).trans hx230_8
   replace hx230_9 := (HB.out.cell (World.block_lt_of_cell? w _ hx230_9)).trans hx230_9
   replace hx230_10 := (HB.out.cell (World.block_lt_of_cell? w _ hx230_10)).trans hx230_10
   have HR230_8 := Aside0.mk hi230_8
   have HC230_8 := Aside0.mk hl230_8
   clear hi230_8 hl230_8
   have HR230_9 := Aside0.mk hi230_9
   have HC230_9 := Aside0.mk hl230_9
   clear hi230_9 hl230_9
   have HR230_10 := Aside0.mk hi230_10
   have HC230_10 := Aside0.mk hl230_10
   clear hi230_10 hl230_10
   replace p230 := eq_true p230
   replace q230 := eq_true q230
   refine start_ (n := 10) (S := fun w' => w'.cell? (ad229.add ((x5_1).toNat * 11)) = some (.int .u64 ((rd_T38 l0 x5_1).f0)) ∧ w'.cell? ⟨(ad229.add ((x5_1).toNat * 11)).block, (ad229.add ((x5_1).toNat * 11)).off + 1, none⟩ = some (.int .u64 ((rd_T38 l0 x5_1).f1)) ∧ w'.cell? ⟨(ad229.add ((x5_1).toNat * 11)).block, (ad229.add ((x5_1).toNat * 11)).off + 2, none⟩ = some (.int .u64 ((rd_T38 l0 x5_1).f2)) ∧ w'.cell? ⟨(ad229.add ((x5_1).toNat * 11)).block, (ad229.add ((x5_1).toNat * 11)).off + 3, none⟩ = some (.string ((rd_T38 l0 x5_1).f3)) ∧ w'.cell? ⟨(ad229.add ((x5_1).toNat * 11)).block, (ad229.add ((x5_1).toNat * 11)).off + 4, none⟩ = some (.string ((rd_T38 l0 x5_1).f4)) ∧ w'.cell? ⟨(ad229.add ((x5_1).toNat * 11)).block, (ad229.add ((x5_1).toNat * 11)).off + 5, none⟩ = some (.int .i64 ((rd_T38 l0 x5_1).f5)) ∧ w'.cell? ⟨(ad229.add ((x5_1).toNat * 11)).block, (ad229.add ((x5_1).toNat * 11)).off + 6, none⟩ = some (.int .i64 ((rd_T38 l0 x5_1).f6)) ∧ w'.cell? ⟨(ad229.add ((x5_1).toNat * 11)).block, (ad229.add ((x5_1).toNat * 11)).off + 7, none⟩ = some (.int .i64 ((rd_T38 l0 x5_1).f7)) ∧ w'.cell? ⟨(ad229.add ((x5_1).toNat * 11)).block, (ad229.add ((x5_1).toNat * 11)).off + 8, none⟩ = some (.slice A229_8 ((rd_T38 l0 x5_1).f8).length c229_8) ∧ w'.cell? ⟨(ad229.add ((x5_1).toNat * 11)).block, (ad229.add ((x5_1).toNat * 11)).off + 9, none⟩ = some (.slice A229_9 ((rd_T38 l0 x5_1).f9).length c229_9) ∧ w'.cell? ⟨(ad229.add ((x5_1).toNat * 11)).block, (ad229.add ((x5_1).toNat * 11)).off + 10, none⟩ = some (.slice A229_10 ((rd_T38 l0 x5_1).f10).length c229_10) ∧ w'.cell? (ad230.add ((x5_1).toNat * 11)) = some (.int .u64 ((rd_T38 l1 x5_1).f0)) ∧ w'.cell? ⟨(ad230.add ((x5_1).toNat * 11)).block, (ad230.add ((x5_1).toNat * 11)).off + 1, none⟩ = some (.int .u64 ((rd_T38 l1 x5_1).f1)) ∧ w'.cell? ⟨(ad230.add ((x5_1).toNat * 11)).block, (ad230.add ((x5_1).toNat * 11)).off + 2, none⟩ = some (.int .u64 ((rd_T38 l1 x5_1).f2)) ∧ w'.cell? ⟨(ad230.add ((x5_1).toNat * 11)).block, (ad230.add ((x5_1).toNat * 11)).off + 3, none⟩ = some (.string ((rd_T38 l1 x5_1).f3)) ∧ w'.cell? ⟨(ad230.add ((x5_1).toNat * 11)).block, (ad230.add ((x5_1).toNat * 11)).off + 4, none⟩ = some (.string ((rd_T38 l1 x5_1).f4)) ∧ w'.cell? ⟨(ad230.add ((x5_1).toNat * 11)).block, (ad230.add ((x5_1).toNat * 11)).off + 5, none⟩ = some (.int .i64 ((rd_T38 l1 x5_1).f5)) ∧ w'.cell? ⟨(ad230.add ((x5_1).toNat * 11)).block, (ad230.add ((x5_1).toNat * 11)).off + 6, none⟩ = some (.int .i64 ((rd_T38 l1 x5_1).f6)) ∧ w'.cell? ⟨(ad230.add ((x5_1).toNat * 11)).block, (ad230.add ((x5_1).toNat * 11)).off + 7, none⟩ = some (.int .i64 ((rd_T38 l1 x5_1).f7)) ∧ w'.cell? ⟨(ad230.add ((x5_1).toNat * 11)).block, (ad230.add ((x5_1).toNat * 11)).off + 8, none⟩ = some (.slice A230_8 ((rd_T38 l1 x5_1).f8).length c230_8) ∧ w'.cell? ⟨(ad230.add ((x5_1).toNat * 11)).block, (ad230.add ((x5_1).toNat * 11)).off + 9, none⟩ = some (.slice A230_9 ((rd_T38 l1 x5_1).f9).length c230_9) ∧ w'.cell? ⟨(ad230.add ((x5_1).toNat * 11)).block, (ad230.add ((x5_1).toNat * 11)).off + 10, none⟩ = some (.slice A230_10 ((rd_T38 l1 x5_1).f10).length c230_10)) (ds := []) #[false, false, false, false, false, false, false, false, false, false] (by kernel_rfl) rfl rfl ⟨(q12h HB.out hw229_0:), (q12h HB.out hw229_1:), (q12h HB.out hw229_2:), (q12h HB.out hw229_3:), (q12h HB.out hw229_4:), (q12h HB.out hw229_5:), (q12h HB.out hw229_6:), (q12h HB.out hw229_7:), (q12h HB.out hw229_8:), (q12h HB.out hw229_9:), (q12h HB.out hw229_10:), (q12h HB.out hw230_0:), (q12h HB.out hw230_1:), (q12h HB.out hw230_2:), (q12h HB.out hw230_3:), (q12h HB.out hw230_4:), (q12h HB.out hw230_5:), (q12h HB.out hw230_6:), (q12h HB.out hw230_7:), (q12h HB.out hw230_8:), (q12h HB.out hw230_9:), (q12h HB.out hw230_10:)⟩ (fun hHeld => ?_); refine with_tabW cambiumref16_Spans.tab6 cambiumref16_Spans.bits6 (fun HT_ HW_ => ?_)
   generalize wr.drew = w9 at HB HR229_10 HR229_8 HR229_9 HR230_10 HR230_8 HR230_9 hx229_0 hx229_1 hx229_10 hx229_2 hx229_3 hx229_4 hx229_5 hx229_6 hx229_7 hx229_8 hx229_9 hx230_0 hx230_1 hx230_10 hx230_2 hx230_3 hx230_4 hx230_5 hx230_6 hx230_7 hx230_8 hx230_9 hHeld ⊢
   refine q12p (i := 0) (N := some 17) (q12m 10 1) HT_.out ?_
   refine q12p (i := 1) (N := some 18) (q12m 10 3) HT_.out ?_
   refine q12p (i := 2) (N := some 19) (q12m 10 7) HT_.out ?_
   refine q12p (i := 4) (N := some 21) (q12m 10 23) HT_.out ?_
   refine q12p (i := 5) (N := some 22) (q12m 10 55) HT_.out ?_
   refine q12p (i := 6) (N := some 23) (q12m 10 119) HT_.out ?_
   refine take_ (i := 3) (N := some 20) (v := ?_) (a' := ?_) (q12m 10 127) rfl rfl (take_ofW HT_.out HW_.out (by kernel_rfl)) (fun _ _ _ h => h) (Or.inl ⟨by rfl, ?_⟩) hHeld ?_ ?_; rotate_left; (rintro w' ⟨s0, s1, s2, s3, s4, s5, s6, s7, s8, s9, s10, s11, s12, s13, s14, s15, s16, s17, s18, s19, s20, s21⟩; go_simp; with_reducible rfl); rotate_left; (simp only [Act.put, q12a, q12b, q12c, i64_w, i32_w]; rfl)
   refine take_ (i := 7) (N := some 24) (v := ?_) (a' := ?_) (q12m 10 255) rfl rfl (take_ofW HT_.out HW_.out (by kernel_rfl)) (fun _ _ _ h => h) (Or.inl ⟨by rfl, ?_⟩) hHeld ?_ ?_; rotate_left; (rintro w' ⟨s0, s1, s2, s3, s4, s5, s6, s7, s8, s9, s10, s11, s12, s13, s14, s15, s16, s17, s18, s19, s20, s21⟩; go_simp; with_reducible rfl); rotate_left; (simp only [Act.put, q12a, q12b, q12c, i64_w, i32_w]; rfl)
   refine one_ (i := 8) (N := some 25) (q12m 10 511) rfl rfl (one_of HT_.out (by kernel_rfl)) (by decide) (fun K hK => ?_)
   refine goes_ Try.func20 (by kernel_rfl) rfl #[.agg #[.int .u64 ((rd_T38 l0 x5_1).f0), .int .u64 ((rd_T38 l0 x5_1).f1), .int .u64 ((rd_T38 l0 x5_1).f2), .string ((rd_T38 l0 x5_1).f3), .string ((rd_T38 l0 x5_1).f4), .int .i64 ((rd_T38 l0 x5_1).f5), .int .i64 ((rd_T38 l0 x5_1).f6), .int .i64 ((rd_T38 l0 x5_1).f7), .slice A229_8 ((rd_T38 l0 x5_1).f8).length c229_8, .slice A229_9 ((rd_T38 l0 x5_1).f9).length c229_9, .slice A229_10 ((rd_T38 l0 x5_1).f10).length c229_10], .agg #[.int .u64 ((rd_T38 l1 x5_1).f0), .int .u64 ((rd_T38 l1 x5_1).f1), .int .u64 ((rd_T38 l1 x5_1).f2), .string ((rd_T38 l1 x5_1).f3), .string ((rd_T38 l1 x5_1).f4), .int .i64 ((rd_T38 l1 x5_1).f5), .int .i64 ((rd_T38 l1 x5_1).f6), .int .i64 ((rd_T38 l1 x5_1).f7), .slice A230_8 ((rd_T38 l1 x5_1).f8).length c230_8, .slice A230_9 ((rd_T38 l1 x5_1).f9).length c230_9, .slice A230_10 ((rd_T38 l1 x5_1).f10).length c230_10]] (by rfl) rfl rfl (by (try simp only [List.map_toArray, List.map_cons, List.map_nil]); first | done | rfl | (simp only [List.length_drop, List.length_take]; rfl)) ?_
   with_reducible refine (cambiumref16_Same.calls k1 ((rd_T38 l0 x5_1).f0) ((rd_T38 l0 x5_1).f1) ((rd_T38 l0 x5_1).f2) ((rd_T38 l0 x5_1).f3) ((rd_T38 l0 x5_1).f4) ((rd_T38 l0 x5_1).f5) ((rd_T38 l0 x5_1).f6) ((rd_T38 l0 x5_1).f7) _ _ ((rd_T38 l0 x5_1).f8) _ _ ((rd_T38 l0 x5_1).f9) _ _ ((rd_T38 l0 x5_1).f10) ((rd_T38 l1 x5_1).f0) ((rd_T38 l1 x5_1).f1) ((rd_T38 l1 x5_1).f2) ((rd_T38 l1 x5_1).f3) ((rd_T38 l1 x5_1).f4) ((rd_T38 l1 x5_1).f5) ((rd_T38 l1 x5_1).f6) ((rd_T38 l1 x5_1).f7) _ _ ((rd_T38 l1 x5_1).f8) _ _ ((rd_T38 l1 x5_1).f9) _ _ ((rd_T38 l1 x5_1).f10) true _ ?side1 ?side2 ?side3 ?side4 ?side5 ?side6 ?side7 ?side8 ?side9 ?side10 ?side11 ?side12 A7.out).mono ?_
   (case side1 => repeat (first | exact (Kd.C_below HR229_8.out HB.out) | (with_reducible refine Kd.C_alloc ?_ _) | (with_reducible refine Kd.C_drewN ?_ _) | (with_reducible refine Kd.C_drew ?_)))
   (case side2 => exact HC229_8.out)
   (case side3 => repeat (first | exact (Kd.C_below HR229_9.out HB.out) | (with_reducible refine Kd.C_alloc ?_ _) | (with_reducible refine Kd.C_drewN ?_ _) | (with_reducible refine Kd.C_drew ?_)))
   (case side4 => exact HC229_9.out)
   (case side5 => repeat (first | exact (Kd.C_below HR229_10.out HB.out) | (with_reducible refine Kd.C_alloc ?_ _) | (with_reducible refine Kd.C_drewN ?_ _) | (with_reducible refine Kd.C_drew ?_)))
   (case side6 => exact HC229_10.out)
   (case side7 => repeat (first | exact (Kd.C_below HR230_8.out HB.out) | (with_reducible refine Kd.C_alloc ?_ _) | (with_reducible refine Kd.C_drewN ?_ _) | (with_reducible refine Kd.C_drew ?_)))
   (case side8 => exact HC230_8.out)
   (case side9 => repeat (first | exact (Kd.C_below HR230_9.out HB.out) | (with_reducible refine Kd.C_alloc ?_ _) | (with_reducible refine Kd.C_drewN ?_ _) | (with_reducible refine Kd.C_drew ?_)))
   (case side10 => exact HC230_9.out)
   (case side11 => repeat (first | exact (Kd.C_below HR230_10.out HB.out) | (with_reducible refine Kd.C_alloc ?_ _) | (with_reducible refine Kd.C_drewN ?_ _) | (with_reducible refine Kd.C_drew ?_)))
   (case side12 => exact HC230_10.out)
   rintro e w10 ⟨rfl, hb⟩
   refine ⟨_, rfl, ?_⟩
   have n0_ := Aside0.mk (below_step (by repeat (first | (with_reducible first | exact HB.out | apply below_alloc | apply pw_below_drewN | apply below_drew1) | exact HB.out)) hb)
   clear HB
   have HB := n0_
   clear n0_
   (try clear hb)
   (try clear hb2)
   (try clear hk)
   (try clear hi)
   refine hK.out _ _ ⟨(q12h HB.out hw229_0:), (q12h HB.out hw229_1:), (q12h HB.out hw229_2:), (q12h HB.out hw229_3:), (q12h HB.out hw229_4:), (q12h HB.out hw229_5:), (q12h HB.out hw229_6:), (q12h HB.out hw229_7:), (q12h HB.out hw229_8:), (q12h HB.out hw229_9:), (q12h HB.out hw229_10:), (q12h HB.out hw230_0:), (q12h HB.out hw230_1:), (q12h HB.out hw230_2:), (q12h HB.out hw230_3:), (q12h HB.out hw230_4:), (q12h HB.out hw230_5:), (q12h HB.out hw230_6:), (q12h HB.out hw230_7:), (q12h HB.out hw230_8:), (q12h HB.out hw230_9:), (q12h HB.out hw230_10:)⟩ (fun hHeld => ?_)
   clear hK K
   refine norm_ (a' := ?_) ?_ ?_
   rotate_left
   ·show Act.put _ (some 25) _ = _
    simp only [Act.put, q12a, q12b, q12c, i64_w, i32_w]
    rfl
   refine q12p (i := 9) (N := some 26) (q12m 10 1023) HT_.out ?_
   refine done_ (done_of HT_.out (by kernel_rfl)) ?_
   try go_wp2
   go_roundg k1
   case measure => have := HK1.out; omega
   case rel => exact ⟨(wrap64 (x5_1 + 1)), (by first | rfl | (simp; done) | (simp [*]; done)), H', ⟨by have := HK1.out; omega⟩, ⟨by repeat (first | (with_reducible first | exact HB.out | apply below_alloc | apply pw_below_drewN | apply below_drew1) | exact HB.out)⟩⟩
-- NOT PRINTED: function 16 (cambiumref26_Longest)

-- NOT PRINTED: function 3 (cambiumlaw26_TraceTells)

-- NOT PRINTED: function 4 (cambiumlaw26_TraceOnce)

-- NOT PRINTED: function 5 (cambiumlaw26_TraceWays)

-- NOT PRINTED: function 6 (cambiumlaw26_TraceSums)

end Go.Proofs.Ytoigebnhnkdbbaa.PAll
