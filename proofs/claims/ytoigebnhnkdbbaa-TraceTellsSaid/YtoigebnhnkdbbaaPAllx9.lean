-- Written by a program: the kit's print.py, driven for several laws at once. Not trusted: Lean checks it.
import Derived.Test.YtoigebnhnkdbbaaPAllx0
import Derived.Test.YtoigebnhnkdbbaaPAllx8
namespace Go.Proofs.Ytoigebnhnkdbbaa.PAll
open Go.RowKit Go.Proofs.YtoigebnhnkdbbaaW.PrintWords Go.Proofs.YtoigebnhnkdbbaaW.PrintLast Go.Proofs.YtoigebnhnkdbbaaW.PrintMore
attribute [local go_sem] max2_int min2_int max_two min_two max_three min_three max_four min_four   -- for this text's walks alone
set_option linter.unusedVariables false
set_option linter.unusedSimpArgs false

/-! ### cambiumlaw26_Lines: function 9 -/
def q9m (n m : Nat) : Array Bool := ((List.range n).map (Nat.testBit m)).toArray
theorem q9a {α : Type} (xs : List α) (i : Nat) (x : α) : xs.toArray.setIfInBounds i x = (xs.set i x).toArray := List.setIfInBounds_toArray ..
theorem q9b {α : Type} (x y : α) (xs : List α) : (x :: xs).set 0 y = y :: xs := List.set_cons_zero ..
theorem q9c {α : Type} (x y : α) (xs : List α) (n : Nat) : (x :: xs).set (n + 1) y = x :: xs.set n y := List.set_cons_succ ..
theorem q9h {w w' : World} {p : Addr} {v : Value} (h : Below w.heap.size w w') (x : w.cell? p = some v) : w'.cell? p = some v := (h.cell (World.block_lt_of_cell? w _ x)).trans x
theorem q9p {P : Program} {md : Region.Mode} {ops : Array Oper} {Q : Exit → Act → World → Prop} {S : World → Prop} {ds : List Nat} {T : Bool × List (List Nat × List Nat)} {i : Nat} {N : Option Tmp} {oi : Oper} {v : Value} {fuel : Nat} {l : Array Bool} {a : Act} {w : World} (l' : Array Bool) (hT : rtab md ops = T) {a' : Act}
    (h : wpAnyLast P md ops Q S ds fuel l' a' w) (hi : ops[i]? = some oi := by rfl) (hN : oi.dst = N := by rfl) (hc : anyT T l.toList l'.toList i = true := by kernel_rfl) (hQ : ∀ c a w, Q (.panic c) (a.put oi.dst v) w → Q (.panic c) a w := by exact fun _ _ _ h => h)
    (hw : Region.wanted oi (yielded ops a.tmps) = true := by rfl) (hy : ∀ w', (execOp a.eval oi).run P w' = .ok (.value v) w' := by intro w'; go_simp; with_reducible rfl) (ha : a.put N v = a' := by simp only [Act.put, q9a, q9b, q9c, i64_w, i32_w]; rfl) :
    wpAnyLast P md ops Q S ds (fuel + 1) l a w := pure_ l' hi hN (any_of hT hc) hQ (Or.inl ⟨hw, hy⟩) ha h
theorem q9u {P : Program} {md : Region.Mode} {ops : Array Oper} {Q : Exit → Act → World → Prop} {S : World → Prop} {ds : List Nat} {T : Bool × List (List Nat × List Nat)} {i : Nat} {N : Option Tmp} {oi : Oper} {fuel : Nat} {l : Array Bool} {a : Act} {w : World} (l' : Array Bool) (hT : rtab md ops = T) {a' : Act}
    (h : wpAnyLast P md ops Q S ds fuel l' a' w) (hi : ops[i]? = some oi := by rfl) (hN : oi.dst = N := by rfl) (hc : anyT T l.toList l'.toList i = true := by kernel_rfl) (hQ : ∀ c a w, Q (.panic c) (a.put oi.dst undef) w → Q (.panic c) a w := by exact fun _ _ _ h => h)
    (hw : Region.wanted oi (yielded ops a.tmps) = false := by rfl) (ha : a.put N undef = a' := by simp only [Act.put, q9a, q9b, q9c, i64_w, i32_w]; rfl) :
    wpAnyLast P md ops Q S ds (fuel + 1) l a w := pure_ l' hi hN (any_of hT hc) hQ (Or.inr ⟨hw, rfl⟩) ha h
theorem q9k {w : World} {g : Nat} {cs : Array Value} {t : TypeId} (h : w.heap[g]? = some (.cells cs t (0, 0))) (i : Nat) {v : Value} (e : cs[i]? = some v := by rfl) : w.cell? ⟨g, i, none⟩ = some v := (blk_cell h i).trans e
theorem q9y0 {P : Prop} (h : P := by first | (with_reducible assumption) | assumption) : P := h
theorem q9y1 {P : Prop} (h : P := by (try simp only [List.map_toArray, List.map_cons, List.map_nil]); first | done | rfl | (simp only [List.length_drop, List.length_take]; rfl)) : P := h
theorem q9y2 {P : Prop} (h : P := by repeat (first | (with_reducible first | exact HB.out | apply below_alloc | apply pw_below_drewN | apply below_drew1) | exact HB.out)) : P := h

def cambiumlaw26_Lines.l0 : Nat → List (S40) → List (S40) → Int → Option (Bool)
 | 0, _, _, _ => none
 | k + 1, x0, x1, x5 => if x5 < (x0.length : Int) then (if 0 ≤ x5 then (if x5 < (x1.length : Int) then ((cambiumref16_Same.f k ((rd_T40 x0 x5).f0.f0) ((rd_T40 x0 x5).f0.f1) ((rd_T40 x0 x5).f0.f2) ((rd_T40 x0 x5).f0.f3) ((rd_T40 x0 x5).f0.f4) ((rd_T40 x0 x5).f0.f5) ((rd_T40 x0 x5).f0.f6) ((rd_T40 x0 x5).f0.f7) ((rd_T40 x0 x5).f0.f8) ((rd_T40 x0 x5).f0.f9) ((rd_T40 x0 x5).f0.f10) ((rd_T40 x1 x5).f0.f0) ((rd_T40 x1 x5).f0.f1) ((rd_T40 x1 x5).f0.f2) ((rd_T40 x1 x5).f0.f3) ((rd_T40 x1 x5).f0.f4) ((rd_T40 x1 x5).f0.f5) ((rd_T40 x1 x5).f0.f6) ((rd_T40 x1 x5).f0.f7) ((rd_T40 x1 x5).f0.f8) ((rd_T40 x1 x5).f0.f9) ((rd_T40 x1 x5).f0.f10)).bind fun t143 => (if t143 = true then (if ((rd_T40 x0 x5).f1) = ((rd_T40 x1 x5).f1) then (if (((rd_T40 x0 x5).f2) != ((rd_T40 x1 x5).f2)) = true then (some false) else (cambiumlaw26_Lines.l0 k x0 x1 (wrap64 (x5 + 1)))) else (some false)) else (some false))) else (none)) else (none)) else (some true)
def cambiumlaw26_Lines.f (k : Nat) (l0 : List (S40)) (l1 : List (S40)) : Option (Bool) := if (l0.length : Int) = (l1.length : Int) then (cambiumlaw26_Lines.l0 k l0 l1 0) else (some false)
theorem cambiumlaw26_Lines.mono_l : ∀ k, (∀ y0 y1 y2, LeO (cambiumlaw26_Lines.l0 k y0 y1 y2) (cambiumlaw26_Lines.l0 (k + 1) y0 y1 y2))
 | 0 => fun _ _ _ r h => by simp [cambiumlaw26_Lines.l0] at h
 | k + 1 => by
  have ih0 := cambiumlaw26_Lines.mono_l k
  ·intro y0 y1 y2
   unfold cambiumlaw26_Lines.l0
   repeat' first
   | (with_reducible exact ih0 _ _ _)
   | (with_reducible exact cambiumref16_Same.mono _ _ _ _ _ _ _ _ _ _ _ _ _ _ _ _ _ _ _ _ _ _ _)
   | (with_reducible exact LeO.refl _)
   | (with_reducible exact LeO.none _)
   | (with_reducible refine LeO.ite ?_ ?_)
   | (with_reducible refine LeO.bind ?_ (fun _ => ?_))
   | exact ih0 _ _ _
   | exact cambiumref16_Same.mono _ _ _ _ _ _ _ _ _ _ _ _ _ _ _ _ _ _ _ _ _ _ _
   | exact LeO.none _
   | refine LeO.ite ?_ ?_
   | refine LeO.bind ?_ (fun _ => ?_)
theorem cambiumlaw26_Lines.mono : ∀ a0 a1 k, LeO (cambiumlaw26_Lines.f k a0 a1) (cambiumlaw26_Lines.f (k + 1) a0 a1) := by
 intro a0 a1 k
 have ih0 := cambiumlaw26_Lines.mono_l k
 unfold cambiumlaw26_Lines.f
 repeat' first
   | (with_reducible exact ih0 _ _ _)
   | (with_reducible exact cambiumref16_Same.mono _ _ _ _ _ _ _ _ _ _ _ _ _ _ _ _ _ _ _ _ _ _ _)
   | (with_reducible exact LeO.refl _)
   | (with_reducible exact LeO.none _)
   | (with_reducible refine LeO.ite ?_ ?_)
   | (with_reducible refine LeO.bind ?_ (fun _ => ?_))
   | exact ih0 _ _ _
   | exact cambiumref16_Same.mono _ _ _ _ _ _ _ _ _ _ _ _ _ _ _ _ _ _ _ _ _ _ _
   | exact LeO.none _
   | refine LeO.ite ?_ ?_
   | refine LeO.bind ?_ (fun _ => ?_)
def cambiumlaw26_Lines.T6 : Bool × List (List Nat × List Nat) := (true, [([], []), ([], []), ([0, 1], [0, 1]), ([2], [2]), ([3], [3]), ([], []), ([], []), ([5, 6], [5, 6]), ([7], [7]), ([8], [8]), ([4, 9], [4, 9]), ([10], [10]), ([11, 10], [11]), ([12], [12]), ([12], [12]), ([13, 14, 12], [12, 13, 14]), ([15, 12], [12, 15]), ([16, 12], [12, 16]), ([12], [12]), ([12], [12]), ([18, 19, 12], [12, 18, 19]), ([20, 12], [12, 20]), ([21, 12], [12, 21]), ([17, 22, 12], [12, 17, 22]), ([12, 23], [12, 23]), ([24, 12], [24]), ([25], [25]), ([25], [25]), ([26, 27, 25], [25, 26, 27]), ([28, 25], [25, 28]), ([29, 25], [25, 29]), ([25], [25]), ([25], [25]), ([31, 32, 25], [25, 31, 32]), ([33, 25], [25, 33]), ([34, 25], [25, 34]), ([30, 35, 25], [25, 30, 35]), ([25, 36], [25, 36])])
def cambiumlaw26_Lines.B6 : List Nat := [0, 0, 3, 7, 15, 0, 0, 96, 224, 480, 1023, 2047, 4095, 8191, 8191, 32767, 65535, 131071, 8191, 8191, 794623, 1843199, 3940351, 8388607, 16777215, 33554431, 67108863, 67108863, 268435455, 536870911, 1073741823, 67108863, 67108863, 6509559807, 15099494399, 32279363583, 68719476735, 137438953471]
theorem cambiumlaw26_Lines.tab6 : rtab .any (opsOf Try.f9 6) = cambiumlaw26_Lines.T6 := by kernel_rfl
theorem cambiumlaw26_Lines.bits6 : waitsOk cambiumlaw26_Lines.T6.2 cambiumlaw26_Lines.B6 = true := by kernel_rfl
set_option maxHeartbeats 8000000 in
set_option maxRecDepth 100000 in
theorem cambiumlaw26_Lines.calls (k : Nat) (A0 : Option Addr) (c0 : Nat) (l0 : List (S40)) (A1 : Option Addr) (c1 : Nat) (l1 : List (S40)) (r : Bool) (w : World) (hr0 : Kd.C k40 w A0 l0.length l0) (hc0 : l0.length ≤ c0) (hr1 : Kd.C k40 w A1 l1.length l1) (hc1 : l1.length ≤ c1) (h : cambiumlaw26_Lines.f k l0 l1 = some r) :
  Calls Try.prog 9 #[.slice A0 l0.length c0, .slice A1 l1.length c1] w fun e w' => e = .returned (.bool r) ∧ Below w.heap.size w w' := by
 have hu38 := Try.underlying38
 have HR0 := Aside0.mk hr0
 have HC0 := Aside0.mk hc0
 clear hr0 hc0
 have HR1 := Aside0.mk hr1
 have HC1 := Aside0.mk hc1
 clear hr1 hc1
 have HB := Aside0.mk (Below.refl w.heap.size w)
 have H : (if (l0.length : Int) = (l1.length : Int) then (cambiumlaw26_Lines.l0 k l0 l1 0) else (some false)) = some r := h
 clear h
 by_cases c3 : (l0.length : Int) = (l1.length : Int)
 rotate_left
 ·rw [if_neg c3] at H
  have c3b0 : ((l0.length : Int) == (l1.length : Int)) = false := beq_eq_false_iff_ne.mpr c3
  have c3b1 : ((l0.length : Int) != (l1.length : Int)) = true := bne_iff_ne.mpr c3
  have c3b2 : (l0.length == l1.length) = false := by first | simpa using c3 | (simp at c3 ⊢; omega)
  obtain rfl := Option.some.inj H
  go_enter Try.func9, Try.ntmps9
  go_wp2
  go_ret
  exact ⟨by first | rfl | (simp [errW_none, errW_some] <;> rfl) | (simp [*, errW_none, errW_some] <;> rfl), by repeat (first | (with_reducible first | exact HB.out | apply below_alloc | apply pw_below_drewN | apply below_drew1) | exact HB.out)⟩

 rw [if_pos c3] at H
 have c3b0 : ((l0.length : Int) == (l1.length : Int)) = true := beq_iff_eq.mpr c3
 have c3b1 : ((l0.length : Int) != (l1.length : Int)) = false := bne_eq_false_iff_eq.mpr c3
 have c3b2 : (l0.length == l1.length) = true := by first | simpa using c3 | (simp at c3 ⊢; omega)
 clear c3
 have H' := Aside0.mk H
 clear H
 go_enter Try.func9, Try.ntmps9
 go_wp2
 go_loopg [5] k (fun kq v5 w' => ∃ (x5_1 : Int), v5 = .int .i64 x5_1 ∧ Aside0 (cambiumlaw26_Lines.l0 kq l0 l1 x5_1 = some r) ∧ Aside0 (kq ≤ k) ∧ Aside0 (Below w.heap.size w w'))
 case atStart => exact ⟨(0), (by first | rfl | (simp; done) | (simp [*]; done)), H', ⟨Nat.le_refl _⟩, ⟨by repeat (first | (with_reducible first | exact HB.out | apply below_alloc | apply pw_below_drewN | apply below_drew1) | exact HB.out)⟩⟩
 case round =>
  clear H'
  try clear c1
  try clear p2
  try clear c3
  try clear c3b0
  try clear c3b1
  try clear c3b2
  obtain ⟨x5_1, rfl, HA, HK1, HB⟩ := hrel
  cases gk with
  | zero => exact absurd HA.out (by simp [cambiumlaw26_Lines.l0])
  | succ k1 =>
   have H := HA.out
   clear HA
   simp only [cambiumlaw26_Lines.l0] at H
   by_cases c4 : x5_1 < (l0.length : Int)
   rotate_left
   ·rw [if_neg c4] at H
    have c4b0 : decide (x5_1 < (l0.length : Int)) = false := decide_eq_false c4
    clear c4
    obtain rfl := Option.some.inj H
    go_wp2
    go_ret
    exact ⟨by first | rfl | (simp [errW_none, errW_some] <;> rfl) | (simp [*, errW_none, errW_some] <;> rfl), by repeat (first | (with_reducible first | exact HB.out | apply below_alloc | apply pw_below_drewN | apply below_drew1) | exact HB.out)⟩
   rw [if_pos c4] at H
   have c4b0 : decide (x5_1 < (l0.length : Int)) = true := decide_eq_true c4
   clear c4
   by_cases c5 : 0 ≤ x5_1
   rotate_left
   ·rw [if_neg c5] at H
    exact absurd H (by simp)
   rw [if_pos c5] at H
   have c5b0 : decide (0 ≤ x5_1) = true := decide_eq_true c5
   clear c5
   by_cases c6 : x5_1 < (l1.length : Int)
   rotate_left
   ·rw [if_neg c6] at H
    exact absurd H (by simp)
   rw [if_pos c6] at H
   have c6b0 : decide (x5_1 < (l1.length : Int)) = true := decide_eq_true c6
   clear c6
   replace H := Option.bind_eq_some_iff.mp H
   obtain ⟨t143, A70, H⟩ := H
   replace H : (if t143 = true then (if ((rd_T40 l0 x5_1).f1) = ((rd_T40 l1 x5_1).f1) then (if (((rd_T40 l0 x5_1).f2) != ((rd_T40 l1 x5_1).f2)) = true then (some false) else (cambiumlaw26_Lines.l0 k1 l0 l1 (wrap64 (x5_1 + 1)))) else (some false)) else (some false)) = some r := H
   have A7 := Aside0.mk A70
   clear A70
   by_cases c8 : t143 = true
   rotate_left
   ·replace c8 := Bool.eq_false_iff.mpr c8
    subst c8
    have H1 : (some false) = some r := by rw [if_neg (show ¬ (false = true) by decide)] at H; exact H
    clear H
    have H := H1
    clear H1
    obtain rfl := Option.some.inj H
    try go_wp2
    have n0_ := Aside0.mk (below_drew1 HB.out)
    clear HB
    have HB := n0_
    clear n0_
    have p141 : 0 ≤ (x5_1 : Int) := of_decide_eq_true q9y0
    have q141 : x5_1 < (l0.length : Int) := of_decide_eq_true q9y0
    obtain ⟨ad141, A141_8, c141_8, A141_9, c141_9, A141_10, c141_10, e141, hx141_0, hx141_1, hx141_2, hx141_3, hx141_4, hx141_5, hx141_6, hx141_7, hx141_8, hx141_9, hx141_10, hx141_11, hx141_12, hl141_8, hi141_8, hl141_9, hi141_9, hl141_10, hi141_10⟩ := at_T40 HR0.out x5_1 p141 q141
    have hw141_12 := hx141_12
    have hw141_11 := hx141_11
    have hw141_10 := hx141_10
    have hw141_9 := hx141_9
    have hw141_8 := hx141_8
    have hw141_7 := hx141_7
    have hw141_6 := hx141_6
    have hw141_5 := hx141_5
    have hw141_4 := hx141_4
    have hw141_3 := hx141_3
    have hw141_2 := hx141_2
    have hw141_1 := hx141_1
    have hw141_0 := hx141_0
    cases e141
    replace hx141_0 := (HB.out.cell (World.block_lt_of_cell? w _ hx141_0)).trans hx141_0
    replace hx141_1 := (HB.out.cell (World.block_lt_of_cell? w _ hx141_1)).trans hx141_1
    replace hx141_2 := (HB.out.cell (World.block_lt_of_cell? w _ hx141_2)).trans hx141_2
    replace hx141_3 := (HB.out.cell (World.block_lt_of_cell? w _ hx141_3)).trans hx141_3
    replace hx141_4 := (HB.out.cell (World.block_lt_of_cell? w _ hx141_4)).trans hx141_4
    replace hx141_5 := (HB.out.cell (World.block_lt_of_cell? w _ hx141_5)).trans hx141_5
    replace hx141_6 := (HB.out.cell (World.block_lt_of_cell? w _ hx141_6)).trans hx141_6
    replace hx141_7 := (HB.out.cell (World.block_lt_of_cell? w _ hx141_7)).trans hx141_7
    replace hx141_8 := (HB.out.cell (World.block_lt_of_cell? w _ hx141_8)).trans hx141_8
    replace hx141_9 := (HB.out.cell (World.block_lt_of_cell? w _ hx141_9)).trans hx141_9
    replace hx141_10 := (HB.out.cell (World.block_lt_of_cell? w _ hx141_10)).trans hx141_10
    replace hx141_11 := (HB.out.cell (World.block_lt_of_cell? w _ hx141_11)).trans hx141_11
    replace hx141_12 := (HB.out.cell (World.block_lt_of_cell? w _ hx141_12)).trans hx141_12
    have HR141_8 := Aside0.mk hi141_8
    have HC141_8 := Aside0.mk hl141_8
    clear hi141_8 hl141_8
    have HR141_9 := Aside0.mk hi141_9
    have HC141_9 := Aside0.mk hl141_9
    clear hi141_9 hl141_9
    have HR141_10 := Aside0.mk hi141_10
    have HC141_10 := Aside0.mk hl141_10
    clear hi141_10 hl141_10
    replace p141 := eq_true p141
    replace q141 := eq_true q141
    have p142 : 0 ≤ (x5_1 : Int) := of_decide_eq_true q9y0
    have q142 : x5_1 < (l1.length : Int) := of_decide_eq_true q9y0
    obtain ⟨ad142, A142_8, c142_8, A142_9, c142_9, A142_10, c142_10, e142, hx142_0, hx142_1, hx142_2, hx142_3, hx142_4, hx142_5, hx142_6, hx142_7, hx142_8, hx142_9, hx142_10, hx142_11, hx142_12, hl142_8, hi142_8, hl142_9, hi142_9, hl142_10, hi142_10⟩ := at_T40 HR1.out x5_1 p142 q142
    have hw142_12 := hx142_12
    have hw142_11 := hx142_11
    have hw142_10 := hx142_10
    have hw142_9 := hx142_9
    have hw142_8 := hx142_8
    have hw142_7 := hx142_7
    have hw142_6 := hx142_6
    have hw142_5 := hx142_5
    have hw142_4 := hx142_4
    have hw142_3 := hx142_3
    have hw142_2 := hx142_2
    have hw142_1 := hx142_1
    have hw142_0 := hx142_0
    cases e142
    replace hx142_0 := (HB.out.cell (World.block_lt_of_cell? w _ hx142_0)).trans hx142_0
    replace hx142_1 := (HB.out.cell (World.block_lt_of_cell? w _ hx142_1)).trans hx142_1
    replace hx142_2 := (HB.out.cell (World.block_lt_of_cell? w _ hx142_2)).trans hx142_2
    replace hx142_3 := (HB.out.cell (World.block_lt_of_cell? w _ hx142_3)).trans hx142_3
    replace hx142_4 := (HB.out.cell (World.block_lt_of_cell? w _ hx142_4)).trans hx142_4
    replace hx142_5 := (HB.out.cell (World.block_lt_of_cell? w _ hx142_5)).trans hx142_5
    replace hx142_6 := (HB.out.cell (World.block_lt_of_cell? w _ hx142_6)).trans hx142_6
    replace hx142_7 := (HB.out.cell (World.block_lt_of_cell? w _ hx142_7)).trans hx142_7
    replace hx142_8 := (HB.out.cell (World.block_lt_of_cell? w _ hx142_8)).trans hx142_8
    replace hx142_9 := (HB.out.cell (World.block_lt_of_cell? w _ hx142_9)).trans hx142_9
    replace hx142_10 := (HB.out.cell (World.block_lt_of_cell? w _ hx142_10)).trans hx142_10
    replace hx142_11 := (HB.out.cell (World.block_lt_of_cell? w _ hx142_11)).trans hx142_11
    replace hx142_12 := (HB.out.cell (World.block_lt_of_cell? w _ hx142_12)).trans hx142_12
    have HR142_8 := Aside0.mk hi142_8
    have HC142_8 := Aside0.mk hl142_8
    clear hi142_8 hl142_8
    have HR142_9 := Aside0.mk hi142_9
    have HC142_9 := Aside0.mk hl142_9
    clear hi142_9 hl142_9
    have HR142_10 := Aside0.mk hi142_10
    have HC142_10 := Aside0.mk hl142_10
    clear hi142_10 hl142_10
    replace p142 := eq_true p142
    replace q142 := eq_true q142
    as_aux_lemma =>
     refine start_ (n := 38) (S := fun w' => w'.cell? (ad141.add ((x5_1).toNat * 13)) = some (.int .u64 ((rd_T40 l0 x5_1).f0.f0)) ∧ w'.cell? ⟨(ad141.add ((x5_1).toNat * 13)).block, (ad141.add ((x5_1).toNat * 13)).off + 1, none⟩ = some (.int .u64 ((rd_T40 l0 x5_1).f0.f1)) ∧ w'.cell? ⟨(ad141.add ((x5_1).toNat * 13)).block, (ad141.add ((x5_1).toNat * 13)).off + 2, none⟩ = some (.int .u64 ((rd_T40 l0 x5_1).f0.f2)) ∧ w'.cell? ⟨(ad141.add ((x5_1).toNat * 13)).block, (ad141.add ((x5_1).toNat * 13)).off + 3, none⟩ = some (.string ((rd_T40 l0 x5_1).f0.f3)) ∧ w'.cell? ⟨(ad141.add ((x5_1).toNat * 13)).block, (ad141.add ((x5_1).toNat * 13)).off + 4, none⟩ = some (.string ((rd_T40 l0 x5_1).f0.f4)) ∧ w'.cell? ⟨(ad141.add ((x5_1).toNat * 13)).block, (ad141.add ((x5_1).toNat * 13)).off + 5, none⟩ = some (.int .i64 ((rd_T40 l0 x5_1).f0.f5)) ∧ w'.cell? ⟨(ad141.add ((x5_1).toNat * 13)).block, (ad141.add ((x5_1).toNat * 13)).off + 6, none⟩ = some (.int .i64 ((rd_T40 l0 x5_1).f0.f6)) ∧ w'.cell? ⟨(ad141.add ((x5_1).toNat * 13)).block, (ad141.add ((x5_1).toNat * 13)).off + 7, none⟩ = some (.int .i64 ((rd_T40 l0 x5_1).f0.f7)) ∧ w'.cell? ⟨(ad141.add ((x5_1).toNat * 13)).block, (ad141.add ((x5_1).toNat * 13)).off + 8, none⟩ = some (.slice A141_8 ((rd_T40 l0 x5_1).f0.f8).length c141_8) ∧ w'.cell? ⟨(ad141.add ((x5_1).toNat * 13)).block, (ad141.add ((x5_1).toNat * 13)).off + 9, none⟩ = some (.slice A141_9 ((rd_T40 l0 x5_1).f0.f9).length c141_9) ∧ w'.cell? ⟨(ad141.add ((x5_1).toNat * 13)).block, (ad141.add ((x5_1).toNat * 13)).off + 10, none⟩ = some (.slice A141_10 ((rd_T40 l0 x5_1).f0.f10).length c141_10) ∧ w'.cell? ⟨(ad141.add ((x5_1).toNat * 13)).block, (ad141.add ((x5_1).toNat * 13)).off + 11, none⟩ = some (.int .i64 ((rd_T40 l0 x5_1).f1)) ∧ w'.cell? ⟨(ad141.add ((x5_1).toNat * 13)).block, (ad141.add ((x5_1).toNat * 13)).off + 12, none⟩ = some (.bool ((rd_T40 l0 x5_1).f2)) ∧ w'.cell? (ad142.add ((x5_1).toNat * 13)) = some (.int .u64 ((rd_T40 l1 x5_1).f0.f0)) ∧ w'.cell? ⟨(ad142.add ((x5_1).toNat * 13)).block, (ad142.add ((x5_1).toNat * 13)).off + 1, none⟩ = some (.int .u64 ((rd_T40 l1 x5_1).f0.f1)) ∧ w'.cell? ⟨(ad142.add ((x5_1).toNat * 13)).block, (ad142.add ((x5_1).toNat * 13)).off + 2, none⟩ = some (.int .u64 ((rd_T40 l1 x5_1).f0.f2)) ∧ w'.cell? ⟨(ad142.add ((x5_1).toNat * 13)).block, (ad142.add ((x5_1).toNat * 13)).off + 3, none⟩ = some (.string ((rd_T40 l1 x5_1).f0.f3)) ∧ w'.cell? ⟨(ad142.add ((x5_1).toNat * 13)).block, (ad142.add ((x5_1).toNat * 13)).off + 4, none⟩ = some (.string ((rd_T40 l1 x5_1).f0.f4)) ∧ w'.cell? ⟨(ad142.add ((x5_1).toNat * 13)).block, (ad142.add ((x5_1).toNat * 13)).off + 5, none⟩ = some (.int .i64 ((rd_T40 l1 x5_1).f0.f5)) ∧ w'.cell? ⟨(ad142.add ((x5_1).toNat * 13)).block, (ad142.add ((x5_1).toNat * 13)).off + 6, none⟩ = some (.int .i64 ((rd_T40 l1 x5_1).f0.f6)) ∧ w'.cell? ⟨(ad142.add ((x5_1).toNat * 13)).block, (ad142.add ((x5_1).toNat * 13)).off + 7, none⟩ = some (.int .i64 ((rd_T40 l1 x5_1).f0.f7)) ∧ w'.cell? ⟨(ad142.add ((x5_1).toNat * 13)).block, (ad142.add ((x5_1).toNat * 13)).off + 8, none⟩ = some (.slice A142_8 ((rd_T40 l1 x5_1).f0.f8).length c142_8) ∧ w'.cell? ⟨(ad142.add ((x5_1).toNat * 13)).block, (ad142.add ((x5_1).toNat * 13)).off + 9, none⟩ = some (.slice A142_9 ((rd_T40 l1 x5_1).f0.f9).length c142_9) ∧ w'.cell? ⟨(ad142.add ((x5_1).toNat * 13)).block, (ad142.add ((x5_1).toNat * 13)).off + 10, none⟩ = some (.slice A142_10 ((rd_T40 l1 x5_1).f0.f10).length c142_10) ∧ w'.cell? ⟨(ad142.add ((x5_1).toNat * 13)).block, (ad142.add ((x5_1).toNat * 13)).off + 11, none⟩ = some (.int .i64 ((rd_T40 l1 x5_1).f1)) ∧ w'.cell? ⟨(ad142.add ((x5_1).toNat * 13)).block, (ad142.add ((x5_1).toNat * 13)).off + 12, none⟩ = some (.bool ((rd_T40 l1 x5_1).f2))) (ds := []) #[false, false, false, false, false, false, false, false, false, false, false, false, false, false, false, false, false, false, false, false, false, false, false, false, false, false, false, false, false, false, false, false, false, false, false, false, false, false] (by kernel_rfl) rfl rfl ⟨(q9h HB.out hw141_0:), (q9h HB.out hw141_1:), (q9h HB.out hw141_2:), (q9h HB.out hw141_3:), (q9h HB.out hw141_4:), (q9h HB.out hw141_5:), (q9h HB.out hw141_6:), (q9h HB.out hw141_7:), (q9h HB.out hw141_8:), (q9h HB.out hw141_9:), (q9h HB.out hw141_10:), (q9h HB.out hw141_11:), (q9h HB.out hw141_12:), (q9h HB.out hw142_0:), (q9h HB.out hw142_1:), (q9h HB.out hw142_2:), (q9h HB.out hw142_3:), (q9h HB.out hw142_4:), (q9h HB.out hw142_5:), (q9h HB.out hw142_6:), (q9h HB.out hw142_7:), (q9h HB.out hw142_8:), (q9h HB.out hw142_9:), (q9h HB.out hw142_10:), (q9h HB.out hw142_11:), (q9h HB.out hw142_12:)⟩ (fun hHeld => ?_); refine with_tabW cambiumlaw26_Lines.tab6 cambiumlaw26_Lines.bits6 (fun HT_ HW_ => ?_)
     generalize wr.drew = w17 at HB HR141_10 HR141_8 HR141_9 HR142_10 HR142_8 HR142_9 hx141_0 hx141_1 hx141_10 hx141_11 hx141_12 hx141_2 hx141_3 hx141_4 hx141_5 hx141_6 hx141_7 hx141_8 hx141_9 hx142_0 hx142_1 hx142_10 hx142_11 hx142_12 hx142_2 hx142_3 hx142_4 hx142_5 hx142_6 hx142_7 hx142_8 hx142_9 hHeld ⊢
     refine q9p (i := 0) (N := some 17) (q9m 38 1) HT_.out ?_
     refine q9p (i := 1) (N := some 18) (q9m 38 3) HT_.out ?_
     refine q9p (i := 2) (N := some 19) (q9m 38 7) HT_.out ?_
     refine q9p (i := 3) (N := some 20) (q9m 38 15) HT_.out ?_
     refine q9p (i := 5) (N := some 22) (q9m 38 47) HT_.out ?_
     refine q9p (i := 6) (N := some 23) (q9m 38 111) HT_.out ?_
     refine q9p (i := 7) (N := some 24) (q9m 38 239) HT_.out ?_
     refine q9p (i := 8) (N := some 25) (q9m 38 495) HT_.out ?_
     refine take_ (i := 4) (N := some 21) (v := ?_) (a' := ?_) (q9m 38 511) rfl rfl (take_ofW HT_.out HW_.out (by kernel_rfl)) (fun _ _ _ h => h) (Or.inl ⟨by rfl, ?_⟩) hHeld ?_ ?_; rotate_left; (rintro w' ⟨s0, s1, s2, s3, s4, s5, s6, s7, s8, s9, s10, s11, s12, s13, s14, s15, s16, s17, s18, s19, s20, s21, s22, s23, s24, s25⟩; go_simp; with_reducible rfl); rotate_left; (simp only [Act.put, q9a, q9b, q9c, i64_w, i32_w]; rfl)
     refine take_ (i := 9) (N := some 26) (v := ?_) (a' := ?_) (q9m 38 1023) rfl rfl (take_ofW HT_.out HW_.out (by kernel_rfl)) (fun _ _ _ h => h) (Or.inl ⟨by rfl, ?_⟩) hHeld ?_ ?_; rotate_left; (rintro w' ⟨s0, s1, s2, s3, s4, s5, s6, s7, s8, s9, s10, s11, s12, s13, s14, s15, s16, s17, s18, s19, s20, s21, s22, s23, s24, s25⟩; go_simp; with_reducible rfl); rotate_left; (simp only [Act.put, q9a, q9b, q9c, i64_w, i32_w]; rfl)
     refine one_ (i := 10) (N := some 27) (q9m 38 2047) rfl rfl (one_of HT_.out (by kernel_rfl)) (by decide) (fun K hK => ?_)
     refine goes_ Try.func20 (by kernel_rfl) rfl #[.agg #[.int .u64 ((rd_T40 l0 x5_1).f0.f0), .int .u64 ((rd_T40 l0 x5_1).f0.f1), .int .u64 ((rd_T40 l0 x5_1).f0.f2), .string ((rd_T40 l0 x5_1).f0.f3), .string ((rd_T40 l0 x5_1).f0.f4), .int .i64 ((rd_T40 l0 x5_1).f0.f5), .int .i64 ((rd_T40 l0 x5_1).f0.f6), .int .i64 ((rd_T40 l0 x5_1).f0.f7), .slice A141_8 ((rd_T40 l0 x5_1).f0.f8).length c141_8, .slice A141_9 ((rd_T40 l0 x5_1).f0.f9).length c141_9, .slice A141_10 ((rd_T40 l0 x5_1).f0.f10).length c141_10], .agg #[.int .u64 ((rd_T40 l1 x5_1).f0.f0), .int .u64 ((rd_T40 l1 x5_1).f0.f1), .int .u64 ((rd_T40 l1 x5_1).f0.f2), .string ((rd_T40 l1 x5_1).f0.f3), .string ((rd_T40 l1 x5_1).f0.f4), .int .i64 ((rd_T40 l1 x5_1).f0.f5), .int .i64 ((rd_T40 l1 x5_1).f0.f6), .int .i64 ((rd_T40 l1 x5_1).f0.f7), .slice A142_8 ((rd_T40 l1 x5_1).f0.f8).length c142_8, .slice A142_9 ((rd_T40 l1 x5_1).f0.f9).length c142_9, .slice A142_10 ((rd_T40 l1 x5_1).f0.f10).length c142_10]] (by rfl) rfl rfl q9y1 ?_
     with_reducible refine (cambiumref16_Same.calls k1 ((rd_T40 l0 x5_1).f0.f0) ((rd_T40 l0 x5_1).f0.f1) ((rd_T40 l0 x5_1).f0.f2) ((rd_T40 l0 x5_1).f0.f3) ((rd_T40 l0 x5_1).f0.f4) ((rd_T40 l0 x5_1).f0.f5) ((rd_T40 l0 x5_1).f0.f6) ((rd_T40 l0 x5_1).f0.f7) _ _ ((rd_T40 l0 x5_1).f0.f8) _ _ ((rd_T40 l0 x5_1).f0.f9) _ _ ((rd_T40 l0 x5_1).f0.f10) ((rd_T40 l1 x5_1).f0.f0) ((rd_T40 l1 x5_1).f0.f1) ((rd_T40 l1 x5_1).f0.f2) ((rd_T40 l1 x5_1).f0.f3) ((rd_T40 l1 x5_1).f0.f4) ((rd_T40 l1 x5_1).f0.f5) ((rd_T40 l1 x5_1).f0.f6) ((rd_T40 l1 x5_1).f0.f7) _ _ ((rd_T40 l1 x5_1).f0.f8) _ _ ((rd_T40 l1 x5_1).f0.f9) _ _ ((rd_T40 l1 x5_1).f0.f10) false _ ?side1 ?side2 ?side3 ?side4 ?side5 ?side6 ?side7 ?side8 ?side9 ?side10 ?side11 ?side12 A7.out).mono ?_
     (case side1 => repeat (first | exact (Kd.C_below HR141_8.out HB.out) | (with_reducible refine Kd.C_alloc ?_ _) | (with_reducible refine Kd.C_drewN ?_ _) | (with_reducible refine Kd.C_drew ?_)))
     (case side2 => exact HC141_8.out)
     (case side3 => repeat (first | exact (Kd.C_below HR141_9.out HB.out) | (with_reducible refine Kd.C_alloc ?_ _) | (with_reducible refine Kd.C_drewN ?_ _) | (with_reducible refine Kd.C_drew ?_)))
     (case side4 => exact HC141_9.out)
     (case side5 => repeat (first | exact (Kd.C_below HR141_10.out HB.out) | (with_reducible refine Kd.C_alloc ?_ _) | (with_reducible refine Kd.C_drewN ?_ _) | (with_reducible refine Kd.C_drew ?_)))
     (case side6 => exact HC141_10.out)
     (case side7 => repeat (first | exact (Kd.C_below HR142_8.out HB.out) | (with_reducible refine Kd.C_alloc ?_ _) | (with_reducible refine Kd.C_drewN ?_ _) | (with_reducible refine Kd.C_drew ?_)))
     (case side8 => exact HC142_8.out)
     (case side9 => repeat (first | exact (Kd.C_below HR142_9.out HB.out) | (with_reducible refine Kd.C_alloc ?_ _) | (with_reducible refine Kd.C_drewN ?_ _) | (with_reducible refine Kd.C_drew ?_)))
     (case side10 => exact HC142_9.out)
     (case side11 => repeat (first | exact (Kd.C_below HR142_10.out HB.out) | (with_reducible refine Kd.C_alloc ?_ _) | (with_reducible refine Kd.C_drewN ?_ _) | (with_reducible refine Kd.C_drew ?_)))
     (case side12 => exact HC142_10.out)
     rintro e w18 ⟨rfl, hb⟩
     refine ⟨_, rfl, ?_⟩
     have n0_ := Aside0.mk (below_step q9y2 hb)
     clear HB
     have HB := n0_
     clear n0_
     (try clear hb)
     (try clear hb2)
     (try clear hk)
     (try clear hi)
     refine hK.out _ _ ⟨(q9h HB.out hw141_0:), (q9h HB.out hw141_1:), (q9h HB.out hw141_2:), (q9h HB.out hw141_3:), (q9h HB.out hw141_4:), (q9h HB.out hw141_5:), (q9h HB.out hw141_6:), (q9h HB.out hw141_7:), (q9h HB.out hw141_8:), (q9h HB.out hw141_9:), (q9h HB.out hw141_10:), (q9h HB.out hw141_11:), (q9h HB.out hw141_12:), (q9h HB.out hw142_0:), (q9h HB.out hw142_1:), (q9h HB.out hw142_2:), (q9h HB.out hw142_3:), (q9h HB.out hw142_4:), (q9h HB.out hw142_5:), (q9h HB.out hw142_6:), (q9h HB.out hw142_7:), (q9h HB.out hw142_8:), (q9h HB.out hw142_9:), (q9h HB.out hw142_10:), (q9h HB.out hw142_11:), (q9h HB.out hw142_12:)⟩ (fun hHeld => ?_)
     clear hK K
     refine norm_ (a' := ?_) ?_ ?_
     rotate_left
     ·show Act.put _ (some 27) _ = _
      simp only [Act.put, q9a, q9b, q9c, i64_w, i32_w]
      rfl
     refine q9p (i := 11) (N := some 28) (q9m 38 4095) HT_.out ?_
     refine q9p (i := 12) (N := some 29) (q9m 38 8191) HT_.out ?_
     refine q9u (i := 13) (N := some 30) (q9m 38 16383) HT_.out ?_
     refine q9u (i := 14) (N := some 31) (q9m 38 32767) HT_.out ?_
     refine q9u (i := 15) (N := some 32) (q9m 38 65535) HT_.out ?_
     refine q9u (i := 16) (N := some 33) (q9m 38 131071) HT_.out ?_
     refine q9u (i := 17) (N := some 34) (q9m 38 262143) HT_.out ?_
     refine q9u (i := 18) (N := some 35) (q9m 38 524287) HT_.out ?_
     refine q9u (i := 19) (N := some 36) (q9m 38 1048575) HT_.out ?_
     refine q9u (i := 20) (N := some 37) (q9m 38 2097151) HT_.out ?_
     refine q9u (i := 21) (N := some 38) (q9m 38 4194303) HT_.out ?_
     refine q9u (i := 22) (N := some 39) (q9m 38 8388607) HT_.out ?_
     refine q9u (i := 23) (N := some 40) (q9m 38 16777215) HT_.out ?_
     refine q9p (i := 24) (N := some 41) (q9m 38 33554431) HT_.out ?_
     refine q9p (i := 25) (N := some 42) (q9m 38 67108863) HT_.out ?_
     refine q9u (i := 26) (N := some 43) (q9m 38 134217727) HT_.out ?_
     refine q9u (i := 27) (N := some 44) (q9m 38 268435455) HT_.out ?_
     refine q9u (i := 28) (N := some 45) (q9m 38 536870911) HT_.out ?_
     refine q9u (i := 29) (N := some 46) (q9m 38 1073741823) HT_.out ?_
     refine q9u (i := 30) (N := some 47) (q9m 38 2147483647) HT_.out ?_
     refine q9u (i := 31) (N := some 48) (q9m 38 4294967295) HT_.out ?_
     refine q9u (i := 32) (N := some 49) (q9m 38 8589934591) HT_.out ?_
     refine q9u (i := 33) (N := some 50) (q9m 38 17179869183) HT_.out ?_
     refine q9u (i := 34) (N := some 51) (q9m 38 34359738367) HT_.out ?_
     refine q9u (i := 35) (N := some 52) (q9m 38 68719476735) HT_.out ?_
     refine q9u (i := 36) (N := some 53) (q9m 38 137438953471) HT_.out ?_
     refine q9p (i := 37) (N := some 54) (q9m 38 274877906943) HT_.out ?_
     refine done_ (done_of HT_.out (by kernel_rfl)) ?_
     try go_wp2
     go_ret
     exact ⟨by first | rfl | (simp [errW_none, errW_some] <;> rfl) | (simp [*, errW_none, errW_some] <;> rfl), by repeat (first | (with_reducible first | exact HB.out | apply below_alloc | apply pw_below_drewN | apply below_drew1) | exact HB.out)⟩
   subst c8
   have H1 : (if ((rd_T40 l0 x5_1).f1) = ((rd_T40 l1 x5_1).f1) then (if (((rd_T40 l0 x5_1).f2) != ((rd_T40 l1 x5_1).f2)) = true then (some false) else (cambiumlaw26_Lines.l0 k1 l0 l1 (wrap64 (x5_1 + 1)))) else (some false)) = some r := by rw [if_pos rfl] at H; exact H
   clear H
   have H := H1
   clear H1
   by_cases c9 : ((rd_T40 l0 x5_1).f1) = ((rd_T40 l1 x5_1).f1)
   rotate_left
   ·rw [if_neg c9] at H
    have c9b0 : (((rd_T40 l0 x5_1).f1) == ((rd_T40 l1 x5_1).f1)) = false := beq_eq_false_iff_ne.mpr c9
    have c9b1 : (((rd_T40 l0 x5_1).f1) != ((rd_T40 l1 x5_1).f1)) = true := bne_iff_ne.mpr c9
    obtain rfl := Option.some.inj H
    try go_wp2
    have n0_ := Aside0.mk (below_drew1 HB.out)
    clear HB
    have HB := n0_
    clear n0_
    have p141 : 0 ≤ (x5_1 : Int) := of_decide_eq_true q9y0
    have q141 : x5_1 < (l0.length : Int) := of_decide_eq_true q9y0
    obtain ⟨ad141, A141_8, c141_8, A141_9, c141_9, A141_10, c141_10, e141, hx141_0, hx141_1, hx141_2, hx141_3, hx141_4, hx141_5, hx141_6, hx141_7, hx141_8, hx141_9, hx141_10, hx141_11, hx141_12, hl141_8, hi141_8, hl141_9, hi141_9, hl141_10, hi141_10⟩ := at_T40 HR0.out x5_1 p141 q141
    have hw141_12 := hx141_12
    have hw141_11 := hx141_11
    have hw141_10 := hx141_10
    have hw141_9 := hx141_9
    have hw141_8 := hx141_8
    have hw141_7 := hx141_7
    have hw141_6 := hx141_6
    have hw141_5 := hx141_5
    have hw141_4 := hx141_4
    have hw141_3 := hx141_3
    have hw141_2 := hx141_2
    have hw141_1 := hx141_1
    have hw141_0 := hx141_0
    cases e141
    replace hx141_0 := (HB.out.cell (World.block_lt_of_cell? w _ hx141_0)).trans hx141_0
    replace hx141_1 := (HB.out.cell (World.block_lt_of_cell? w _ hx141_1)).trans hx141_1
    replace hx141_2 := (HB.out.cell (World.block_lt_of_cell? w _ hx141_2)).trans hx141_2
    replace hx141_3 := (HB.out.cell (World.block_lt_of_cell? w _ hx141_3)).trans hx141_3
    replace hx141_4 := (HB.out.cell (World.block_lt_of_cell? w _ hx141_4)).trans hx141_4
    replace hx141_5 := (HB.out.cell (World.block_lt_of_cell? w _ hx141_5)).trans hx141_5
    replace hx141_6 := (HB.out.cell (World.block_lt_of_cell? w _ hx141_6)).trans hx141_6
    replace hx141_7 := (HB.out.cell (World.block_lt_of_cell? w _ hx141_7)).trans hx141_7
    replace hx141_8 := (HB.out.cell (World.block_lt_of_cell? w _ hx141_8)).trans hx141_8
    replace hx141_9 := (HB.out.cell (World.block_lt_of_cell? w _ hx141_9)).trans hx141_9
    replace hx141_10 := (HB.out.cell (World.block_lt_of_cell? w _ hx141_10)).trans hx141_10
    replace hx141_11 := (HB.out.cell (World.block_lt_of_cell? w _ hx141_11)).trans hx141_11
    replace hx141_12 := (HB.out.cell (World.block_lt_of_cell? w _ hx141_12)).trans hx141_12
    have HR141_8 := Aside0.mk hi141_8
    have HC141_8 := Aside0.mk hl141_8
    clear hi141_8 hl141_8
    have HR141_9 := Aside0.mk hi141_9
    have HC141_9 := Aside0.mk hl141_9
    clear hi141_9 hl141_9
    have HR141_10 := Aside0.mk hi141_10
    have HC141_10 := Aside0.mk hl141_10
    clear hi141_10 hl141_10
    replace p141 := eq_true p141
    replace q141 := eq_true q141
    have p142 : 0 ≤ (x5_1 : Int) := of_decide_eq_true q9y0
    have q142 : x5_1 < (l1.length : Int) := of_decide_eq_true q9y0
    obtain ⟨ad142, A142_8, c142_8, A142_9, c142_9, A142_10, c142_10, e142, hx142_0, hx142_1, hx142_2, hx142_3, hx142_4, hx142_5, hx142_6, hx142_7, hx142_8, hx142_9, hx142_10, hx142_11, hx142_12, hl142_8, hi142_8, hl142_9, hi142_9, hl142_10, hi142_10⟩ := at_T40 HR1.out x5_1 p142 q142
    have hw142_12 := hx142_12
    have hw142_11 := hx142_11
    have hw142_10 := hx142_10
    have hw142_9 := hx142_9
    have hw142_8 := hx142_8
    have hw142_7 := hx142_7
    have hw142_6 := hx142_6
    have hw142_5 := hx142_5
    have hw142_4 := hx142_4
    have hw142_3 := hx142_3
    have hw142_2 := hx142_2
    have hw142_1 := hx142_1
    have hw142_0 := hx142_0
    cases e142
    replace hx142_0 := (HB.out.cell (World.block_lt_of_cell? w _ hx142_0)).trans hx142_0
    replace hx142_1 := (HB.out.cell (World.block_lt_of_cell? w _ hx142_1)).trans hx142_1
    replace hx142_2 := (HB.out.cell (World.block_lt_of_cell? w _ hx142_2)).trans hx142_2
    replace hx142_3 := (HB.out.cell (World.block_lt_of_cell? w _ hx142_3)).trans hx142_3
    replace hx142_4 := (HB.out.cell (World.block_lt_of_cell? w _ hx142_4)).trans hx142_4
    replace hx142_5 := (HB.out.cell (World.block_lt_of_cell? w _ hx142_5)).trans hx142_5
    replace hx142_6 := (HB.out.cell (World.block_lt_of_cell? w _ hx142_6)).trans hx142_6
    replace hx142_7 := (HB.out.cell (World.block_lt_of_cell? w _ hx142_7)).trans hx142_7
    replace hx142_8 := (HB.out.cell (World.block_lt_of_cell? w _ hx142_8)).trans hx142_8
    replace hx142_9 := (HB.out.cell (World.block_lt_of_cell? w _ hx142_9)).trans hx142_9
    replace hx142_10 := (HB.out.cell (World.block_lt_of_cell? w _ hx142_10)).trans hx142_10
    replace hx142_11 := (HB.out.cell (World.block_lt_of_cell? w _ hx142_11)).trans hx142_11
    replace hx142_12 := (HB.out.cell (World.block_lt_of_cell? w _ hx142_12)).trans hx142_12
    have HR142_8 := Aside0.mk hi142_8
    have HC142_8 := Aside0.mk hl142_8
    clear hi142_8 hl142_8
    have HR142_9 := Aside0.mk hi142_9
    have HC142_9 := Aside0.mk hl142_9
    clear hi142_9 hl142_9
    have HR142_10 := Aside0.mk hi142_10
    have HC142_10 := Aside0.mk hl142_10
    clear hi142_10 hl142_10
    replace p142 := eq_true p142
    replace q142 := eq_true q142
    have p144 : 0 ≤ (x5_1 : Int) := of_decide_eq_true q9y0
    have q144 : x5_1 < (l0.length : Int) := of_decide_eq_true q9y0
    obtain ⟨ad144, A144_8, c144_8, A144_9, c144_9, A144_10, c144_10, e144, hx144_0, hx144_1, hx144_2, hx144_3, hx144_4, hx144_5, hx144_6, hx144_7, hx144_8, hx144_9, hx144_10, hx144_11, hx144_12, hl144_8, hi144_8, hl144_9, hi144_9, hl144_10, hi144_10⟩ := at_T40 HR0.out x5_1 p144 q144
    have hw144_12 := hx144_12
    have hw144_11 := hx144_11
    have hw144_10 := hx144_10
    have hw144_9 := hx144_9
    have hw144_8 := hx144_8
    have hw144_7 := hx144_7
    have hw144_6 := hx144_6
    have hw144_5 := hx144_5
    have hw144_4 := hx144_4
    have hw144_3 := hx144_3
    have hw144_2 := hx144_2
    have hw144_1 := hx144_1
    have hw144_0 := hx144_0
    obtain rfl : ad141 = ad144 := (by injection e144)
    replace hx144_0 := (HB.out.cell (World.block_lt_of_cell? w _ hx144_0)).trans hx144_0
    replace hx144_1 := (HB.out.cell (World.block_lt_of_cell? w _ hx144_1)).trans hx144_1
    replace hx144_2 := (HB.out.cell (World.block_lt_of_cell? w _ hx144_2)).trans hx144_2
    replace hx144_3 := (HB.out.cell (World.block_lt_of_cell? w _ hx144_3)).trans hx144_3
    replace hx144_4 := (HB.out.cell (World.block_lt_of_cell? w _ hx144_4)).trans hx144_4
    replace hx144_5 := (HB.out.cell (World.block_lt_of_cell? w _ hx144_5)).trans hx144_5
    replace hx144_6 := (HB.out.cell (World.block_lt_of_cell? w _ hx144_6)).trans hx144_6
    replace hx144_7 := (HB.out.cell (World.block_lt_of_cell? w _ hx144_7)).trans hx144_7
    replace hx144_8 := (HB.out.cell (World.block_lt_of_cell? w _ hx144_8)).trans hx144_8
    replace hx144_9 := (HB.out.cell (World.block_lt_of_cell? w _ hx144_9)).trans hx144_9
    replace hx144_10 := (HB.out.cell (World.block_lt_of_cell? w _ hx144_10)).trans hx144_10
    replace hx144_11 := (HB.out.cell (World.block_lt_of_cell? w _ hx144_11)).trans hx144_11
    replace hx144_12 := (HB.out.cell (World.block_lt_of_cell? w _ hx144_12)).trans hx144_12
    have HR144_8 := Aside0.mk hi144_8
    have HC144_8 := Aside0.mk hl144_8
    clear hi144_8 hl144_8
    have HR144_9 := Aside0.mk hi144_9
    have HC144_9 := Aside0.mk hl144_9
    clear hi144_9 hl144_9
    have HR144_10 := Aside0.mk hi144_10
    have HC144_10 := Aside0.mk hl144_10
    clear hi144_10 hl144_10
    replace p144 := eq_true p144
    replace q144 := eq_true q144
    have p145 : 0 ≤ (x5_1 : Int) := of_decide_eq_true q9y0
    have q145 : x5_1 < (l1.length : Int) := of_decide_eq_true q9y0
    obtain ⟨ad145, A145_8, c145_8, A145_9, c145_9, A145_10, c145_10, e145, hx145_0, hx145_1, hx145_2, hx145_3, hx145_4, hx145_5, hx145_6, hx145_7, hx145_8, hx145_9, hx145_10, hx145_11, hx145_12, hl145_8, hi145_8, hl145_9, hi145_9, hl145_10, hi145_10⟩ := at_T40 HR1.out x5_1 p145 q145
    have hw145_12 := hx145_12
    have hw145_11 := hx145_11
    have hw145_10 := hx145_10
    have hw145_9 := hx145_9
    have hw145_8 := hx145_8
    have hw145_7 := hx145_7
    have hw145_6 := hx145_6
    have hw145_5 := hx145_5
    have hw145_4 := hx145_4
    have hw145_3 := hx145_3
    have hw145_2 := hx145_2
    have hw145_1 := hx145_1
    have hw145_0 := hx145_0
    obtain rfl : ad142 = ad145 := (by injection e145)
    replace hx145_0 := (HB.out.cell (World.block_lt_of_cell? w _ hx145_0)).trans hx145_0
    replace hx145_1 := (HB.out.cell (World.block_lt_of_cell? w _ hx145_1)).trans hx145_1
    replace hx145_2 := (HB.out.cell (World.block_lt_of_cell? w _ hx145_2)).trans hx145_2
    replace hx145_3 := (HB.out.cell (World.block_lt_of_cell? w _ hx145_3)).trans hx145_3
    replace hx145_4 := (HB.out.cell (World.block_lt_of_cell? w _ hx145_4)).trans hx145_4
    replace hx145_5 := (HB.out.cell (World.block_lt_of_cell? w _ hx145_5)).trans hx145_5
    replace hx145_6 := (HB.out.cell (World.block_lt_of_cell? w _ hx145_6)).trans hx145_6
    replace hx145_7 := (HB.out.cell (World.block_lt_of_cell? w _ hx145_7)).trans hx145_7
    replace hx145_8 := (HB.out.cell (World.block_lt_of_cell? w _ hx145_8)).trans hx145_8
    replace hx145_9 := (HB.out.cell (World.block_lt_of_cell? w _ hx145_9)).trans hx145_9
    replace hx145_10 := (HB.out.cell (World.block_lt_of_cell? w _ hx145_10)).trans hx145_10
    replace hx145_11 := (HB.out.cell (World.block_lt_of_cell? w _ hx145_11)).trans hx145_11
    replace hx145_12 := (HB.out.cell (World.block_lt_of_cell? w _ hx145_12)).trans hx145_12
    have HR145_8 := Aside0.mk hi145_8
    have HC145_8 := Aside0.mk hl145_8
    clear hi145_8 hl145_8
    have HR145_9 := Aside0.mk hi145_9
    have HC145_9 := Aside0.mk hl145_9
    clear hi145_9 hl145_9
    have HR145_10 := Aside0.mk hi145_10
    have HC145_10 := Aside0.mk hl145_10
    clear hi145_10 hl145_10
    replace p145 := eq_true p145
    replace q145 := eq_true q145
    as_aux_lemma =>
     refine start_ (n := 38) (S := fun w' => w'.cell? (ad141.add ((x5_1).toNat * 13)) = some (.int .u64 ((rd_T40 l0 x5_1).f0.f0)) ∧ w'.cell? ⟨(ad141.add ((x5_1).toNat * 13)).block, (ad141.add ((x5_1).toNat * 13)).off + 1, none⟩ = some (.int .u64 ((rd_T40 l0 x5_1).f0.f1)) ∧ w'.cell? ⟨(ad141.add ((x5_1).toNat * 13)).block, (ad141.add ((x5_1).toNat * 13)).off + 2, none⟩ = some (.int .u64 ((rd_T40 l0 x5_1).f0.f2)) ∧ w'.cell? ⟨(ad141.add ((x5_1).toNat * 13)).block, (ad141.add ((x5_1).toNat * 13)).off + 3, none⟩ = some (.string ((rd_T40 l0 x5_1).f0.f3)) ∧ w'.cell? ⟨(ad141.add ((x5_1).toNat * 13)).block, (ad141.add ((x5_1).toNat * 13)).off + 4, none⟩ = some (.string ((rd_T40 l0 x5_1).f0.f4)) ∧ w'.cell? ⟨(ad141.add ((x5_1).toNat * 13)).block, (ad141.add ((x5_1).toNat * 13)).off + 5, none⟩ = some (.int .i64 ((rd_T40 l0 x5_1).f0.f5)) ∧ w'.cell? ⟨(ad141.add ((x5_1).toNat * 13)).block, (ad141.add ((x5_1).toNat * 13)).off + 6, none⟩ = some (.int .i64 ((rd_T40 l0 x5_1).f0.f6)) ∧ w'.cell? ⟨(ad141.add ((x5_1).toNat * 13)).block, (ad141.add ((x5_1).toNat * 13)).off + 7, none⟩ = some (.int .i64 ((rd_T40 l0 x5_1).f0.f7)) ∧ w'.cell? ⟨(ad141.add ((x5_1).toNat * 13)).block, (ad141.add ((x5_1).toNat * 13)).off + 8, none⟩ = some (.slice A141_8 ((rd_T40 l0 x5_1).f0.f8).length c141_8) ∧ w'.cell? ⟨(ad141.add ((x5_1).toNat * 13)).block, (ad141.add ((x5_1).toNat * 13)).off + 9, none⟩ = some (.slice A141_9 ((rd_T40 l0 x5_1).f0.f9).length c141_9) ∧ w'.cell? ⟨(ad141.add ((x5_1).toNat * 13)).block, (ad141.add ((x5_1).toNat * 13)).off + 10, none⟩ = some (.slice A141_10 ((rd_T40 l0 x5_1).f0.f10).length c141_10) ∧ w'.cell? ⟨(ad141.add ((x5_1).toNat * 13)).block, (ad141.add ((x5_1).toNat * 13)).off + 11, none⟩ = some (.int .i64 ((rd_T40 l0 x5_1).f1)) ∧ w'.cell? ⟨(ad141.add ((x5_1).toNat * 13)).block, (ad141.add ((x5_1).toNat * 13)).off + 12, none⟩ = some (.bool ((rd_T40 l0 x5_1).f2)) ∧ w'.cell? (ad142.add ((x5_1).toNat * 13)) = some (.int .u64 ((rd_T40 l1 x5_1).f0.f0)) ∧ w'.cell? ⟨(ad142.add ((x5_1).toNat * 13)).block, (ad142.add ((x5_1).toNat * 13)).off + 1, none⟩ = some (.int .u64 ((rd_T40 l1 x5_1).f0.f1)) ∧ w'.cell? ⟨(ad142.add ((x5_1).toNat * 13)).block, (ad142.add ((x5_1).toNat * 13)).off + 2, none⟩ = some (.int .u64 ((rd_T40 l1 x5_1).f0.f2)) ∧ w'.cell? ⟨(ad142.add ((x5_1).toNat * 13)).block, (ad142.add ((x5_1).toNat * 13)).off + 3, none⟩ = some (.string ((rd_T40 l1 x5_1).f0.f3)) ∧ w'.cell? ⟨(ad142.add ((x5_1).toNat * 13)).block, (ad142.add ((x5_1).toNat * 13)).off + 4, none⟩ = some (.string ((rd_T40 l1 x5_1).f0.f4)) ∧ w'.cell? ⟨(ad142.add ((x5_1).toNat * 13)).block, (ad142.add ((x5_1).toNat * 13)).off + 5, none⟩ = some (.int .i64 ((rd_T40 l1 x5_1).f0.f5)) ∧ w'.cell? ⟨(ad142.add ((x5_1).toNat * 13)).block, (ad142.add ((x5_1).toNat * 13)).off + 6, none⟩ = some (.int .i64 ((rd_T40 l1 x5_1).f0.f6)) ∧ w'.cell? ⟨(ad142.add ((x5_1).toNat * 13)).block, (ad142.add ((x5_1).toNat * 13)).off + 7, none⟩ = some (.int .i64 ((rd_T40 l1 x5_1).f0.f7)) ∧ w'.cell? ⟨(ad142.add ((x5_1).toNat * 13)).block, (ad142.add ((x5_1).toNat * 13)).off + 8, none⟩ = some (.slice A142_8 ((rd_T40 l1 x5_1).f0.f8).length c142_8) ∧ w'.cell? ⟨(ad142.add ((x5_1).toNat * 13)).block, (ad142.add ((x5_1).toNat * 13)).off + 9, none⟩ = some (.slice A142_9 ((rd_T40 l1 x5_1).f0.f9).length c142_9) ∧ w'.cell? ⟨(ad142.add ((x5_1).toNat * 13)).block, (ad142.add ((x5_1).toNat * 13)).off + 10, none⟩ = some (.slice A142_10 ((rd_T40 l1 x5_1).f0.f10).length c142_10) ∧ w'.cell? ⟨(ad142.add ((x5_1).toNat * 13)).block, (ad142.add ((x5_1).toNat * 13)).off + 11, none⟩ = some (.int .i64 ((rd_T40 l1 x5_1).f1)) ∧ w'.cell? ⟨(ad142.add ((x5_1).toNat * 13)).block, (ad142.add ((x5_1).toNat * 13)).off + 12, none⟩ = some (.bool ((rd_T40 l1 x5_1).f2)) ∧ w'.cell? (ad141.add ((x5_1).toNat * 13)) = some (.int .u64 ((rd_T40 l0 x5_1).f0.f0)) ∧ w'.cell? ⟨(ad141.add ((x5_1).toNat * 13)).block, (ad141.add ((x5_1).toNat * 13)).off + 1, none⟩ = some (.int .u64 ((rd_T40 l0 x5_1).f0.f1)) ∧ w'.cell? ⟨(ad141.add ((x5_1).toNat * 13)).block, (ad141.add ((x5_1).toNat * 13)).off + 2, none⟩ = some (.int .u64 ((rd_T40 l0 x5_1).f0.f2)) ∧ w'.cell? ⟨(ad141.add ((x5_1).toNat * 13)).block, (ad141.add ((x5_1).toNat * 13)).off + 3, none⟩ = some (.string ((rd_T40 l0 x5_1).f0.f3)) ∧ w'.cell? ⟨(ad141.add ((x5_1).toNat * 13)).block, (ad141.add ((x5_1).toNat * 13)).off + 4, none⟩ = some (.string ((rd_T40 l0 x5_1).f0.f4)) ∧ w'.cell? ⟨(ad141.add ((x5_1).toNat * 13)).block, (ad141.add ((x5_1).toNat * 13)).off + 5, none⟩ = some (.int .i64 ((rd_T40 l0 x5_1).f0.f5)) ∧ w'.cell? ⟨(ad141.add ((x5_1).toNat * 13)).block, (ad141.add ((x5_1).toNat * 13)).off + 6, none⟩ = some (.int .i64 ((rd_T40 l0 x5_1).f0.f6)) ∧ w'.cell? ⟨(ad141.add ((x5_1).toNat * 13)).block, (ad141.add ((x5_1).toNat * 13)).off + 7, none⟩ = some (.int .i64 ((rd_T40 l0 x5_1).f0.f7)) ∧ w'.cell? ⟨(ad141.add ((x5_1).toNat * 13)).block, (ad141.add ((x5_1).toNat * 13)).off + 8, none⟩ = some (.slice A144_8 ((rd_T40 l0 x5_1).f0.f8).length c144_8) ∧ w'.cell? ⟨(ad141.add ((x5_1).toNat * 13)).block, (ad141.add ((x5_1).toNat * 13)).off + 9, none⟩ = some (.slice A144_9 ((rd_T40 l0 x5_1).f0.f9).length c144_9) ∧ w'.cell? ⟨(ad141.add ((x5_1).toNat * 13)).block, (ad141.add ((x5_1).toNat * 13)).off + 10, none⟩ = some (.slice A144_10 ((rd_T40 l0 x5_1).f0.f10).length c144_10) ∧ w'.cell? ⟨(ad141.add ((x5_1).toNat * 13)).block, (ad141.add ((x5_1).toNat * 13)).off + 11, none⟩ = some (.int .i64 ((rd_T40 l0 x5_1).f1)) ∧ w'.cell? ⟨(ad141.add ((x5_1).toNat * 13)).block, (ad141.add ((x5_1).toNat * 13)).off + 12, none⟩ = some (.bool ((rd_T40 l0 x5_1).f2)) ∧ w'.cell? (ad142.add ((x5_1).toNat * 13)) = some (.int .u64 ((rd_T40 l1 x5_1).f0.f0)) ∧ w'.cell? ⟨(ad142.add ((x5_1).toNat * 13)).block, (ad142.add ((x5_1).toNat * 13)).off + 1, none⟩ = some (.int .u64 ((rd_T40 l1 x5_1).f0.f1)) ∧ w'.cell? ⟨(ad142.add ((x5_1).toNat * 13)).block, (ad142.add ((x5_1).toNat * 13)).off + 2, none⟩ = some (.int .u64 ((rd_T40 l1 x5_1).f0.f2)) ∧ w'.cell? ⟨(ad142.add ((x5_1).toNat * 13)).block, (ad142.add ((x5_1).toNat * 13)).off + 3, none⟩ = some (.string ((rd_T40 l1 x5_1).f0.f3)) ∧ w'.cell? ⟨(ad142.add ((x5_1).toNat * 13)).block, (ad142.add ((x5_1).toNat * 13)).off + 4, none⟩ = some (.string ((rd_T40 l1 x5_1).f0.f4)) ∧ w'.cell? ⟨(ad142.add ((x5_1).toNat * 13)).block, (ad142.add ((x5_1).toNat * 13)).off + 5, none⟩ = some (.int .i64 ((rd_T40 l1 x5_1).f0.f5)) ∧ w'.cell? ⟨(ad142.add ((x5_1).toNat * 13)).block, (ad142.add ((x5_1).toNat * 13)).off + 6, none⟩ = some (.int .i64 ((rd_T40 l1 x5_1).f0.f6)) ∧ w'.cell? ⟨(ad142.add ((x5_1).toNat * 13)).block, (ad142.add ((x5_1).toNat * 13)).off + 7, none⟩ = some (.int .i64 ((rd_T40 l1 x5_1).f0.f7)) ∧ w'.cell? ⟨(ad142.add ((x5_1).toNat * 13)).block, (ad142.add ((x5_1).toNat * 13)).off + 8, none⟩ = some (.slice A145_8 ((rd_T40 l1 x5_1).f0.f8).length c145_8) ∧ w'.cell? ⟨(ad142.add ((x5_1).toNat * 13)).block, (ad142.add ((x5_1).toNat * 13)).off + 9, none⟩ = some (.slice A145_9 ((rd_T40 l1 x5_1).f0.f9).length c145_9) ∧ w'.cell? ⟨(ad142.add ((x5_1).toNat * 13)).block, (ad142.add ((x5_1).toNat * 13)).off + 10, none⟩ = some (.slice A145_10 ((rd_T40 l1 x5_1).f0.f10).length c145_10) ∧ w'.cell? ⟨(ad142.add ((x5_1).toNat * 13)).block, (ad142.add ((x5_1).toNat * 13)).off + 11, none⟩ = some (.int .i64 ((rd_T40 l1 x5_1).f1)) ∧ w'.cell? ⟨(ad142.add ((x5_1).toNat * 13)).block, (ad142.add ((x5_1).toNat * 13)).off + 12, none⟩ = some (.bool ((rd_T40 l1 x5_1).f2))) (ds := []) #[false, false, false, false, false, false, false, false, false, false, false, false, false, false, false, false, false, false, false, false, false, false, false, false, false, false, false, false, false, false, false, false, false, false, false, false, false, false] (by kernel_rfl) rfl rfl ⟨(q9h HB.out hw141_0:), (q9h HB.out hw141_1:), (q9h HB.out hw141_2:), (q9h HB.out hw141_3:), (q9h HB.out hw141_4:), (q9h HB.out hw141_5:), (q9h HB.out hw141_6:), (q9h HB.out hw141_7:), (q9h HB.out hw141_8:), (q9h HB.out hw141_9:), (q9h HB.out hw141_10:), (q9h HB.out hw141_11:), (q9h HB.out hw141_12:), (q9h HB.out hw142_0:), (q9h HB.out hw142_1:), (q9h HB.out hw142_2:), (q9h HB.out hw142_3:), (q9h HB.out hw142_4:), (q9h HB.out hw142_5:), (q9h HB.out hw142_6:), (q9h HB.out hw142_7:), (q9h HB.out hw142_8:), (q9h HB.out hw142_9:), (q9h HB.out hw142_10:), (q9h HB.out hw142_11:), (q9h HB.out hw142_12:), (q9h HB.out hw144_0:), (q9h HB.out hw144_1:), (q9h HB.out hw144_2:), (q9h HB.out hw144_3:), (q9h HB.out hw144_4:), (q9h HB.out hw144_5:), (q9h HB.out hw144_6:), (q9h HB.out hw144_7:), (q9h HB.out hw144_8:), (q9h HB.out hw144_9:), (q9h HB.out hw144_10:), (q9h HB.out hw144_11:), (q9h HB.out hw144_12:), (q9h HB.out hw145_0:), (q9h HB.out hw145_1:), (q9h HB.out hw145_2:), (q9h HB.out hw145_3:), (q9h HB.out hw145_4:), (q9h HB.out hw145_5:), (q9h HB.out hw145_6:), (q9h HB.out hw145_7:), (q9h HB.out hw145_8:), (q9h HB.out hw145_9:), (q9h HB.out hw145_10:), (q9h HB.out hw145_11:), (q9h HB.out hw145_12:)⟩ (fun hHeld => ?_); refine with_tabW cambiumlaw26_Lines.tab6 cambiumlaw26_Lines.bits6 (fun HT_ HW_ => ?_)
     generalize wr.drew = w15 at HB HR141_10 HR141_8 HR141_9 HR142_10 HR142_8 HR142_9 HR144_10 HR144_8 HR144_9 HR145_10 HR145_8 HR145_9 hx141_0 hx141_1 hx141_10 hx141_11 hx141_12 hx141_2 hx141_3 hx141_4 hx141_5 hx141_6 hx141_7 hx141_8 hx141_9 hx142_0 hx142_1 hx142_10 hx142_11 hx142_12 hx142_2 hx142_3 hx142_4 hx142_5 hx142_6 hx142_7 hx142_8 hx142_9 hx144_0 hx144_1 hx144_10 hx144_11 hx144_12 hx144_2 hx144_3 hx144_4 hx144_5 hx144_6 hx144_7 hx144_8 hx144_9 hx145_0 hx145_1 hx145_10 hx145_11 hx145_12 hx145_2 hx145_3 hx145_4 hx145_5 hx145_6 hx145_7 hx145_8 hx145_9 hHeld ⊢
     refine q9p (i := 0) (N := some 17) (q9m 38 1) HT_.out ?_
     refine q9p (i := 1) (N := some 18) (q9m 38 3) HT_.out ?_
     refine q9p (i := 2) (N := some 19) (q9m 38 7) HT_.out ?_
     refine q9p (i := 3) (N := some 20) (q9m 38 15) HT_.out ?_
     refine q9p (i := 5) (N := some 22) (q9m 38 47) HT_.out ?_
     refine q9p (i := 6) (N := some 23) (q9m 38 111) HT_.out ?_
     refine q9p (i := 7) (N := some 24) (q9m 38 239) HT_.out ?_
     refine q9p (i := 8) (N := some 25) (q9m 38 495) HT_.out ?_
     refine take_ (i := 4) (N := some 21) (v := ?_) (a' := ?_) (q9m 38 511) rfl rfl (take_ofW HT_.out HW_.out (by kernel_rfl)) (fun _ _ _ h => h) (Or.inl ⟨by rfl, ?_⟩) hHeld ?_ ?_; rotate_left; (rintro w' ⟨s0, s1, s2, s3, s4, s5, s6, s7, s8, s9, s10, s11, s12, s13, s14, s15, s16, s17, s18, s19, s20, s21, s22, s23, s24, s25, s26, s27, s28, s29, s30, s31, s32, s33, s34, s35, s36, s37, s38, s39, s40, s41, s42, s43, s44, s45, s46, s47, s48, s49, s50, s51⟩; go_simp; with_reducible rfl); rotate_left; (simp only [Act.put, q9a, q9b, q9c, i64_w, i32_w]; rfl)
     refine take_ (i := 9) (N := some 26) (v := ?_) (a' := ?_) (q9m 38 1023) rfl rfl (take_ofW HT_.out HW_.out (by kernel_rfl)) (fun _ _ _ h => h) (Or.inl ⟨by rfl, ?_⟩) hHeld ?_ ?_; rotate_left; (rintro w' ⟨s0, s1, s2, s3, s4, s5, s6, s7, s8, s9, s10, s11, s12, s13, s14, s15, s16, s17, s18, s19, s20, s21, s22, s23, s24, s25, s26, s27, s28, s29, s30, s31, s32, s33, s34, s35, s36, s37, s38, s39, s40, s41, s42, s43, s44, s45, s46, s47, s48, s49, s50, s51⟩; go_simp; with_reducible rfl); rotate_left; (simp only [Act.put, q9a, q9b, q9c, i64_w, i32_w]; rfl)
     refine one_ (i := 10) (N := some 27) (q9m 38 2047) rfl rfl (one_of HT_.out (by kernel_rfl)) (by decide) (fun K hK => ?_)
     refine goes_ Try.func20 (by kernel_rfl) rfl #[.agg #[.int .u64 ((rd_T40 l0 x5_1).f0.f0), .int .u64 ((rd_T40 l0 x5_1).f0.f1), .int .u64 ((rd_T40 l0 x5_1).f0.f2), .string ((rd_T40 l0 x5_1).f0.f3), .string ((rd_T40 l0 x5_1).f0.f4), .int .i64 ((rd_T40 l0 x5_1).f0.f5), .int .i64 ((rd_T40 l0 x5_1).f0.f6), .int .i64 ((rd_T40 l0 x5_1).f0.f7), .slice A141_8 ((rd_T40 l0 x5_1).f0.f8).length c141_8, .slice A141_9 ((rd_T40 l0 x5_1).f0.f9).length c141_9, .slice A141_10 ((rd_T40 l0 x5_1).f0.f10).length c141_10], .agg #[.int .u64 ((rd_T40 l1 x5_1).f0.f0), .int .u64 ((rd_T40 l1 x5_1).f0.f1), .int .u64 ((rd_T40 l1 x5_1).f0.f2), .string ((rd_T40 l1 x5_1).f0.f3), .string ((rd_T40 l1 x5_1).f0.f4), .int .i64 ((rd_T40 l1 x5_1).f0.f5), .int .i64 ((rd_T40 l1 x5_1).f0.f6), .int .i64 ((rd_T40 l1 x5_1).f0.f7), .slice A142_8 ((rd_T40 l1 x5_1).f0.f8).length c142_8, .slice A142_9 ((rd_T40 l1 x5_1).f0.f9).length c142_9, .slice A142_10 ((rd_T40 l1 x5_1).f0.f10).length c142_10]] (by rfl) rfl rfl q9y1 ?_
     with_reducible refine (cambiumref16_Same.calls k1 ((rd_T40 l0 x5_1).f0.f0) ((rd_T40 l0 x5_1).f0.f1) ((rd_T40 l0 x5_1).f0.f2) ((rd_T40 l0 x5_1).f0.f3) ((rd_T40 l0 x5_1).f0.f4) ((rd_T40 l0 x5_1).f0.f5) ((rd_T40 l0 x5_1).f0.f6) ((rd_T40 l0 x5_1).f0.f7) _ _ ((rd_T40 l0 x5_1).f0.f8) _ _ ((rd_T40 l0 x5_1).f0.f9) _ _ ((rd_T40 l0 x5_1).f0.f10) ((rd_T40 l1 x5_1).f0.f0) ((rd_T40 l1 x5_1).f0.f1) ((rd_T40 l1 x5_1).f0.f2) ((rd_T40 l1 x5_1).f0.f3) ((rd_T40 l1 x5_1).f0.f4) ((rd_T40 l1 x5_1).f0.f5) ((rd_T40 l1 x5_1).f0.f6) ((rd_T40 l1 x5_1).f0.f7) _ _ ((rd_T40 l1 x5_1).f0.f8) _ _ ((rd_T40 l1 x5_1).f0.f9) _ _ ((rd_T40 l1 x5_1).f0.f10) true _ ?side1 ?side2 ?side3 ?side4 ?side5 ?side6 ?side7 ?side8 ?side9 ?side10 ?side11 ?side12 A7.out).mono ?_
     (case side1 => repeat (first | exact (Kd.C_below HR141_8.out HB.out) | (with_reducible refine Kd.C_alloc ?_ _) | (with_reducible refine Kd.C_drewN ?_ _) | (with_reducible refine Kd.C_drew ?_)))
     (case side2 => exact HC141_8.out)
     (case side3 => repeat (first | exact (Kd.C_below HR141_9.out HB.out) | (with_reducible refine Kd.C_alloc ?_ _) | (with_reducible refine Kd.C_drewN ?_ _) | (with_reducible refine Kd.C_drew ?_)))
     (case side4 => exact HC141_9.out)
     (case side5 => repeat (first | exact (Kd.C_below HR141_10.out HB.out) | (with_reducible refine Kd.C_alloc ?_ _) | (with_reducible refine Kd.C_drewN ?_ _) | (with_reducible refine Kd.C_drew ?_)))
     (case side6 => exact HC141_10.out)
     (case side7 => repeat (first | exact (Kd.C_below HR142_8.out HB.out) | (with_reducible refine Kd.C_alloc ?_ _) | (with_reducible refine Kd.C_drewN ?_ _) | (with_reducible refine Kd.C_drew ?_)))
     (case side8 => exact HC142_8.out)
     (case side9 => repeat (first | exact (Kd.C_below HR142_9.out HB.out) | (with_reducible refine Kd.C_alloc ?_ _) | (with_reducible refine Kd.C_drewN ?_ _) | (with_reducible refine Kd.C_drew ?_)))
     (case side10 => exact HC142_9.out)
     (case side11 => repeat (first | exact (Kd.C_below HR142_10.out HB.out) | (with_reducible refine Kd.C_alloc ?_ _) | (with_reducible refine Kd.C_drewN ?_ _) | (with_reducible refine Kd.C_drew ?_)))
     (case side12 => exact HC142_10.out)
     rintro e w16 ⟨rfl, hb⟩
     refine ⟨_, rfl, ?_⟩
     have n0_ := Aside0.mk (below_step q9y2 hb)
     clear HB
     have HB := n0_
     clear n0_
     (try clear hb)
     (try clear hb2)
     (try clear hk)
     (try clear hi)
     refine hK.out _ _ ⟨(q9h HB.out hw141_0:), (q9h HB.out hw141_1:), (q9h HB.out hw141_2:), (q9h HB.out hw141_3:), (q9h HB.out hw141_4:), (q9h HB.out hw141_5:), (q9h HB.out hw141_6:), (q9h HB.out hw141_7:), (q9h HB.out hw141_8:), (q9h HB.out hw141_9:), (q9h HB.out hw141_10:), (q9h HB.out hw141_11:), (q9h HB.out hw141_12:), (q9h HB.out hw142_0:), (q9h HB.out hw142_1:), (q9h HB.out hw142_2:), (q9h HB.out hw142_3:), (q9h HB.out hw142_4:), (q9h HB.out hw142_5:), (q9h HB.out hw142_6:), (q9h HB.out hw142_7:), (q9h HB.out hw142_8:), (q9h HB.out hw142_9:), (q9h HB.out hw142_10:), (q9h HB.out hw142_11:), (q9h HB.out hw142_12:), (q9h HB.out hw144_0:), (q9h HB.out hw144_1:), (q9h HB.out hw144_2:), (q9h HB.out hw144_3:), (q9h HB.out hw144_4:), (q9h HB.out hw144_5:), (q9h HB.out hw144_6:), (q9h HB.out hw144_7:), (q9h HB.out hw144_8:), (q9h HB.out hw144_9:), (q9h HB.out hw144_10:), (q9h HB.out hw144_11:), (q9h HB.out hw144_12:), (q9h HB.out hw145_0:), (q9h HB.out hw145_1:), (q9h HB.out hw145_2:), (q9h HB.out hw145_3:), (q9h HB.out hw145_4:), (q9h HB.out hw145_5:), (q9h HB.out hw145_6:), (q9h HB.out hw145_7:), (q9h HB.out hw145_8:), (q9h HB.out hw145_9:), (q9h HB.out hw145_10:), (q9h HB.out hw145_11:), (q9h HB.out hw145_12:)⟩ (fun hHeld => ?_)
     clear hK K
     refine norm_ (a' := ?_) ?_ ?_
     rotate_left
     ·show Act.put _ (some 27) _ = _
      simp only [Act.put, q9a, q9b, q9c, i64_w, i32_w]
      rfl
     refine q9p (i := 11) (N := some 28) (q9m 38 4095) HT_.out ?_
     refine q9p (i := 12) (N := some 29) (q9m 38 8191) HT_.out ?_
     refine q9p (i := 13) (N := some 30) (q9m 38 16383) HT_.out ?_
     refine q9p (i := 14) (N := some 31) (q9m 38 32767) HT_.out ?_
     refine q9p (i := 15) (N := some 32) (q9m 38 65535) HT_.out ?_
     refine q9p (i := 16) (N := some 33) (q9m 38 131071) HT_.out ?_
     refine q9p (i := 18) (N := some 35) (q9m 38 393215) HT_.out ?_
     refine q9p (i := 19) (N := some 36) (q9m 38 917503) HT_.out ?_
     refine q9p (i := 20) (N := some 37) (q9m 38 1966079) HT_.out ?_
     refine q9p (i := 21) (N := some 38) (q9m 38 4063231) HT_.out ?_
     refine take_ (i := 17) (N := some 34) (v := ?_) (a' := ?_) (q9m 38 4194303) rfl rfl (take_ofW HT_.out HW_.out (by kernel_rfl)) (fun _ _ _ h => h) (Or.inl ⟨by rfl, ?_⟩) hHeld ?_ ?_; rotate_left; (rintro w' ⟨s0, s1, s2, s3, s4, s5, s6, s7, s8, s9, s10, s11, s12, s13, s14, s15, s16, s17, s18, s19, s20, s21, s22, s23, s24, s25, s26, s27, s28, s29, s30, s31, s32, s33, s34, s35, s36, s37, s38, s39, s40, s41, s42, s43, s44, s45, s46, s47, s48, s49, s50, s51⟩; go_simp; with_reducible rfl); rotate_left; (simp only [Act.put, q9a, q9b, q9c, i64_w, i32_w]; rfl)
     refine take_ (i := 22) (N := some 39) (v := ?_) (a' := ?_) (q9m 38 8388607) rfl rfl (take_ofW HT_.out HW_.out (by kernel_rfl)) (fun _ _ _ h => h) (Or.inl ⟨by rfl, ?_⟩) hHeld ?_ ?_; rotate_left; (rintro w' ⟨s0, s1, s2, s3, s4, s5, s6, s7, s8, s9, s10, s11, s12, s13, s14, s15, s16, s17, s18, s19, s20, s21, s22, s23, s24, s25, s26, s27, s28, s29, s30, s31, s32, s33, s34, s35, s36, s37, s38, s39, s40, s41, s42, s43, s44, s45, s46, s47, s48, s49, s50, s51⟩; go_simp; with_reducible rfl); rotate_left; (simp only [Act.put, q9a, q9b, q9c, i64_w, i32_w]; rfl)
     refine q9p (i := 23) (N := some 40) (q9m 38 16777215) HT_.out ?_
     refine q9p (i := 24) (N := some 41) (q9m 38 33554431) HT_.out ?_
     refine q9p (i := 25) (N := some 42) (q9m 38 67108863) HT_.out ?_
     refine q9u (i := 26) (N := some 43) (q9m 38 134217727) HT_.out ?_
     refine q9u (i := 27) (N := some 44) (q9m 38 268435455) HT_.out ?_
     refine q9u (i := 28) (N := some 45) (q9m 38 536870911) HT_.out ?_
     refine q9u (i := 29) (N := some 46) (q9m 38 1073741823) HT_.out ?_
     refine q9u (i := 30) (N := some 47) (q9m 38 2147483647) HT_.out ?_
     refine q9u (i := 31) (N := some 48) (q9m 38 4294967295) HT_.out ?_
     refine q9u (i := 32) (N := some 49) (q9m 38 8589934591) HT_.out ?_
     refine q9u (i := 33) (N := some 50) (q9m 38 17179869183) HT_.out ?_
     refine q9u (i := 34) (N := some 51) (q9m 38 34359738367) HT_.out ?_
     refine q9u (i := 35) (N := some 52) (q9m 38 68719476735) HT_.out ?_
     refine q9u (i := 36) (N := some 53) (q9m 38 137438953471) HT_.out ?_
     refine q9p (i := 37) (N := some 54) (q9m 38 274877906943) HT_.out ?_
     refine done_ (done_of HT_.out (by kernel_rfl)) ?_
     try go_wp2
     go_ret
     exact ⟨by first | rfl | (simp [errW_none, errW_some] <;> rfl) | (simp [*, errW_none, errW_some] <;> rfl), by repeat (first | (with_reducible first | exact HB.out | apply below_alloc | apply pw_below_drewN | apply below_drew1) | exact HB.out)⟩
   rw [if_pos c9] at H
   have c9b0 : (((rd_T40 l0 x5_1).f1) == ((rd_T40 l1 x5_1).f1)) = true := beq_iff_eq.mpr c9
   have c9b1 : (((rd_T40 l0 x5_1).f1) != ((rd_T40 l1 x5_1).f1)) = false := bne_eq_false_iff_eq.mpr c9
   clear c9
   by_cases c10 : (((rd_T40 l0 x5_1).f2) != ((rd_T40 l1 x5_1).f2)) = true
   ·rw [if_pos c10] at H
    have c10b0 : (((rd_T40 l0 x5_1).f2) != ((rd_T40 l1 x5_1).f2)) = true := c10
    (try (have c10b1 : decide (((rd_T40 l0 x5_1).f2) = ((rd_T40 l1 x5_1).f2)) = false := by simpa using c10))
    (try (have c10b2 : (((rd_T40 l0 x5_1).f2) == ((rd_T40 l1 x5_1).f2)) = false := by simpa using c10))
    (try (have c10b3 : ¬ (((rd_T40 l0 x5_1).f2) = ((rd_T40 l1 x5_1).f2)) := by simpa using c10))
    clear c10
    obtain rfl := Option.some.inj H
    try go_wp2
    have n0_ := Aside0.mk (below_drew1 HB.out)
    clear HB
    have HB := n0_
    clear n0_
    have p141 : 0 ≤ (x5_1 : Int) := of_decide_eq_true q9y0
    have q141 : x5_1 < (l0.length : Int) := of_decide_eq_true q9y0
    obtain ⟨ad141, A141_8, c141_8, A141_9, c141_9, A141_10, c141_10, e141, hx141_0, hx141_1, hx141_2, hx141_3, hx141_4, hx141_5, hx141_6, hx141_7, hx141_8, hx141_9, hx141_10, hx141_11, hx141_12, hl141_8, hi141_8, hl141_9, hi141_9, hl141_10, hi141_10⟩ := at_T40 HR0.out x5_1 p141 q141
    have hw141_12 := hx141_12
    have hw141_11 := hx141_11
    have hw141_10 := hx141_10
    have hw141_9 := hx141_9
    have hw141_8 := hx141_8
    have hw141_7 := hx141_7
    have hw141_6 := hx141_6
    have hw141_5 := hx141_5
    have hw141_4 := hx141_4
    have hw141_3 := hx141_3
    have hw141_2 := hx141_2
    have hw141_1 := hx141_1
    have hw141_0 := hx141_0
    cases e141
    replace hx141_0 := (HB.out.cell (World.block_lt_of_cell? w _ hx141_0)).trans hx141_0
    replace hx141_1 := (HB.out.cell (World.block_lt_of_cell? w _ hx141_1)).trans hx141_1
    replace hx141_2 := (HB.out.cell (World.block_lt_of_cell? w _ hx141_2)).trans hx141_2
    replace hx141_3 := (HB.out.cell (World.block_lt_of_cell? w _ hx141_3)).trans hx141_3
    replace hx141_4 := (HB.out.cell (World.block_lt_of_cell? w _ hx141_4)).trans hx141_4
    replace hx141_5 := (HB.out.cell (World.block_lt_of_cell? w _ hx141_5)).trans hx141_5
    replace hx141_6 := (HB.out.cell (World.block_lt_of_cell? w _ hx141_6)).trans hx141_6
    replace hx141_7 := (HB.out.cell (World.block_lt_of_cell? w _ hx141_7)).trans hx141_7
    replace hx141_8 := (HB.out.cell (World.block_lt_of_cell? w _ hx141_8)).trans hx141_8
    replace hx141_9 := (HB.out.cell (World.block_lt_of_cell? w _ hx141_9)).trans hx141_9
    replace hx141_10 := (HB.out.cell (World.block_lt_of_cell? w _ hx141_10)).trans hx141_10
    replace hx141_11 := (HB.out.cell (World.block_lt_of_cell? w _ hx141_11)).trans hx141_11
    replace hx141_12 := (HB.out.cell (World.block_lt_of_cell? w _ hx141_12)).trans hx141_12
    have HR141_8 := Aside0.mk hi141_8
    have HC141_8 := Aside0.mk hl141_8
    clear hi141_8 hl141_8
    have HR141_9 := Aside0.mk hi141_9
    have HC141_9 := Aside0.mk hl141_9
    clear hi141_9 hl141_9
    have HR141_10 := Aside0.mk hi141_10
    have HC141_10 := Aside0.mk hl141_10
    clear hi141_10 hl141_10
    replace p141 := eq_true p141
    replace q141 := eq_true q141
    have p142 : 0 ≤ (x5_1 : Int) := of_decide_eq_true q9y0
    have q142 : x5_1 < (l1.length : Int) := of_decide_eq_true q9y0
    obtain ⟨ad142, A142_8, c142_8, A142_9, c142_9, A142_10, c142_10, e142, hx142_0, hx142_1, hx142_2, hx142_3, hx142_4, hx142_5, hx142_6, hx142_7, hx142_8, hx142_9, hx142_10, hx142_11, hx142_12, hl142_8, hi142_8, hl142_9, hi142_9, hl142_10, hi142_10⟩ := at_T40 HR1.out x5_1 p142 q142
    have hw142_12 := hx142_12
    have hw142_11 := hx142_11
    have hw142_10 := hx142_10
    have hw142_9 := hx142_9
    have hw142_8 := hx142_8
    have hw142_7 := hx142_7
    have hw142_6 := hx142_6
    have hw142_5 := hx142_5
    have hw142_4 := hx142_4
    have hw142_3 := hx142_3
    have hw142_2 := hx142_2
    have hw142_1 := hx142_1
    have hw142_0 := hx142_0
    cases e142
    replace hx142_0 := (HB.out.cell (World.block_lt_of_cell? w _ hx142_0)).trans hx142_0
    replace hx142_1 := (HB.out.cell (World.block_lt_of_cell? w _ hx142_1)).trans hx142_1
    replace hx142_2 := (HB.out.cell (World.block_lt_of_cell? w _ hx142_2)).trans hx142_2
    replace hx142_3 := (HB.out.cell (World.block_lt_of_cell? w _ hx142_3)).trans hx142_3
    replace hx142_4 := (HB.out.cell (World.block_lt_of_cell? w _ hx142_4)).trans hx142_4
    replace hx142_5 := (HB.out.cell (World.block_lt_of_cell? w _ hx142_5)).trans hx142_5
    replace hx142_6 := (HB.out.cell (World.block_lt_of_cell? w _ hx142_6)).trans hx142_6
    replace hx142_7 := (HB.out.cell (World.block_lt_of_cell? w _ hx142_7)).trans hx142_7
    replace hx142_8 := (HB.out.cell (World.block_lt_of_cell? w _ hx142_8)).trans hx142_8
    replace hx142_9 := (HB.out.cell (World.block_lt_of_cell? w _ hx142_9)).trans hx142_9
    replace hx142_10 := (HB.out.cell (World.block_lt_of_cell? w _ hx142_10)).trans hx142_10
    replace hx142_11 := (HB.out.cell (World.block_lt_of_cell? w _ hx142_11)).trans hx142_11
    replace hx142_12 := (HB.out.cell (World.block_lt_of_cell? w _ hx142_12)).trans hx142_12
    have HR142_8 := Aside0.mk hi142_8
    have HC142_8 := Aside0.mk hl142_8
    clear hi142_8 hl142_8
    have HR142_9 := Aside0.mk hi142_9
    have HC142_9 := Aside0.mk hl142_9
    clear hi142_9 hl142_9
    have HR142_10 := Aside0.mk hi142_10
    have HC142_10 := Aside0.mk hl142_10
    clear hi142_10 hl142_10
    replace p142 := eq_true p142
    replace q142 := eq_true q142
    have p144 : 0 ≤ (x5_1 : Int) := of_decide_eq_true q9y0
    have q144 : x5_1 < (l0.length : Int) := of_decide_eq_true q9y0
    obtain ⟨ad144, A144_8, c144_8, A144_9, c144_9, A144_10, c144_10, e144, hx144_0, hx144_1, hx144_2, hx144_3, hx144_4, hx144_5, hx144_6, hx144_7, hx144_8, hx144_9, hx144_10, hx144_11, hx144_12, hl144_8, hi144_8, hl144_9, hi144_9, hl144_10, hi144_10⟩ := at_T40 HR0.out x5_1 p144 q144
    have hw144_12 := hx144_12
    have hw144_11 := hx144_11
    have hw144_10 := hx144_10
    have hw144_9 := hx144_9
    have hw144_8 := hx144_8
    have hw144_7 := hx144_7
    have hw144_6 := hx144_6
    have hw144_5 := hx144_5
    have hw144_4 := hx144_4
    have hw144_3 := hx144_3
    have hw144_2 := hx144_2
    have hw144_1 := hx144_1
    have hw144_0 := hx144_0
    obtain rfl : ad141 = ad144 := (by injection e144)
    replace hx144_0 := (HB.out.cell (World.block_lt_of_cell? w _ hx144_0)).trans hx144_0
    replace hx144_1 := (HB.out.cell (World.block_lt_of_cell? w _ hx144_1)).trans hx144_1
    replace hx144_2 := (HB.out.cell (World.block_lt_of_cell? w _ hx144_2)).trans hx144_2
    replace hx144_3 := (HB.out.cell (World.block_lt_of_cell? w _ hx144_3)).trans hx144_3
    replace hx144_4 := (HB.out.cell (World.block_lt_of_cell? w _ hx144_4)).trans hx144_4
    replace hx144_5 := (HB.out.cell (World.block_lt_of_cell? w _ hx144_5)).trans hx144_5
    replace hx144_6 := (HB.out.cell (World.block_lt_of_cell? w _ hx144_6)).trans hx144_6
    replace hx144_7 := (HB.out.cell (World.block_lt_of_cell? w _ hx144_7)).trans hx144_7
    replace hx144_8 := (HB.out.cell (World.block_lt_of_cell? w _ hx144_8)).trans hx144_8
    replace hx144_9 := (HB.out.cell (World.block_lt_of_cell? w _ hx144_9)).trans hx144_9
    replace hx144_10 := (HB.out.cell (World.block_lt_of_cell? w _ hx144_10)).trans hx144_10
    replace hx144_11 := (HB.out.cell (World.block_lt_of_cell? w _ hx144_11)).trans hx144_11
    replace hx144_12 := (HB.out.cell (World.block_lt_of_cell? w _ hx144_12)).trans hx144_12
    have HR144_8 := Aside0.mk hi144_8
    have HC144_8 := Aside0.mk hl144_8
    clear hi144_8 hl144_8
    have HR144_9 := Aside0.mk hi144_9
    have HC144_9 := Aside0.mk hl144_9
    clear hi144_9 hl144_9
    have HR144_10 := Aside0.mk hi144_10
    have HC144_10 := Aside0.mk hl144_10
    clear hi144_10 hl144_10
    replace p144 := eq_true p144
    replace q144 := eq_true q144
    have p145 : 0 ≤ (x5_1 : Int) := of_decide_eq_true q9y0
    have q145 : x5_1 < (l1.length : Int) := of_decide_eq_true q9y0
    obtain ⟨ad145, A145_8, c145_8, A145_9, c145_9, A145_10, c145_10, e145, hx145_0, hx145_1, hx145_2, hx145_3, hx145_4, hx145_5, hx145_6, hx145_7, hx145_8, hx145_9, hx145_10, hx145_11, hx145_12, hl145_8, hi145_8, hl145_9, hi145_9, hl145_10, hi145_10⟩ := at_T40 HR1.out x5_1 p145 q145
    have hw145_12 := hx145_12
    have hw145_11 := hx145_11
    have hw145_10 := hx145_10
    have hw145_9 := hx145_9
    have hw145_8 := hx145_8
    have hw145_7 := hx145_7
    have hw145_6 := hx145_6
    have hw145_5 := hx145_5
    have hw145_4 := hx145_4
    have hw145_3 := hx145_3
    have hw145_2 := hx145_2
    have hw145_1 := hx145_1
    have hw145_0 := hx145_0
    obtain rfl : ad142 = ad145 := (by injection e145)
    replace hx145_0 := (HB.out.cell (World.block_lt_of_cell? w _ hx145_0)).trans hx145_0
    replace hx145_1 := (HB.out.cell (World.block_lt_of_cell? w _ hx145_1)).trans hx145_1
    replace hx145_2 := (HB.out.cell (World.block_lt_of_cell? w _ hx145_2)).trans hx145_2
    replace hx145_3 := (HB.out.cell (World.block_lt_of_cell? w _ hx145_3)).trans hx145_3
    replace hx145_4 := (HB.out.cell (World.block_lt_of_cell? w _ hx145_4)).trans hx145_4
    replace hx145_5 := (HB.out.cell (World.block_lt_of_cell? w _ hx145_5)).trans hx145_5
    replace hx145_6 := (HB.out.cell (World.block_lt_of_cell? w _ hx145_6)).trans hx145_6
    replace hx145_7 := (HB.out.cell (World.block_lt_of_cell? w _ hx145_7)).trans hx145_7
    replace hx145_8 := (HB.out.cell (World.block_lt_of_cell? w _ hx145_8)).trans hx145_8
    replace hx145_9 := (HB.out.cell (World.block_lt_of_cell? w _ hx145_9)).trans hx145_9
    replace hx145_10 := (HB.out.cell (World.block_lt_of_cell? w _ hx145_10)).trans hx145_10
    replace hx145_11 := (HB.out.cell (World.block_lt_of_cell? w _ hx145_11)).trans hx145_11
    replace hx145_12 := (HB.out.cell (World.block_lt_of_cell? w _ hx145_12)).trans hx145_12
    have HR145_8 := Aside0.mk hi145_8
    have HC145_8 := Aside0.mk hl145_8
    clear hi145_8 hl145_8
    have HR145_9 := Aside0.mk hi145_9
    have HC145_9 := Aside0.mk hl145_9
    clear hi145_9 hl145_9
    have HR145_10 := Aside0.mk hi145_10
    have HC145_10 := Aside0.mk hl145_10
    clear hi145_10 hl145_10
    replace p145 := eq_true p145
    replace q145 := eq_true q145
    have p146 : 0 ≤ (x5_1 : Int) := of_decide_eq_true q9y0
    have q146 : x5_1 < (l0.length : Int) := of_decide_eq_true q9y0
    obtain ⟨ad146, A146_8, c146_8, A146_9, c146_9, A146_10, c146_10, e146, hx146_0, hx146_1, hx146_2, hx146_3, hx146_4, hx146_5, hx146_6, hx146_7, hx146_8, hx146_9, hx146_10, hx146_11, hx146_12, hl146_8, hi146_8, hl146_9, hi146_9, hl146_10, hi146_10⟩ := at_T40 HR0.out x5_1 p146 q146
    have hw146_12 := hx146_12
    have hw146_11 := hx146_11
    have hw146_10 := hx146_10
    have hw146_9 := hx146_9
    have hw146_8 := hx146_8
    have hw146_7 := hx146_7
    have hw146_6 := hx146_6
    have hw146_5 := hx146_5
    have hw146_4 := hx146_4
    have hw146_3 := hx146_3
    have hw146_2 := hx146_2
    have hw146_1 := hx146_1
    have hw146_0 := hx146_0
    obtain rfl : ad141 = ad146 := (by injection e146)
    replace hx146_0 := (HB.out.cell (World.block_lt_of_cell? w _ hx146_0)).trans hx146_0
    replace hx146_1 := (HB.out.cell (World.block_lt_of_cell? w _ hx146_1)).trans hx146_1
    replace hx146_2 := (HB.out.cell (World.block_lt_of_cell? w _ hx146_2)).trans hx146_2
    replace hx146_3 := (HB.out.cell (World.block_lt_of_cell? w _ hx146_3)).trans hx146_3
    replace hx146_4 := (HB.out.cell (World.block_lt_of_cell? w _ hx146_4)).trans hx146_4
    replace hx146_5 := (HB.out.cell (World.block_lt_of_cell? w _ hx146_5)).trans hx146_5
    replace hx146_6 := (HB.out.cell (World.block_lt_of_cell? w _ hx146_6)).trans hx146_6
    replace hx146_7 := (HB.out.cell (World.block_lt_of_cell? w _ hx146_7)).trans hx146_7
    replace hx146_8 := (HB.out.cell (World.block_lt_of_cell? w _ hx146_8)).trans hx146_8
    replace hx146_9 := (HB.out.cell (World.block_lt_of_cell? w _ hx146_9)).trans hx146_9
    replace hx146_10 := (HB.out.cell (World.block_lt_of_cell? w _ hx146_10)).trans hx146_10
    replace hx146_11 := (HB.out.cell (World.block_lt_of_cell? w _ hx146_11)).trans hx146_11
    replace hx146_12 := (HB.out.cell (World.block_lt_of_cell? w _ hx146_12)).trans hx146_12
    have HR146_8 := Aside0.mk hi146_8
    have HC146_8 := Aside0.mk hl146_8
    clear hi146_8 hl146_8
    have HR146_9 := Aside0.mk hi146_9
    have HC146_9 := Aside0.mk hl146_9
    clear hi146_9 hl146_9
    have HR146_10 := Aside0.mk hi146_10
    have HC146_10 := Aside0.mk hl146_10
    clear hi146_10 hl146_10
    replace p146 := eq_true p146
    replace q146 := eq_true q146
    have ea_ := Option.some.inj (hx144_8.symm.trans hx146_8)
    injection ea_ with ea_ en_ ec_
    subst ea_
    subst ec_
    clear en_
    have ea_ := Option.some.inj (hx144_9.symm.trans hx146_9)
    injection ea_ with ea_ en_ ec_
    subst ea_
    subst ec_
    clear en_
    have ea_ := Option.some.inj (hx144_10.symm.trans hx146_10)
    injection ea_ with ea_ en_ ec_
    subst ea_
    subst ec_
    clear en_
    have p147 : 0 ≤ (x5_1 : Int) := of_decide_eq_true q9y0
    have q147 : x5_1 < (l1.length : Int) := of_decide_eq_true q9y0
    obtain ⟨ad147, A147_8, c147_8, A147_9, c147_9, A147_10, c147_10, e147, hx147_0, hx147_1, hx147_2, hx147_3, hx147_4, hx147_5, hx147_6, hx147_7, hx147_8, hx147_9, hx147_10, hx147_11, hx147_12, hl147_8, hi147_8, hl147_9, hi147_9, hl147_10, hi147_10⟩ := at_T40 HR1.out x5_1 p147 q147
    have hw147_12 := hx147_12
    have hw147_11 := hx147_11
    have hw147_10 := hx147_10
    have hw147_9 := hx147_9
    have hw147_8 := hx147_8
    have hw147_7 := hx147_7
    have hw147_6 := hx147_6
    have hw147_5 := hx147_5
    have hw147_4 := hx147_4
    have hw147_3 := hx147_3
    have hw147_2 := hx147_2
    have hw147_1 := hx147_1
    have hw147_0 := hx147_0
    obtain rfl : ad142 = ad147 := (by injection e147)
    replace hx147_0 := (HB.out.cell (World.block_lt_of_cell? w _ hx147_0)).trans hx147_0
    replace hx147_1 := (HB.out.cell (World.block_lt_of_cell? w _ hx147_1)).trans hx147_1
    replace hx147_2 := (HB.out.cell (World.block_lt_of_cell? w _ hx147_2)).trans hx147_2
    replace hx147_3 := (HB.out.cell (World.block_lt_of_cell? w _ hx147_3)).trans hx147_3
    replace hx147_4 := (HB.out.cell (World.block_lt_of_cell? w _ hx147_4)).trans hx147_4
    replace hx147_5 := (HB.out.cell (World.block_lt_of_cell? w _ hx147_5)).trans hx147_5
    replace hx147_6 := (HB.out.cell (World.block_lt_of_cell? w _ hx147_6)).trans hx147_6
    replace hx147_7 := (HB.out.cell (World.block_lt_of_cell? w _ hx147_7)).trans hx147_7
    replace hx147_8 := (HB.out.cell (World.block_lt_of_cell? w _ hx147_8)).trans hx147_8
    replace hx147_9 := (HB.out.cell (World.block_lt_of_cell? w _ hx147_9)).trans hx147_9
    replace hx147_10 := (HB.out.cell (World.block_lt_of_cell? w _ hx147_10)).trans hx147_10
    replace hx147_11 := (HB.out.cell (World.block_lt_of_cell? w _ hx147_11)).trans hx147_11
    replace hx147_12 := (HB.out.cell (World.block_lt_of_cell? w _ hx147_12)).trans hx147_12
    have HR147_8 := Aside0.mk hi147_8
    have HC147_8 := Aside0.mk hl147_8
    clear hi147_8 hl147_8
    have HR147_9 := Aside0.mk hi147_9
    have HC147_9 := Aside0.mk hl147_9
    clear hi147_9 hl147_9
    have HR147_10 := Aside0.mk hi147_10
    have HC147_10 := Aside0.mk hl147_10
    clear hi147_10 hl147_10
    replace p147 := eq_true p147
    replace q147 := eq_true q147
    have ea_ := Option.some.inj (hx145_8.symm.trans hx147_8)
    injection ea_ with ea_ en_ ec_
    subst ea_
    subst ec_
    clear en_
    have ea_ := Option.some.inj (hx145_9.symm.trans hx147_9)
    injection ea_ with ea_ en_ ec_
    subst ea_
    subst ec_
    clear en_
    have ea_ := Option.some.inj (hx145_10.symm.trans hx147_10)
    injection ea_ with ea_ en_ ec_
    subst ea_
    subst ec_
    clear en_
    as_aux_lemma =>
     refine start_ (n := 38) (S := fun w' => w'.cell? (ad141.add ((x5_1).toNat * 13)) = some (.int .u64 ((rd_T40 l0 x5_1).f0.f0)) ∧ w'.cell? ⟨(ad141.add ((x5_1).toNat * 13)).block, (ad141.add ((x5_1).toNat * 13)).off + 1, none⟩ = some (.int .u64 ((rd_T40 l0 x5_1).f0.f1)) ∧ w'.cell? ⟨(ad141.add ((x5_1).toNat * 13)).block, (ad141.add ((x5_1).toNat * 13)).off + 2, none⟩ = some (.int .u64 ((rd_T40 l0 x5_1).f0.f2)) ∧ w'.cell? ⟨(ad141.add ((x5_1).toNat * 13)).block, (ad141.add ((x5_1).toNat * 13)).off + 3, none⟩ = some (.string ((rd_T40 l0 x5_1).f0.f3)) ∧ w'.cell? ⟨(ad141.add ((x5_1).toNat * 13)).block, (ad141.add ((x5_1).toNat * 13)).off + 4, none⟩ = some (.string ((rd_T40 l0 x5_1).f0.f4)) ∧ w'.cell? ⟨(ad141.add ((x5_1).toNat * 13)).block, (ad141.add ((x5_1).toNat * 13)).off + 5, none⟩ = some (.int .i64 ((rd_T40 l0 x5_1).f0.f5)) ∧ w'.cell? ⟨(ad141.add ((x5_1).toNat * 13)).block, (ad141.add ((x5_1).toNat * 13)).off + 6, none⟩ = some (.int .i64 ((rd_T40 l0 x5_1).f0.f6)) ∧ w'.cell? ⟨(ad141.add ((x5_1).toNat * 13)).block, (ad141.add ((x5_1).toNat * 13)).off + 7, none⟩ = some (.int .i64 ((rd_T40 l0 x5_1).f0.f7)) ∧ w'.cell? ⟨(ad141.add ((x5_1).toNat * 13)).block, (ad141.add ((x5_1).toNat * 13)).off + 8, none⟩ = some (.slice A141_8 ((rd_T40 l0 x5_1).f0.f8).length c141_8) ∧ w'.cell? ⟨(ad141.add ((x5_1).toNat * 13)).block, (ad141.add ((x5_1).toNat * 13)).off + 9, none⟩ = some (.slice A141_9 ((rd_T40 l0 x5_1).f0.f9).length c141_9) ∧ w'.cell? ⟨(ad141.add ((x5_1).toNat * 13)).block, (ad141.add ((x5_1).toNat * 13)).off + 10, none⟩ = some (.slice A141_10 ((rd_T40 l0 x5_1).f0.f10).length c141_10) ∧ w'.cell? ⟨(ad141.add ((x5_1).toNat * 13)).block, (ad141.add ((x5_1).toNat * 13)).off + 11, none⟩ = some (.int .i64 ((rd_T40 l0 x5_1).f1)) ∧ w'.cell? ⟨(ad141.add ((x5_1).toNat * 13)).block, (ad141.add ((x5_1).toNat * 13)).off + 12, none⟩ = some (.bool ((rd_T40 l0 x5_1).f2)) ∧ w'.cell? (ad142.add ((x5_1).toNat * 13)) = some (.int .u64 ((rd_T40 l1 x5_1).f0.f0)) ∧ w'.cell? ⟨(ad142.add ((x5_1).toNat * 13)).block, (ad142.add ((x5_1).toNat * 13)).off + 1, none⟩ = some (.int .u64 ((rd_T40 l1 x5_1).f0.f1)) ∧ w'.cell? ⟨(ad142.add ((x5_1).toNat * 13)).block, (ad142.add ((x5_1).toNat * 13)).off + 2, none⟩ = some (.int .u64 ((rd_T40 l1 x5_1).f0.f2)) ∧ w'.cell? ⟨(ad142.add ((x5_1).toNat * 13)).block, (ad142.add ((x5_1).toNat * 13)).off + 3, none⟩ = some (.string ((rd_T40 l1 x5_1).f0.f3)) ∧ w'.cell? ⟨(ad142.add ((x5_1).toNat * 13)).block, (ad142.add ((x5_1).toNat * 13)).off + 4, none⟩ = some (.string ((rd_T40 l1 x5_1).f0.f4)) ∧ w'.cell? ⟨(ad142.add ((x5_1).toNat * 13)).block, (ad142.add ((x5_1).toNat * 13)).off + 5, none⟩ = some (.int .i64 ((rd_T40 l1 x5_1).f0.f5)) ∧ w'.cell? ⟨(ad142.add ((x5_1).toNat * 13)).block, (ad142.add ((x5_1).toNat * 13)).off + 6, none⟩ = some (.int .i64 ((rd_T40 l1 x5_1).f0.f6)) ∧ w'.cell? ⟨(ad142.add ((x5_1).toNat * 13)).block, (ad142.add ((x5_1).toNat * 13)).off + 7, none⟩ = some (.int .i64 ((rd_T40 l1 x5_1).f0.f7)) ∧ w'.cell? ⟨(ad142.add ((x5_1).toNat * 13)).block, (ad142.add ((x5_1).toNat * 13)).off + 8, none⟩ = some (.slice A142_8 ((rd_T40 l1 x5_1).f0.f8).length c142_8) ∧ w'.cell? ⟨(ad142.add ((x5_1).toNat * 13)).block, (ad142.add ((x5_1).toNat * 13)).off + 9, none⟩ = some (.slice A142_9 ((rd_T40 l1 x5_1).f0.f9).length c142_9) ∧ w'.cell? ⟨(ad142.add ((x5_1).toNat * 13)).block, (ad142.add ((x5_1).toNat * 13)).off + 10, none⟩ = some (.slice A142_10 ((rd_T40 l1 x5_1).f0.f10).length c142_10) ∧ w'.cell? ⟨(ad142.add ((x5_1).toNat * 13)).block, (ad142.add ((x5_1).toNat * 13)).off + 11, none⟩ = some (.int .i64 ((rd_T40 l1 x5_1).f1)) ∧ w'.cell? ⟨(ad142.add ((x5_1).toNat * 13)).block, (ad142.add ((x5_1).toNat * 13)).off + 12, none⟩ = some (.bool ((rd_T40 l1 x5_1).f2)) ∧ w'.cell? (ad141.add ((x5_1).toNat * 13)) = some (.int .u64 ((rd_T40 l0 x5_1).f0.f0)) ∧ w'.cell? ⟨(ad141.add ((x5_1).toNat * 13)).block, (ad141.add ((x5_1).toNat * 13)).off + 1, none⟩ = some (.int .u64 ((rd_T40 l0 x5_1).f0.f1)) ∧ w'.cell? ⟨(ad141.add ((x5_1).toNat * 13)).block, (ad141.add ((x5_1).toNat * 13)).off + 2, none⟩ = some (.int .u64 ((rd_T40 l0 x5_1).f0.f2)) ∧ w'.cell? ⟨(ad141.add ((x5_1).toNat * 13)).block, (ad141.add ((x5_1).toNat * 13)).off + 3, none⟩ = some (.string ((rd_T40 l0 x5_1).f0.f3)) ∧ w'.cell? ⟨(ad141.add ((x5_1).toNat * 13)).block, (ad141.add ((x5_1).toNat * 13)).off + 4, none⟩ = some (.string ((rd_T40 l0 x5_1).f0.f4)) ∧ w'.cell? ⟨(ad141.add ((x5_1).toNat * 13)).block, (ad141.add ((x5_1).toNat * 13)).off + 5, none⟩ = some (.int .i64 ((rd_T40 l0 x5_1).f0.f5)) ∧ w'.cell? ⟨(ad141.add ((x5_1).toNat * 13)).block, (ad141.add ((x5_1).toNat * 13)).off + 6, none⟩ = some (.int .i64 ((rd_T40 l0 x5_1).f0.f6)) ∧ w'.cell? ⟨(ad141.add ((x5_1).toNat * 13)).block, (ad141.add ((x5_1).toNat * 13)).off + 7, none⟩ = some (.int .i64 ((rd_T40 l0 x5_1).f0.f7)) ∧ w'.cell? ⟨(ad141.add ((x5_1).toNat * 13)).block, (ad141.add ((x5_1).toNat * 13)).off + 8, none⟩ = some (.slice A144_8 ((rd_T40 l0 x5_1).f0.f8).length c144_8) ∧ w'.cell? ⟨(ad141.add ((x5_1).toNat * 13)).block, (ad141.add ((x5_1).toNat * 13)).off + 9, none⟩ = some (.slice A144_9 ((rd_T40 l0 x5_1).f0.f9).length c144_9) ∧ w'.cell? ⟨(ad141.add ((x5_1).toNat * 13)).block, (ad141.add ((x5_1).toNat * 13)).off + 10, none⟩ = some (.slice A144_10 ((rd_T40 l0 x5_1).f0.f10).length c144_10) ∧ w'.cell? ⟨(ad141.add ((x5_1).toNat * 13)).block, (ad141.add ((x5_1).toNat * 13)).off + 11, none⟩ = some (.int .i64 ((rd_T40 l0 x5_1).f1)) ∧ w'.cell? ⟨(ad141.add ((x5_1).toNat * 13)).block, (ad141.add ((x5_1).toNat * 13)).off + 12, none⟩ = some (.bool ((rd_T40 l0 x5_1).f2)) ∧ w'.cell? (ad142.add ((x5_1).toNat * 13)) = some (.int .u64 ((rd_T40 l1 x5_1).f0.f0)) ∧ w'.cell? ⟨(ad142.add ((x5_1).toNat * 13)).block, (ad142.add ((x5_1).toNat * 13)).off + 1, none⟩ = some (.int .u64 ((rd_T40 l1 x5_1).f0.f1)) ∧ w'.cell? ⟨(ad142.add ((x5_1).toNat * 13)).block, (ad142.add ((x5_1).toNat * 13)).off + 2, none⟩ = some (.int .u64 ((rd_T40 l1 x5_1).f0.f2)) ∧ w'.cell? ⟨(ad142.add ((x5_1).toNat * 13)).block, (ad142.add ((x5_1).toNat * 13)).off + 3, none⟩ = some (.string ((rd_T40 l1 x5_1).f0.f3)) ∧ w'.cell? ⟨(ad142.add ((x5_1).toNat * 13)).block, (ad142.add ((x5_1).toNat * 13)).off + 4, none⟩ = some (.string ((rd_T40 l1 x5_1).f0.f4)) ∧ w'.cell? ⟨(ad142.add ((x5_1).toNat * 13)).block, (ad142.add ((x5_1).toNat * 13)).off + 5, none⟩ = some (.int .i64 ((rd_T40 l1 x5_1).f0.f5)) ∧ w'.cell? ⟨(ad142.add ((x5_1).toNat * 13)).block, (ad142.add ((x5_1).toNat * 13)).off + 6, none⟩ = some (.int .i64 ((rd_T40 l1 x5_1).f0.f6)) ∧ w'.cell? ⟨(ad142.add ((x5_1).toNat * 13)).block, (ad142.add ((x5_1).toNat * 13)).off + 7, none⟩ = some (.int .i64 ((rd_T40 l1 x5_1).f0.f7)) ∧ w'.cell? ⟨(ad142.add ((x5_1).toNat * 13)).block, (ad142.add ((x5_1).toNat * 13)).off + 8, none⟩ = some (.slice A145_8 ((rd_T40 l1 x5_1).f0.f8).length c145_8) ∧ w'.cell? ⟨(ad142.add ((x5_1).toNat * 13)).block, (ad142.add ((x5_1).toNat * 13)).off + 9, none⟩ = some (.slice A145_9 ((rd_T40 l1 x5_1).f0.f9).length c145_9) ∧ w'.cell? ⟨(ad142.add ((x5_1).toNat * 13)).block, (ad142.add ((x5_1).toNat * 13)).off + 10, none⟩ = some (.slice A145_10 ((rd_T40 l1 x5_1).f0.f10).length c145_10) ∧ w'.cell? ⟨(ad142.add ((x5_1).toNat * 13)).block, (ad142.add ((x5_1).toNat * 13)).off + 11, none⟩ = some (.int .i64 ((rd_T40 l1 x5_1).f1)) ∧ w'.cell? ⟨(ad142.add ((x5_1).toNat * 13)).block, (ad142.add ((x5_1).toNat * 13)).off + 12, none⟩ = some (.bool ((rd_T40 l1 x5_1).f2)) ∧ w'.cell? (ad141.add ((x5_1).toNat * 13)) = some (.int .u64 ((rd_T40 l0 x5_1).f0.f0)) ∧ w'.cell? ⟨(ad141.add ((x5_1).toNat * 13)).block, (ad141.add ((x5_1).toNat * 13)).off + 1, none⟩ = some (.int .u64 ((rd_T40 l0 x5_1).f0.f1)) ∧ w'.cell? ⟨(ad141.add ((x5_1).toNat * 13)).block, (ad141.add ((x5_1).toNat * 13)).off + 2, none⟩ = some (.int .u64 ((rd_T40 l0 x5_1).f0.f2)) ∧ w'.cell? ⟨(ad141.add ((x5_1).toNat * 13)).block, (ad141.add ((x5_1).toNat * 13)).off + 3, none⟩ = some (.string ((rd_T40 l0 x5_1).f0.f3)) ∧ w'.cell? ⟨(ad141.add ((x5_1).toNat * 13)).block, (ad141.add ((x5_1).toNat * 13)).off + 4, none⟩ = some (.string ((rd_T40 l0 x5_1).f0.f4)) ∧ w'.cell? ⟨(ad141.add ((x5_1).toNat * 13)).block, (ad141.add ((x5_1).toNat * 13)).off + 5, none⟩ = some (.int .i64 ((rd_T40 l0 x5_1).f0.f5)) ∧ w'.cell? ⟨(ad141.add ((x5_1).toNat * 13)).block, (ad141.add ((x5_1).toNat * 13)).off + 6, none⟩ = some (.int .i64 ((rd_T40 l0 x5_1).f0.f6)) ∧ w'.cell? ⟨(ad141.add ((x5_1).toNat * 13)).block, (ad141.add ((x5_1).toNat * 13)).off + 7, none⟩ = some (.int .i64 ((rd_T40 l0 x5_1).f0.f7)) ∧ w'.cell? ⟨(ad141.add ((x5_1).toNat * 13)).block, (ad141.add ((x5_1).toNat * 13)).off + 8, none⟩ = some (.slice A144_8 ((rd_T40 l0 x5_1).f0.f8).length c144_8) ∧ w'.cell? ⟨(ad141.add ((x5_1).toNat * 13)).block, (ad141.add ((x5_1).toNat * 13)).off + 9, none⟩ = some (.slice A144_9 ((rd_T40 l0 x5_1).f0.f9).length c144_9) ∧ w'.cell? ⟨(ad141.add ((x5_1).toNat * 13)).block, (ad141.add ((x5_1).toNat * 13)).off + 10, none⟩ = some (.slice A144_10 ((rd_T40 l0 x5_1).f0.f10).length c144_10) ∧ w'.cell? ⟨(ad141.add ((x5_1).toNat * 13)).block, (ad141.add ((x5_1).toNat * 13)).off + 11, none⟩ = some (.int .i64 ((rd_T40 l0 x5_1).f1)) ∧ w'.cell? ⟨(ad141.add ((x5_1).toNat * 13)).block, (ad141.add ((x5_1).toNat * 13)).off + 12, none⟩ = some (.bool ((rd_T40 l0 x5_1).f2)) ∧ w'.cell? (ad142.add ((x5_1).toNat * 13)) = some (.int .u64 ((rd_T40 l1 x5_1).f0.f0)) ∧ w'.cell? ⟨(ad142.add ((x5_1).toNat * 13)).block, (ad142.add ((x5_1).toNat * 13)).off + 1, none⟩ = some (.int .u64 ((rd_T40 l1 x5_1).f0.f1)) ∧ w'.cell? ⟨(ad142.add ((x5_1).toNat * 13)).block, (ad142.add ((x5_1).toNat * 13)).off + 2, none⟩ = some (.int .u64 ((rd_T40 l1 x5_1).f0.f2)) ∧ w'.cell? ⟨(ad142.add ((x5_1).toNat * 13)).block, (ad142.add ((x5_1).toNat * 13)).off + 3, none⟩ = some (.string ((rd_T40 l1 x5_1).f0.f3)) ∧ w'.cell? ⟨(ad142.add ((x5_1).toNat * 13)).block, (ad142.add ((x5_1).toNat * 13)).off + 4, none⟩ = some (.string ((rd_T40 l1 x5_1).f0.f4)) ∧ w'.cell? ⟨(ad142.add ((x5_1).toNat * 13)).block, (ad142.add ((x5_1).toNat * 13)).off + 5, none⟩ = some (.int .i64 ((rd_T40 l1 x5_1).f0.f5)) ∧ w'.cell? ⟨(ad142.add ((x5_1).toNat * 13)).block, (ad142.add ((x5_1).toNat * 13)).off + 6, none⟩ = some (.int .i64 ((rd_T40 l1 x5_1).f0.f6)) ∧ w'.cell? ⟨(ad142.add ((x5_1).toNat * 13)).block, (ad142.add ((x5_1).toNat * 13)).off + 7, none⟩ = some (.int .i64 ((rd_T40 l1 x5_1).f0.f7)) ∧ w'.cell? ⟨(ad142.add ((x5_1).toNat * 13)).block, (ad142.add ((x5_1).toNat * 13)).off + 8, none⟩ = some (.slice A145_8 ((rd_T40 l1 x5_1).f0.f8).length c145_8) ∧ w'.cell? ⟨(ad142.add ((x5_1).toNat * 13)).block, (ad142.add ((x5_1).toNat * 13)).off + 9, none⟩ = some (.slice A145_9 ((rd_T40 l1 x5_1).f0.f9).length c145_9) ∧ w'.cell? ⟨(ad142.add ((x5_1).toNat * 13)).block, (ad142.add ((x5_1).toNat * 13)).off + 10, none⟩ = some (.slice A145_10 ((rd_T40 l1 x5_1).f0.f10).length c145_10) ∧ w'.cell? ⟨(ad142.add ((x5_1).toNat * 13)).block, (ad142.add ((x5_1).toNat * 13)).off + 11, none⟩ = some (.int .i64 ((rd_T40 l1 x5_1).f1)) ∧ w'.cell? ⟨(ad142.add ((x5_1).toNat * 13)).block, (ad142.add ((x5_1).toNat * 13)).off + 12, none⟩ = some (.bool ((rd_T40 l1 x5_1).f2))) (ds := []) #[false, false, false, false, false, false, false, false, false, false, false, false, false, false, false, false, false, false, false, false, false, false, false, false, false, false, false, false, false, false, false, false, false, false, false, false, false, false] (by kernel_rfl) rfl rfl ⟨(q9h HB.out hw141_0:), (q9h HB.out hw141_1:), (q9h HB.out hw141_2:), (q9h HB.out hw141_3:), (q9h HB.out hw141_4:), (q9h HB.out hw141_5:), (q9h HB.out hw141_6:), (q9h HB.out hw141_7:), (q9h HB.out hw141_8:), (q9h HB.out hw141_9:), (q9h HB.out hw141_10:), (q9h HB.out hw141_11:), (q9h HB.out hw141_12:), (q9h HB.out hw142_0:), (q9h HB.out hw142_1:), (q9h HB.out hw142_2:), (q9h HB.out hw142_3:), (q9h HB.out hw142_4:), (q9h HB.out hw142_5:), (q9h HB.out hw142_6:), (q9h HB.out hw142_7:), (q9h HB.out hw142_8:), (q9h HB.out hw142_9:), (q9h HB.out hw142_10:), (q9h HB.out hw142_11:), (q9h HB.out hw142_12:), (q9h HB.out hw144_0:), (q9h HB.out hw144_1:), (q9h HB.out hw144_2:), (q9h HB.out hw144_3:), (q9h HB.out hw144_4:), (q9h HB.out hw144_5:), (q9h HB.out hw144_6:), (q9h HB.out hw144_7:), (q9h HB.out hw144_8:), (q9h HB.out hw144_9:), (q9h HB.out hw144_10:), (q9h HB.out hw144_11:), (q9h HB.out hw144_12:), (q9h HB.out hw145_0:), (q9h HB.out hw145_1:), (q9h HB.out hw145_2:), (q9h HB.out hw145_3:), (q9h HB.out hw145_4:), (q9h HB.out hw145_5:), (q9h HB.out hw145_6:), (q9h HB.out hw145_7:), (q9h HB.out hw145_8:), (q9h HB.out hw145_9:), (q9h HB.out hw145_10:), (q9h HB.out hw145_11:), (q9h HB.out hw145_12:), (q9h HB.out hw146_0:), (q9h HB.out hw146_1:), (q9h HB.out hw146_2:), (q9h HB.out hw146_3:), (q9h HB.out hw146_4:), (q9h HB.out hw146_5:), (q9h HB.out hw146_6:), (q9h HB.out hw146_7:), (q9h HB.out hw146_8:), (q9h HB.out hw146_9:), (q9h HB.out hw146_10:), (q9h HB.out hw146_11:), (q9h HB.out hw146_12:), (q9h HB.out hw147_0:), (q9h HB.out hw147_1:), (q9h HB.out hw147_2:), (q9h HB.out hw147_3:), (q9h HB.out hw147_4:), (q9h HB.out hw147_5:), (q9h HB.out hw147_6:), (q9h HB.out hw147_7:), (q9h HB.out hw147_8:), (q9h HB.out hw147_9:), (q9h HB.out hw147_10:), (q9h HB.out hw147_11:), (q9h HB.out hw147_12:)⟩ (fun hHeld => ?_); refine with_tabW cambiumlaw26_Lines.tab6 cambiumlaw26_Lines.bits6 (fun HT_ HW_ => ?_)
     generalize wr.drew = w11 at HB HR141_10 HR141_8 HR141_9 HR142_10 HR142_8 HR142_9 HR144_10 HR144_8 HR144_9 HR145_10 HR145_8 HR145_9 HR146_10 HR146_8 HR146_9 HR147_10 HR147_8 HR147_9 hx141_0 hx141_1 hx141_10 hx141_11 hx141_12 hx141_2 hx141_3 hx141_4 hx141_5 hx141_6 hx141_7 hx141_8 hx141_9 hx142_0 hx142_1 hx142_10 hx142_11 hx142_12 hx142_2 hx142_3 hx142_4 hx142_5 hx142_6 hx142_7 hx142_8 hx142_9 hx144_0 hx144_1 hx144_10 hx144_11 hx144_12 hx144_2 hx144_3 hx144_4 hx144_5 hx144_6 hx144_7 hx144_8 hx144_9 hx145_0 hx145_1 hx145_10 hx145_11 hx145_12 hx145_2 hx145_3 hx145_4 hx145_5 hx145_6 hx145_7 hx145_8 hx145_9 hx146_0 hx146_1 hx146_10 hx146_11 hx146_12 hx146_2 hx146_3 hx146_4 hx146_5 hx146_6 hx146_7 hx146_8 hx146_9 hx147_0 hx147_1 hx147_10 hx147_11 hx147_12 hx147_2 hx147_3 hx147_4 hx147_5 hx147_6 hx147_7 hx147_8 hx147_9 hHeld ⊢
     refine q9p (i := 0) (N := some 17) (q9m 38 1) HT_.out ?_
     refine q9p (i := 1) (N := some 18) (q9m 38 3) HT_.out ?_
     refine q9p (i := 2) (N := some 19) (q9m 38 7) HT_.out ?_
     refine q9p (i := 3) (N := some 20) (q9m 38 15) HT_.out ?_
     refine q9p (i := 5) (N := some 22) (q9m 38 47) HT_.out ?_
     refine q9p (i := 6) (N := some 23) (q9m 38 111) HT_.out ?_
     refine q9p (i := 7) (N := some 24) (q9m 38 239) HT_.out ?_
     refine q9p (i := 8) (N := some 25) (q9m 38 495) HT_.out ?_
     refine take_ (i := 4) (N := some 21) (v := ?_) (a' := ?_) (q9m 38 511) rfl rfl (take_ofW HT_.out HW_.out (by kernel_rfl)) (fun _ _ _ h => h) (Or.inl ⟨by rfl, ?_⟩) hHeld ?_ ?_; rotate_left; (rintro w' ⟨s0, s1, s2, s3, s4, s5, s6, s7, s8, s9, s10, s11, s12, s13, s14, s15, s16, s17, s18, s19, s20, s21, s22, s23, s24, s25, s26, s27, s28, s29, s30, s31, s32, s33, s34, s35, s36, s37, s38, s39, s40, s41, s42, s43, s44, s45, s46, s47, s48, s49, s50, s51, s52, s53, s54, s55, s56, s57, s58, s59, s60, s61, s62, s63, s64, s65, s66, s67, s68, s69, s70, s71, s72, s73, s74, s75, s76, s77⟩; go_simp; with_reducible rfl); rotate_left; (simp only [Act.put, q9a, q9b, q9c, i64_w, i32_w]; rfl)
     refine take_ (i := 9) (N := some 26) (v := ?_) (a' := ?_) (q9m 38 1023) rfl rfl (take_ofW HT_.out HW_.out (by kernel_rfl)) (fun _ _ _ h => h) (Or.inl ⟨by rfl, ?_⟩) hHeld ?_ ?_; rotate_left; (rintro w' ⟨s0, s1, s2, s3, s4, s5, s6, s7, s8, s9, s10, s11, s12, s13, s14, s15, s16, s17, s18, s19, s20, s21, s22, s23, s24, s25, s26, s27, s28, s29, s30, s31, s32, s33, s34, s35, s36, s37, s38, s39, s40, s41, s42, s43, s44, s45, s46, s47, s48, s49, s50, s51, s52, s53, s54, s55, s56, s57, s58, s59, s60, s61, s62, s63, s64, s65, s66, s67, s68, s69, s70, s71, s72, s73, s74, s75, s76, s77⟩; go_simp; with_reducible rfl); rotate_left; (simp only [Act.put, q9a, q9b, q9c, i64_w, i32_w]; rfl)
     refine one_ (i := 10) (N := some 27) (q9m 38 2047) rfl rfl (one_of HT_.out (by kernel_rfl)) (by decide) (fun K hK => ?_)
     refine goes_ Try.func20 (by kernel_rfl) rfl #[.agg #[.int .u64 ((rd_T40 l0 x5_1).f0.f0), .int .u64 ((rd_T40 l0 x5_1).f0.f1), .int .u64 ((rd_T40 l0 x5_1).f0.f2), .string ((rd_T40 l0 x5_1).f0.f3), .string ((rd_T40 l0 x5_1).f0.f4), .int .i64 ((rd_T40 l0 x5_1).f0.f5), .int .i64 ((rd_T40 l0 x5_1).f0.f6), .int .i64 ((rd_T40 l0 x5_1).f0.f7), .slice A141_8 ((rd_T40 l0 x5_1).f0.f8).length c141_8, .slice A141_9 ((rd_T40 l0 x5_1).f0.f9).length c141_9, .slice A141_10 ((rd_T40 l0 x5_1).f0.f10).length c141_10], .agg #[.int .u64 ((rd_T40 l1 x5_1).f0.f0), .int .u64 ((rd_T40 l1 x5_1).f0.f1), .int .u64 ((rd_T40 l1 x5_1).f0.f2), .string ((rd_T40 l1 x5_1).f0.f3), .string ((rd_T40 l1 x5_1).f0.f4), .int .i64 ((rd_T40 l1 x5_1).f0.f5), .int .i64 ((rd_T40 l1 x5_1).f0.f6), .int .i64 ((rd_T40 l1 x5_1).f0.f7), .slice A142_8 ((rd_T40 l1 x5_1).f0.f8).length c142_8, .slice A142_9 ((rd_T40 l1 x5_1).f0.f9).length c142_9, .slice A142_10 ((rd_T40 l1 x5_1).f0.f10).length c142_10]] (by rfl) rfl rfl q9y1 ?_
     with_reducible refine (cambiumref16_Same.calls k1 ((rd_T40 l0 x5_1).f0.f0) ((rd_T40 l0 x5_1).f0.f1) ((rd_T40 l0 x5_1).f0.f2) ((rd_T40 l0 x5_1).f0.f3) ((rd_T40 l0 x5_1).f0.f4) ((rd_T40 l0 x5_1).f0.f5) ((rd_T40 l0 x5_1).f0.f6) ((rd_T40 l0 x5_1).f0.f7) _ _ ((rd_T40 l0 x5_1).f0.f8) _ _ ((rd_T40 l0 x5_1).f0.f9) _ _ ((rd_T40 l0 x5_1).f0.f10) ((rd_T40 l1 x5_1).f0.f0) ((rd_T40 l1 x5_1).f0.f1) ((rd_T40 l1 x5_1).f0.f2) ((rd_T40 l1 x5_1).f0.f3) ((rd_T40 l1 x5_1).f0.f4) ((rd_T40 l1 x5_1).f0.f5) ((rd_T40 l1 x5_1).f0.f6) ((rd_T40 l1 x5_1).f0.f7) _ _ ((rd_T40 l1 x5_1).f0.f8) _ _ ((rd_T40 l1 x5_1).f0.f9) _ _ ((rd_T40 l1 x5_1).f0.f10) true _ ?side1 ?side2 ?side3 ?side4 ?side5 ?side6 ?side7 ?side8 ?side9 ?side10 ?side11 ?side12 A7.out).mono ?_
     (case side1 => repeat (first | exact (Kd.C_below HR141_8.out HB.out) | (with_reducible refine Kd.C_alloc ?_ _) | (with_reducible refine Kd.C_drewN ?_ _) | (with_reducible refine Kd.C_drew ?_)))
     (case side2 => exact HC141_8.out)
     (case side3 => repeat (first | exact (Kd.C_below HR141_9.out HB.out) | (with_reducible refine Kd.C_alloc ?_ _) | (with_reducible refine Kd.C_drewN ?_ _) | (with_reducible refine Kd.C_drew ?_)))
     (case side4 => exact HC141_9.out)
     (case side5 => repeat (first | exact (Kd.C_below HR141_10.out HB.out) | (with_reducible refine Kd.C_alloc ?_ _) | (with_reducible refine Kd.C_drewN ?_ _) | (with_reducible refine Kd.C_drew ?_)))
     (case side6 => exact HC141_10.out)
     (case side7 => repeat (first | exact (Kd.C_below HR142_8.out HB.out) | (with_reducible refine Kd.C_alloc ?_ _) | (with_reducible refine Kd.C_drewN ?_ _) | (with_reducible refine Kd.C_drew ?_)))
     (case side8 => exact HC142_8.out)
     (case side9 => repeat (first | exact (Kd.C_below HR142_9.out HB.out) | (with_reducible refine Kd.C_alloc ?_ _) | (with_reducible refine Kd.C_drewN ?_ _) | (with_reducible refine Kd.C_drew ?_)))
     (case side10 => exact HC142_9.out)
     (case side11 => repeat (first | exact (Kd.C_below HR142_10.out HB.out) | (with_reducible refine Kd.C_alloc ?_ _) | (with_reducible refine Kd.C_drewN ?_ _) | (with_reducible refine Kd.C_drew ?_)))
     (case side12 => exact HC142_10.out)
     rintro e w12 ⟨rfl, hb⟩
     refine ⟨_, rfl, ?_⟩
     have n0_ := Aside0.mk (below_step q9y2 hb)
     clear HB
     have HB := n0_
     clear n0_
     (try clear hb)
     (try clear hb2)
     (try clear hk)
     (try clear hi)
     refine hK.out _ _ ⟨(q9h HB.out hw141_0:), (q9h HB.out hw141_1:), (q9h HB.out hw141_2:), (q9h HB.out hw141_3:), (q9h HB.out hw141_4:), (q9h HB.out hw141_5:), (q9h HB.out hw141_6:), (q9h HB.out hw141_7:), (q9h HB.out hw141_8:), (q9h HB.out hw141_9:), (q9h HB.out hw141_10:), (q9h HB.out hw141_11:), (q9h HB.out hw141_12:), (q9h HB.out hw142_0:), (q9h HB.out hw142_1:), (q9h HB.out hw142_2:), (q9h HB.out hw142_3:), (q9h HB.out hw142_4:), (q9h HB.out hw142_5:), (q9h HB.out hw142_6:), (q9h HB.out hw142_7:), (q9h HB.out hw142_8:), (q9h HB.out hw142_9:), (q9h HB.out hw142_10:), (q9h HB.out hw142_11:), (q9h HB.out hw142_12:), (q9h HB.out hw144_0:), (q9h HB.out hw144_1:), (q9h HB.out hw144_2:), (q9h HB.out hw144_3:), (q9h HB.out hw144_4:), (q9h HB.out hw144_5:), (q9h HB.out hw144_6:), (q9h HB.out hw144_7:), (q9h HB.out hw144_8:), (q9h HB.out hw144_9:), (q9h HB.out hw144_10:), (q9h HB.out hw144_11:), (q9h HB.out hw144_12:), (q9h HB.out hw145_0:), (q9h HB.out hw145_1:), (q9h HB.out hw145_2:), (q9h HB.out hw145_3:), (q9h HB.out hw145_4:), (q9h HB.out hw145_5:), (q9h HB.out hw145_6:), (q9h HB.out hw145_7:), (q9h HB.out hw145_8:), (q9h HB.out hw145_9:), (q9h HB.out hw145_10:), (q9h HB.out hw145_11:), (q9h HB.out hw145_12:), (q9h HB.out hw146_0:), (q9h HB.out hw146_1:), (q9h HB.out hw146_2:), (q9h HB.out hw146_3:), (q9h HB.out hw146_4:), (q9h HB.out hw146_5:), (q9h HB.out hw146_6:), (q9h HB.out hw146_7:), (q9h HB.out hw146_8:), (q9h HB.out hw146_9:), (q9h HB.out hw146_10:), (q9h HB.out hw146_11:), (q9h HB.out hw146_12:), (q9h HB.out hw147_0:), (q9h HB.out hw147_1:), (q9h HB.out hw147_2:), (q9h HB.out hw147_3:), (q9h HB.out hw147_4:), (q9h HB.out hw147_5:), (q9h HB.out hw147_6:), (q9h HB.out hw147_7:), (q9h HB.out hw147_8:), (q9h HB.out hw147_9:), (q9h HB.out hw147_10:), (q9h HB.out hw147_11:), (q9h HB.out hw147_12:)⟩ (fun hHeld => ?_)
     clear hK K
     refine norm_ (a' := ?_) ?_ ?_
     rotate_left
     ·show Act.put _ (some 27) _ = _
      simp only [Act.put, q9a, q9b, q9c, i64_w, i32_w]
      rfl
     refine q9p (i := 11) (N := some 28) (q9m 38 4095) HT_.out ?_
     refine q9p (i := 12) (N := some 29) (q9m 38 8191) HT_.out ?_
     refine q9p (i := 13) (N := some 30) (q9m 38 16383) HT_.out ?_
     refine q9p (i := 14) (N := some 31) (q9m 38 32767) HT_.out ?_
     refine q9p (i := 15) (N := some 32) (q9m 38 65535) HT_.out ?_
     refine q9p (i := 16) (N := some 33) (q9m 38 131071) HT_.out ?_
     refine q9p (i := 18) (N := some 35) (q9m 38 393215) HT_.out ?_
     refine q9p (i := 19) (N := some 36) (q9m 38 917503) HT_.out ?_
     refine q9p (i := 20) (N := some 37) (q9m 38 1966079) HT_.out ?_
     refine q9p (i := 21) (N := some 38) (q9m 38 4063231) HT_.out ?_
     refine take_ (i := 17) (N := some 34) (v := ?_) (a' := ?_) (q9m 38 4194303) rfl rfl (take_ofW HT_.out HW_.out (by kernel_rfl)) (fun _ _ _ h => h) (Or.inl ⟨by rfl, ?_⟩) hHeld ?_ ?_; rotate_left; (rintro w' ⟨s0, s1, s2, s3, s4, s5, s6, s7, s8, s9, s10, s11, s12, s13, s14, s15, s16, s17, s18, s19, s20, s21, s22, s23, s24, s25, s26, s27, s28, s29, s30, s31, s32, s33, s34, s35, s36, s37, s38, s39, s40, s41, s42, s43, s44, s45, s46, s47, s48, s49, s50, s51, s52, s53, s54, s55, s56, s57, s58, s59, s60, s61, s62, s63, s64, s65, s66, s67, s68, s69, s70, s71, s72, s73, s74, s75, s76, s77⟩; go_simp; with_reducible rfl); rotate_left; (simp only [Act.put, q9a, q9b, q9c, i64_w, i32_w]; rfl)
     refine take_ (i := 22) (N := some 39) (v := ?_) (a' := ?_) (q9m 38 8388607) rfl rfl (take_ofW HT_.out HW_.out (by kernel_rfl)) (fun _ _ _ h => h) (Or.inl ⟨by rfl, ?_⟩) hHeld ?_ ?_; rotate_left; (rintro w' ⟨s0, s1, s2, s3, s4, s5, s6, s7, s8, s9, s10, s11, s12, s13, s14, s15, s16, s17, s18, s19, s20, s21, s22, s23, s24, s25, s26, s27, s28, s29, s30, s31, s32, s33, s34, s35, s36, s37, s38, s39, s40, s41, s42, s43, s44, s45, s46, s47, s48, s49, s50, s51, s52, s53, s54, s55, s56, s57, s58, s59, s60, s61, s62, s63, s64, s65, s66, s67, s68, s69, s70, s71, s72, s73, s74, s75, s76, s77⟩; go_simp; with_reducible rfl); rotate_left; (simp only [Act.put, q9a, q9b, q9c, i64_w, i32_w]; rfl)
     refine q9p (i := 23) (N := some 40) (q9m 38 16777215) HT_.out ?_
     refine q9p (i := 24) (N := some 41) (q9m 38 33554431) HT_.out ?_
     refine q9p (i := 25) (N := some 42) (q9m 38 67108863) HT_.out ?_
     refine q9p (i := 26) (N := some 43) (q9m 38 134217727) HT_.out ?_
     refine q9p (i := 27) (N := some 44) (q9m 38 268435455) HT_.out ?_
     refine q9p (i := 28) (N := some 45) (q9m 38 536870911) HT_.out ?_
     refine q9p (i := 29) (N := some 46) (q9m 38 1073741823) HT_.out ?_
     refine q9p (i := 31) (N := some 48) (q9m 38 3221225471) HT_.out ?_
     refine q9p (i := 32) (N := some 49) (q9m 38 7516192767) HT_.out ?_
     refine q9p (i := 33) (N := some 50) (q9m 38 16106127359) HT_.out ?_
     refine q9p (i := 34) (N := some 51) (q9m 38 33285996543) HT_.out ?_
     refine take_ (i := 30) (N := some 47) (v := ?_) (a' := ?_) (q9m 38 34359738367) rfl rfl (take_ofW HT_.out HW_.out (by kernel_rfl)) (fun _ _ _ h => h) (Or.inl ⟨by rfl, ?_⟩) hHeld ?_ ?_; rotate_left; (rintro w' ⟨s0, s1, s2, s3, s4, s5, s6, s7, s8, s9, s10, s11, s12, s13, s14, s15, s16, s17, s18, s19, s20, s21, s22, s23, s24, s25, s26, s27, s28, s29, s30, s31, s32, s33, s34, s35, s36, s37, s38, s39, s40, s41, s42, s43, s44, s45, s46, s47, s48, s49, s50, s51, s52, s53, s54, s55, s56, s57, s58, s59, s60, s61, s62, s63, s64, s65, s66, s67, s68, s69, s70, s71, s72, s73, s74, s75, s76, s77⟩; go_simp; with_reducible rfl); rotate_left; (simp only [Act.put, q9a, q9b, q9c, i64_w, i32_w]; rfl)
     refine take_ (i := 35) (N := some 52) (v := ?_) (a' := ?_) (q9m 38 68719476735) rfl rfl (take_ofW HT_.out HW_.out (by kernel_rfl)) (fun _ _ _ h => h) (Or.inl ⟨by rfl, ?_⟩) hHeld ?_ ?_; rotate_left; (rintro w' ⟨s0, s1, s2, s3, s4, s5, s6, s7, s8, s9, s10, s11, s12, s13, s14, s15, s16, s17, s18, s19, s20, s21, s22, s23, s24, s25, s26, s27, s28, s29, s30, s31, s32, s33, s34, s35, s36, s37, s38, s39, s40, s41, s42, s43, s44, s45, s46, s47, s48, s49, s50, s51, s52, s53, s54, s55, s56, s57, s58, s59, s60, s61, s62, s63, s64, s65, s66, s67, s68, s69, s70, s71, s72, s73, s74, s75, s76, s77⟩; go_simp; with_reducible rfl); rotate_left; (simp only [Act.put, q9a, q9b, q9c, i64_w, i32_w]; rfl)
     refine q9p (i := 36) (N := some 53) (q9m 38 137438953471) HT_.out ?_
     refine q9p (i := 37) (N := some 54) (q9m 38 274877906943) HT_.out ?_
     refine done_ (done_of HT_.out (by kernel_rfl)) ?_
     try go_wp2
     go_ret
     exact ⟨by first | rfl | (simp [errW_none, errW_some] <;> rfl) | (simp [*, errW_none, errW_some] <;> rfl), by repeat (first | (with_reducible first | exact HB.out | apply below_alloc | apply pw_below_drewN | apply below_drew1) | exact HB.out)⟩
   rw [if_neg c10] at H
   have c10b0 : (((rd_T40 l0 x5_1).f2) != ((rd_T40 l1 x5_1).f2)) = false := by simpa using c10
   (try (have c10b1 : decide (((rd_T40 l0 x5_1).f2) = ((rd_T40 l1 x5_1).f2)) = true := by simpa using c10))
   (try (have c10b2 : (((rd_T40 l0 x5_1).f2) == ((rd_T40 l1 x5_1).f2)) = true := by simpa using c10))
   clear c10
   have H' := Aside0.mk H
   clear H
   try go_wp2
   have n0_ := Aside0.mk (below_drew1 HB.out)
   clear HB
   have HB := n0_
   clear n0_
   have p141 : 0 ≤ (x5_1 : Int) := of_decide_eq_true q9y0
   have q141 : x5_1 < (l0.length : Int) := of_decide_eq_true q9y0
   obtain ⟨ad141, A141_8, c141_8, A141_9, c141_9, A141_10, c141_10, e141, hx141_0, hx141_1, hx141_2, hx141_3, hx141_4, hx141_5, hx141_6, hx141_7, hx141_8, hx141_9, hx141_10, hx141_11, hx141_12, hl141_8, hi141_8, hl141_9, hi141_9, hl141_10, hi141_10⟩ := at_T40 HR0.out x5_1 p141 q141
   have hw141_12 := hx141_12
   have hw141_11 := hx141_11
   have hw141_10 := hx141_10
   have hw141_9 := hx141_9
   have hw141_8 := hx141_8
   have hw141_7 := hx141_7
   have hw141_6 := hx141_6
   have hw141_5 := hx141_5
   have hw141_4 := hx141_4
   have hw141_3 := hx141_3
   have hw141_2 := hx141_2
   have hw141_1 := hx141_1
   have hw141_0 := hx141_0
   cases e141
   replace hx141_0 := (HB.out.cell (World.block_lt_of_cell? w _ hx141_0)).trans hx141_0
   replace hx141_1 := (HB.out.cell (World.block_lt_of_cell? w _ hx141_1)).trans hx141_1
   replace hx141_2 := (HB.out.cell (World.block_lt_of_cell? w _ hx141_2)).trans hx141_2
   replace hx141_3 := (HB.out.cell (World.block_lt_of_cell? w _ hx141_3)).trans hx141_3
   replace hx141_4 := (HB.out.cell (World.block_lt_of_cell? w _ hx141_4)).trans hx141_4
   replace hx141_5 := (HB.out.cell (World.block_lt_of_cell? w _ hx141_5)).trans hx141_5
   replace hx141_6 := (HB.out.cell (World.block_lt_of_cell? w _ hx141_6)).trans hx141_6
   replace hx141_7 := (HB.out.cell (World.block_lt_of_cell? w _ hx141_7)).trans hx141_7
   replace hx141_8 := (HB.out.cell (World.block_lt_of_cell? w _ hx141_8)).trans hx141_8
   replace hx141_9 := (HB.out.cell (World.block_lt_of_cell? w _ hx141_9)).trans hx141_9
   replace hx141_10 := (HB.out.cell (World.block_lt_of_cell? w _ hx141_10)).trans hx141_10
   replace hx141_11 := (HB.out.cell (World.block_lt_of_cell? w _ hx141_11)).trans hx141_11
   replace hx141_12 := (HB.out.cell (World.block_lt_of_cell? w _ hx141_12)).trans hx141_12
   have HR141_8 := Aside0.mk hi141_8
   have HC141_8 := Aside0.mk hl141_8
   clear hi141_8 hl141_8
   have HR141_9 := Aside0.mk hi141_9
   have HC141_9 := Aside0.mk hl141_9
   clear hi141_9 hl141_9
   have HR141_10 := Aside0.mk hi141_10
   have HC141_10 := Aside0.mk hl141_10
   clear hi141_10 hl141_10
   replace p141 := eq_true p141
   replace q141 := eq_true q141
   have p142 : 0 ≤ (x5_1 : Int) := of_decide_eq_true q9y0
   have q142 : x5_1 < (l1.length : Int) := of_decide_eq_true q9y0
   obtain ⟨ad142, A142_8, c142_8, A142_9, c142_9, A142_10, c142_10, e142, hx142_0, hx142_1, hx142_2, hx142_3, hx142_4, hx142_5, hx142_6, hx142_7, hx142_8, hx142_9, hx142_10, hx142_11, hx142_12, hl142_8, hi142_8, hl142_9, hi142_9, hl142_10, hi142_10⟩ := at_T40 HR1.out x5_1 p142 q142
   have hw142_12 := hx142_12
   have hw142_11 := hx142_11
   have hw142_10 := hx142_10
   have hw142_9 := hx142_9
   have hw142_8 := hx142_8
   have hw142_7 := hx142_7
   have hw142_6 := hx142_6
   have hw142_5 := hx142_5
   have hw142_4 := hx142_4
   have hw142_3 := hx142_3
   have hw142_2 := hx142_2
   have hw142_1 := hx142_1
   have hw142_0 := hx142_0
   cases e142
   replace hx142_0 := (HB.out.cell (World.block_lt_of_cell? w _ hx142_0)).trans hx142_0
   replace hx142_1 := (HB.out.cell (World.block_lt_of_cell? w _ hx142_1)).trans hx142_1
   replace hx142_2 := (HB.out.cell (World.block_lt_of_cell? w _ hx142_2)).trans hx142_2
   replace hx142_3 := (HB.out.cell (World.block_lt_of_cell? w _ hx142_3)).trans hx142_3
   replace hx142_4 := (HB.out.cell (World.block_lt_of_cell? w _ hx142_4)).trans hx142_4
   replace hx142_5 := (HB.out.cell (World.block_lt_of_cell? w _ hx142_5)).trans hx142_5
   replace hx142_6 := (HB.out.cell (World.block_lt_of_cell? w _ hx142_6)).trans hx142_6
   replace hx142_7 := (HB.out.cell (World.block_lt_of_cell? w _ hx142_7)).trans hx142_7
   replace hx142_8 := (HB.out.cell (World.block_lt_of_cell? w _ hx142_8)).trans hx142_8
   replace hx142_9 := (HB.out.cell (World.block_lt_of_cell? w _ hx142_9)).trans hx142_9
   replace hx142_10 := (HB.out.cell (World.block_lt_of_cell? w _ hx142_10)).trans hx142_10
   replace hx142_11 := (HB.out.cell (World.block_lt_of_cell? w _ hx142_11)).trans hx142_11
   replace hx142_12 := (HB.out.cell (World.block_lt_of_cell? w _ hx142_12)).trans hx142_12
   have HR142_8 := Aside0.mk hi142_8
   have HC142_8 := Aside0.mk hl142_8
   clear hi142_8 hl142_8
   have HR142_9 := Aside0.mk hi142_9
   have HC142_9 := Aside0.mk hl142_9
   clear hi142_9 hl142_9
   have HR142_10 := Aside0.mk hi142_10
   have HC142_10 := Aside0.mk hl142_10
   clear hi142_10 hl142_10
   replace p142 := eq_true p142
   replace q142 := eq_true q142
   have p144 : 0 ≤ (x5_1 : Int) := of_decide_eq_true q9y0
   have q144 : x5_1 < (l0.length : Int) := of_decide_eq_true q9y0
   obtain ⟨ad144, A144_8, c144_8, A144_9, c144_9, A144_10, c144_10, e144, hx144_0, hx144_1, hx144_2, hx144_3, hx144_4, hx144_5, hx144_6, hx144_7, hx144_8, hx144_9, hx144_10, hx144_11, hx144_12, hl144_8, hi144_8, hl144_9, hi144_9, hl144_10, hi144_10⟩ := at_T40 HR0.out x5_1 p144 q144
   have hw144_12 := hx144_12
   have hw144_11 := hx144_11
   have hw144_10 := hx144_10
   have hw144_9 := hx144_9
   have hw144_8 := hx144_8
   have hw144_7 := hx144_7
   have hw144_6 := hx144_6
   have hw144_5 := hx144_5
   have hw144_4 := hx144_4
   have hw144_3 := hx144_3
   have hw144_2 := hx144_2
   have hw144_1 := hx144_1
   have hw144_0 := hx144_0
   obtain rfl : ad141 = ad144 := (by injection e144)
   replace hx144_0 := (HB.out.cell (World.block_lt_of_cell? w _ hx144_0)).trans hx144_0
   replace hx144_1 := (HB.out.cell (World.block_lt_of_cell? w _ hx144_1)).trans hx144_1
   replace hx144_2 := (HB.out.cell (World.block_lt_of_cell? w _ hx144_2)).trans hx144_2
   replace hx144_3 := (HB.out.cell (World.block_lt_of_cell? w _ hx144_3)).trans hx144_3
   replace hx144_4 := (HB.out.cell (World.block_lt_of_cell? w _ hx144_4)).trans hx144_4
   replace hx144_5 := (HB.out.cell (World.block_lt_of_cell? w _ hx144_5)).trans hx144_5
   replace hx144_6 := (HB.out.cell (World.block_lt_of_cell? w _ hx144_6)).trans hx144_6
   replace hx144_7 := (HB.out.cell (World.block_lt_of_cell? w _ hx144_7)).trans hx144_7
   replace hx144_8 := (HB.out.cell (World.block_lt_of_cell? w _ hx144_8)).trans hx144_8
   replace hx144_9 := (HB.out.cell (World.block_lt_of_cell? w _ hx144_9)).trans hx144_9
   replace hx144_10 := (HB.out.cell (World.block_lt_of_cell? w _ hx144_10)).trans hx144_10
   replace hx144_11 := (HB.out.cell (World.block_lt_of_cell? w _ hx144_11)).trans hx144_11
   replace hx144_12 := (HB.out.cell (World.block_lt_of_cell? w _ hx144_12)).trans hx144_12
   have HR144_8 := Aside0.mk hi144_8
   have HC144_8 := Aside0.mk hl144_8
   clear hi144_8 hl144_8
   have HR144_9 := Aside0.mk hi144_9
   have HC144_9 := Aside0.mk hl144_9
   clear hi144_9 hl144_9
   have HR144_10 := Aside0.mk hi144_10
   have HC144_10 := Aside0.mk hl144_10
   clear hi144_10 hl144_10
   replace p144 := eq_true p144
   replace q144 := eq_true q144
   have p145 : 0 ≤ (x5_1 : Int) := of_decide_eq_true q9y0
   have q145 : x5_1 < (l1.length : Int) := of_decide_eq_true q9y0
   obtain ⟨ad145, A145_8, c145_8, A145_9, c145_9, A145_10, c145_10, e145, hx145_0, hx145_1, hx145_2, hx145_3, hx145_4, hx145_5, hx145_6, hx145_7, hx145_8, hx145_9, hx145_10, hx145_11, hx145_12, hl145_8, hi145_8, hl145_9, hi145_9, hl145_10, hi145_10⟩ := at_T40 HR1.out x5_1 p145 q145
   have hw145_12 := hx145_12
   have hw145_11 := hx145_11
   have hw145_10 := hx145_10
   have hw145_9 := hx145_9
   have hw145_8 := hx145_8
   have hw145_7 := hx145_7
   have hw145_6 := hx145_6
   have hw145_5 := hx145_5
   have hw145_4 := hx145_4
   have hw145_3 := hx145_3
   have hw145_2 := hx145_2
   have hw145_1 := hx145_1
   have hw145_0 := hx145_0
   obtain rfl : ad142 = ad145 := (by injection e145)
   replace hx145_0 := (HB.out.cell (World.block_lt_of_cell? w _ hx145_0)).trans hx145_0
   replace hx145_1 := (HB.out.cell (World.block_lt_of_cell? w _ hx145_1)).trans hx145_1
   replace hx145_2 := (HB.out.cell (World.block_lt_of_cell? w _ hx145_2)).trans hx145_2
   replace hx145_3 := (HB.out.cell (World.block_lt_of_cell? w _ hx145_3)).trans hx145_3
   replace hx145_4 := (HB.out.cell (World.block_lt_of_cell? w _ hx145_4)).trans hx145_4
   replace hx145_5 := (HB.out.cell (World.block_lt_of_cell? w _ hx145_5)).trans hx145_5
   replace hx145_6 := (HB.out.cell (World.block_lt_of_cell? w _ hx145_6)).trans hx145_6
   replace hx145_7 := (HB.out.cell (World.block_lt_of_cell? w _ hx145_7)).trans hx145_7
   replace hx145_8 := (HB.out.cell (World.block_lt_of_cell? w _ hx145_8)).trans hx145_8
   replace hx145_9 := (HB.out.cell (World.block_lt_of_cell? w _ hx145_9)).trans hx145_9
   replace hx145_10 := (HB.out.cell (World.block_lt_of_cell? w _ hx145_10)).trans hx145_10
   replace hx145_11 := (HB.out.cell (World.block_lt_of_cell? w _ hx145_11)).trans hx145_11
   replace hx145_12 := (HB.out.cell (World.block_lt_of_cell? w _ hx145_12)).trans hx145_12
   have HR145_8 := Aside0.mk hi145_8
   have HC145_8 := Aside0.mk hl145_8
   clear hi145_8 hl145_8
   have HR145_9 := Aside0.mk hi145_9
   have HC145_9 := Aside0.mk hl145_9
   clear hi145_9 hl145_9
   have HR145_10 := Aside0.mk hi145_10
   have HC145_10 := Aside0.mk hl145_10
   clear hi145_10 hl145_10
   replace p145 := eq_true p145
   replace q145 := eq_true q145
   have p146 : 0 ≤ (x5_1 : Int) := of_decide_eq_true q9y0
   have q146 : x5_1 < (l0.length : Int) := of_decide_eq_true q9y0
   obtain ⟨ad146, A146_8, c146_8, A146_9, c146_9, A146_10, c146_10, e146, hx146_0, hx146_1, hx146_2, hx146_3, hx146_4, hx146_5, hx146_6, hx146_7, hx146_8, hx146_9, hx146_10, hx146_11, hx146_12, hl146_8, hi146_8, hl146_9, hi146_9, hl146_10, hi146_10⟩ := at_T40 HR0.out x5_1 p146 q146
   have hw146_12 := hx146_12
   have hw146_11 := hx146_11
   have hw146_10 := hx146_10
   have hw146_9 := hx146_9
   have hw146_8 := hx146_8
   have hw146_7 := hx146_7
   have hw146_6 := hx146_6
   have hw146_5 := hx146_5
   have hw146_4 := hx146_4
   have hw146_3 := hx146_3
   have hw146_2 := hx146_2
   have hw146_1 := hx146_1
   have hw146_0 := hx146_0
   obtain rfl : ad141 = ad146 := (by injection e146)
   replace hx146_0 := (HB.out.cell (World.block_lt_of_cell? w _ hx146_0)).trans hx146_0
   replace hx146_1 := (HB.out.cell (World.block_lt_of_cell? w _ hx146_1)).trans hx146_1
   replace hx146_2 := (HB.out.cell (World.block_lt_of_cell? w _ hx146_2)).trans hx146_2
   replace hx146_3 := (HB.out.cell (World.block_lt_of_cell? w _ hx146_3)).trans hx146_3
   replace hx146_4 := (HB.out.cell (World.block_lt_of_cell? w _ hx146_4)).trans hx146_4
   replace hx146_5 := (HB.out.cell (World.block_lt_of_cell? w _ hx146_5)).trans hx146_5
   replace hx146_6 := (HB.out.cell (World.block_lt_of_cell? w _ hx146_6)).trans hx146_6
   replace hx146_7 := (HB.out.cell (World.block_lt_of_cell? w _ hx146_7)).trans hx146_7
   replace hx146_8 := (HB.out.cell (World.block_lt_of_cell? w _ hx146_8)).trans hx146_8
   replace hx146_9 := (HB.out.cell (World.block_lt_of_cell? w _ hx146_9)).trans hx146_9
   replace hx146_10 := (HB.out.cell (World.block_lt_of_cell? w _ hx146_10)).trans hx146_10
   replace hx146_11 := (HB.out.cell (World.block_lt_of_cell? w _ hx146_11)).trans hx146_11
   replace hx146_12 := (HB.out.cell (World.block_lt_of_cell? w _ hx146_12)).trans hx146_12
   have HR146_8 := Aside0.mk hi146_8
   have HC146_8 := Aside0.mk hl146_8
   clear hi146_8 hl146_8
   have HR146_9 := Aside0.mk hi146_9
   have HC146_9 := Aside0.mk hl146_9
   clear hi146_9 hl146_9
   have HR146_10 := Aside0.mk hi146_10
   have HC146_10 := Aside0.mk hl146_10
   clear hi146_10 hl146_10
   replace p146 := eq_true p146
   replace q146 := eq_true q146
   have ea_ := Option.some.inj (hx144_8.symm.trans hx146_8)
   injection ea_ with ea_ en_ ec_
   subst ea_
   subst ec_
   clear en_
   have ea_ := Option.some.inj (hx144_9.symm.trans hx146_9)
   injection ea_ with ea_ en_ ec_
   subst ea_
   subst ec_
   clear en_
   have ea_ := Option.some.inj (hx144_10.symm.trans hx146_10)
   injection ea_ with ea_ en_ ec_
   subst ea_
   subst ec_
   clear en_
   have p147 : 0 ≤ (x5_1 : Int) := of_decide_eq_true q9y0
   have q147 : x5_1 < (l1.length : Int) := of_decide_eq_true q9y0
   obtain ⟨ad147, A147_8, c147_8, A147_9, c147_9, A147_10, c147_10, e147, hx147_0, hx147_1, hx147_2, hx147_3, hx147_4, hx147_5, hx147_6, hx147_7, hx147_8, hx147_9, hx147_10, hx147_11, hx147_12, hl147_8, hi147_8, hl147_9, hi147_9, hl147_10, hi147_10⟩ := at_T40 HR1.out x5_1 p147 q147
   have hw147_12 := hx147_12
   have hw147_11 := hx147_11
   have hw147_10 := hx147_10
   have hw147_9 := hx147_9
   have hw147_8 := hx147_8
   have hw147_7 := hx147_7
   have hw147_6 := hx147_6
   have hw147_5 := hx147_5
   have hw147_4 := hx147_4
   have hw147_3 := hx147_3
   have hw147_2 := hx147_2
   have hw147_1 := hx147_1
   have hw147_0 := hx147_0
   obtain rfl : ad142 = ad147 := (by injection e147)
   replace hx147_0 := (HB.out.cell (World.block_lt_of_cell? w _ hx147_0)).trans hx147_0
   replace hx147_1 := (HB.out.cell (World.block_lt_of_cell? w _ hx147_1)).trans hx147_1
   replace hx147_2 := (HB.out.cell (World.block_lt_of_cell? w _ hx147_2)).trans hx147_2
   replace hx147_3 := (HB.out.cell (World.block_lt_of_cell? w _ hx147_3)).trans hx147_3
   replace hx147_4 := (HB.out.cell (World.block_lt_of_cell? w _ hx147_4)).trans hx147_4
   replace hx147_5 := (HB.out.cell (World.block_lt_of_cell? w _ hx147_5)).trans hx147_5
   replace hx147_6 := (HB.out.cell (World.block_lt_of_cell? w _ hx147_6)).trans hx147_6
   replace hx147_7 := (HB.out.cell (World.block_lt_of_cell? w _ hx147_7)).trans hx147_7
   replace hx147_8 := (HB.out.cell (World.block_lt_of_cell? w _ hx147_8)).trans hx147_8
   replace hx147_9 := (HB.out.cell (World.block_lt_of_cell? w _ hx147_9)).trans hx147_9
   replace hx147_10 := (HB.out.cell (World.block_lt_of_cell? w _ hx147_10)).trans hx147_10
   replace hx147_11 := (HB.out.cell (World.block_lt_of_cell? w _ hx147_11)).trans hx147_11
   replace hx147_12 := (HB.out.cell (World.block_lt_of_cell? w _ hx147_12)).trans hx147_12
   have HR147_8 := Aside0.mk hi147_8
   have HC147_8 := Aside0.mk hl147_8
   clear hi147_8 hl147_8
   have HR147_9 := Aside0.mk hi147_9
   have HC147_9 := Aside0.mk hl147_9
   clear hi147_9 hl147_9
   have HR147_10 := Aside0.mk hi147_10
   have HC147_10 := Aside0.mk hl147_10
   clear hi147_10 hl147_10
   replace p147 := eq_true p147
   replace q147 := eq_true q147
   have ea_ := Option.some.inj (hx145_8.symm.trans hx147_8)
   injection ea_ with ea_ en_ ec_
   subst ea_
   subst ec_
   clear en_
   have ea_ := Option.some.inj (hx145_9.symm.trans hx147_9)
   injection ea_ with ea_ en_ ec_
   subst ea_
   subst ec_
   clear en_
   have ea_ := Option.some.inj (hx145_10.symm.trans hx147_10)
   injection ea_ with ea_ en_ ec_
   subst ea_
   subst ec_
   clear en_
   as_aux_lemma =>
    refine start_ (n := 38) (S := fun w' => w'.cell? (ad141.add ((x5_1).toNat * 13)) = some (.int .u64 ((rd_T40 l0 x5_1).f0.f0)) ∧ w'.cell? ⟨(ad141.add ((x5_1).toNat * 13)).block, (ad141.add ((x5_1).toNat * 13)).off + 1, none⟩ = some (.int .u64 ((rd_T40 l0 x5_1).f0.f1)) ∧ w'.cell? ⟨(ad141.add ((x5_1).toNat * 13)).block, (ad141.add ((x5_1).toNat * 13)).off + 2, none⟩ = some (.int .u64 ((rd_T40 l0 x5_1).f0.f2)) ∧ w'.cell? ⟨(ad141.add ((x5_1).toNat * 13)).block, (ad141.add ((x5_1).toNat * 13)).off + 3, none⟩ = some (.string ((rd_T40 l0 x5_1).f0.f3)) ∧ w'.cell? ⟨(ad141.add ((x5_1).toNat * 13)).block, (ad141.add ((x5_1).toNat * 13)).off + 4, none⟩ = some (.string ((rd_T40 l0 x5_1).f0.f4)) ∧ w'.cell? ⟨(ad141.add ((x5_1).toNat * 13)).block, (ad141.add ((x5_1).toNat * 13)).off + 5, none⟩ = some (.int .i64 ((rd_T40 l0 x5_1).f0.f5)) ∧ w'.cell? ⟨(ad141.add ((x5_1).toNat * 13)).block, (ad141.add ((x5_1).toNat * 13)).off + 6, none⟩ = some (.int .i64 ((rd_T40 l0 x5_1).f0.f6)) ∧ w'.cell? ⟨(ad141.add ((x5_1).toNat * 13)).block, (ad141.add ((x5_1).toNat * 13)).off + 7, none⟩ = some (.int .i64 ((rd_T40 l0 x5_1).f0.f7)) ∧ w'.cell? ⟨(ad141.add ((x5_1).toNat * 13)).block, (ad141.add ((x5_1).toNat * 13)).off + 8, none⟩ = some (.slice A141_8 ((rd_T40 l0 x5_1).f0.f8).length c141_8) ∧ w'.cell? ⟨(ad141.add ((x5_1).toNat * 13)).block, (ad141.add ((x5_1).toNat * 13)).off + 9, none⟩ = some (.slice A141_9 ((rd_T40 l0 x5_1).f0.f9).length c141_9) ∧ w'.cell? ⟨(ad141.add ((x5_1).toNat * 13)).block, (ad141.add ((x5_1).toNat * 13)).off + 10, none⟩ = some (.slice A141_10 ((rd_T40 l0 x5_1).f0.f10).length c141_10) ∧ w'.cell? ⟨(ad141.add ((x5_1).toNat * 13)).block, (ad141.add ((x5_1).toNat * 13)).off + 11, none⟩ = some (.int .i64 ((rd_T40 l0 x5_1).f1)) ∧ w'.cell? ⟨(ad141.add ((x5_1).toNat * 13)).block, (ad141.add ((x5_1).toNat * 13)).off + 12, none⟩ = some (.bool ((rd_T40 l0 x5_1).f2)) ∧ w'.cell? (ad142.add ((x5_1).toNat * 13)) = some (.int .u64 ((rd_T40 l1 x5_1).f0.f0)) ∧ w'.cell? ⟨(ad142.add ((x5_1).toNat * 13)).block, (ad142.add ((x5_1).toNat * 13)).off + 1, none⟩ = some (.int .u64 ((rd_T40 l1 x5_1).f0.f1)) ∧ w'.cell? ⟨(ad142.add ((x5_1).toNat * 13)).block, (ad142.add ((x5_1).toNat * 13)).off + 2, none⟩ = some (.int .u64 ((rd_T40 l1 x5_1).f0.f2)) ∧ w'.cell? ⟨(ad142.add ((x5_1).toNat * 13)).block, (ad142.add ((x5_1).toNat * 13)).off + 3, none⟩ = some (.string ((rd_T40 l1 x5_1).f0.f3)) ∧ w'.cell? ⟨(ad142.add ((x5_1).toNat * 13)).block, (ad142.add ((x5_1).toNat * 13)).off + 4, none⟩ = some (.string ((rd_T40 l1 x5_1).f0.f4)) ∧ w'.cell? ⟨(ad142.add ((x5_1).toNat * 13)).block, (ad142.add ((x5_1).toNat * 13)).off + 5, none⟩ = some (.int .i64 ((rd_T40 l1 x5_1).f0.f5)) ∧ w'.cell? ⟨(ad142.add ((x5_1).toNat * 13)).block, (ad142.add ((x5_1).toNat * 13)).off + 6, none⟩ = some (.int .i64 ((rd_T40 l1 x5_1).f0.f6)) ∧ w'.cell? ⟨(ad142.add ((x5_1).toNat * 13)).block, (ad142.add ((x5_1).toNat * 13)).off + 7, none⟩ = some (.int .i64 ((rd_T40 l1 x5_1).f0.f7)) ∧ w'.cell? ⟨(ad142.add ((x5_1).toNat * 13)).block, (ad142.add ((x5_1).toNat * 13)).off + 8, none⟩ = some (.slice A142_8 ((rd_T40 l1 x5_1).f0.f8).length c142_8) ∧ w'.cell? ⟨(ad142.add ((x5_1).toNat * 13)).block, (ad142.add ((x5_1).toNat * 13)).off + 9, none⟩ = some (.slice A142_9 ((rd_T40 l1 x5_1).f0.f9).length c142_9) ∧ w'.cell? ⟨(ad142.add ((x5_1).toNat * 13)).block, (ad142.add ((x5_1).toNat * 13)).off + 10, none⟩ = some (.slice A142_10 ((rd_T40 l1 x5_1).f0.f10).length c142_10) ∧ w'.cell? ⟨(ad142.add ((x5_1).toNat * 13)).block, (ad142.add ((x5_1).toNat * 13)).off + 11, none⟩ = some (.int .i64 ((rd_T40 l1 x5_1).f1)) ∧ w'.cell? ⟨(ad142.add ((x5_1).toNat * 13)).block, (ad142.add ((x5_1).toNat * 13)).off + 12, none⟩ = some (.bool ((rd_T40 l1 x5_1).f2)) ∧ w'.cell? (ad141.add ((x5_1).toNat * 13)) = some (.int .u64 ((rd_T40 l0 x5_1).f0.f0)) ∧ w'.cell? ⟨(ad141.add ((x5_1).toNat * 13)).block, (ad141.add ((x5_1).toNat * 13)).off + 1, none⟩ = some (.int .u64 ((rd_T40 l0 x5_1).f0.f1)) ∧ w'.cell? ⟨(ad141.add ((x5_1).toNat * 13)).block, (ad141.add ((x5_1).toNat * 13)).off + 2, none⟩ = some (.int .u64 ((rd_T40 l0 x5_1).f0.f2)) ∧ w'.cell? ⟨(ad141.add ((x5_1).toNat * 13)).block, (ad141.add ((x5_1).toNat * 13)).off + 3, none⟩ = some (.string ((rd_T40 l0 x5_1).f0.f3)) ∧ w'.cell? ⟨(ad141.add ((x5_1).toNat * 13)).block, (ad141.add ((x5_1).toNat * 13)).off + 4, none⟩ = some (.string ((rd_T40 l0 x5_1).f0.f4)) ∧ w'.cell? ⟨(ad141.add ((x5_1).toNat * 13)).block, (ad141.add ((x5_1).toNat * 13)).off + 5, none⟩ = some (.int .i64 ((rd_T40 l0 x5_1).f0.f5)) ∧ w'.cell? ⟨(ad141.add ((x5_1).toNat * 13)).block, (ad141.add ((x5_1).toNat * 13)).off + 6, none⟩ = some (.int .i64 ((rd_T40 l0 x5_1).f0.f6)) ∧ w'.cell? ⟨(ad141.add ((x5_1).toNat * 13)).block, (ad141.add ((x5_1).toNat * 13)).off + 7, none⟩ = some (.int .i64 ((rd_T40 l0 x5_1).f0.f7)) ∧ w'.cell? ⟨(ad141.add ((x5_1).toNat * 13)).block, (ad141.add ((x5_1).toNat * 13)).off + 8, none⟩ = some (.slice A144_8 ((rd_T40 l0 x5_1).f0.f8).length c144_8) ∧ w'.cell? ⟨(ad141.add ((x5_1).toNat * 13)).block, (ad141.add ((x5_1).toNat * 13)).off + 9, none⟩ = some (.slice A144_9 ((rd_T40 l0 x5_1).f0.f9).length c144_9) ∧ w'.cell? ⟨(ad141.add ((x5_1).toNat * 13)).block, (ad141.add ((x5_1).toNat * 13)).off + 10, none⟩ = some (.slice A144_10 ((rd_T40 l0 x5_1).f0.f10).length c144_10) ∧ w'.cell? ⟨(ad141.add ((x5_1).toNat * 13)).block, (ad141.add ((x5_1).toNat * 13)).off + 11, none⟩ = some (.int .i64 ((rd_T40 l0 x5_1).f1)) ∧ w'.cell? ⟨(ad141.add ((x5_1).toNat * 13)).block, (ad141.add ((x5_1).toNat * 13)).off + 12, none⟩ = some (.bool ((rd_T40 l0 x5_1).f2)) ∧ w'.cell? (ad142.add ((x5_1).toNat * 13)) = some (.int .u64 ((rd_T40 l1 x5_1).f0.f0)) ∧ w'.cell? ⟨(ad142.add ((x5_1).toNat * 13)).block, (ad142.add ((x5_1).toNat * 13)).off + 1, none⟩ = some (.int .u64 ((rd_T40 l1 x5_1).f0.f1)) ∧ w'.cell? ⟨(ad142.add ((x5_1).toNat * 13)).block, (ad142.add ((x5_1).toNat * 13)).off + 2, none⟩ = some (.int .u64 ((rd_T40 l1 x5_1).f0.f2)) ∧ w'.cell? ⟨(ad142.add ((x5_1).toNat * 13)).block, (ad142.add ((x5_1).toNat * 13)).off + 3, none⟩ = some (.string ((rd_T40 l1 x5_1).f0.f3)) ∧ w'.cell? ⟨(ad142.add ((x5_1).toNat * 13)).block, (ad142.add ((x5_1).toNat * 13)).off + 4, none⟩ = some (.string ((rd_T40 l1 x5_1).f0.f4)) ∧ w'.cell? ⟨(ad142.add ((x5_1).toNat * 13)).block, (ad142.add ((x5_1).toNat * 13)).off + 5, none⟩ = some (.int .i64 ((rd_T40 l1 x5_1).f0.f5)) ∧ w'.cell? ⟨(ad142.add ((x5_1).toNat * 13)).block, (ad142.add ((x5_1).toNat * 13)).off + 6, none⟩ = some (.int .i64 ((rd_T40 l1 x5_1).f0.f6)) ∧ w'.cell? ⟨(ad142.add ((x5_1).toNat * 13)).block, (ad142.add ((x5_1).toNat * 13)).off + 7, none⟩ = some (.int .i64 ((rd_T40 l1 x5_1).f0.f7)) ∧ w'.cell? ⟨(ad142.add ((x5_1).toNat * 13)).block, (ad142.add ((x5_1).toNat * 13)).off + 8, none⟩ = some (.slice A145_8 ((rd_T40 l1 x5_1).f0.f8).length c145_8) ∧ w'.cell? ⟨(ad142.add ((x5_1).toNat * 13)).block, (ad142.add ((x5_1).toNat * 13)).off + 9, none⟩ = some (.slice A145_9 ((rd_T40 l1 x5_1).f0.f9).length c145_9) ∧ w'.cell? ⟨(ad142.add ((x5_1).toNat * 13)).block, (ad142.add ((x5_1).toNat * 13)).off + 10, none⟩ = some (.slice A145_10 ((rd_T40 l1 x5_1).f0.f10).length c145_10) ∧ w'.cell? ⟨(ad142.add ((x5_1).toNat * 13)).block, (ad142.add ((x5_1).toNat * 13)).off + 11, none⟩ = some (.int .i64 ((rd_T40 l1 x5_1).f1)) ∧ w'.cell? ⟨(ad142.add ((x5_1).toNat * 13)).block, (ad142.add ((x5_1).toNat * 13)).off + 12, none⟩ = some (.bool ((rd_T40 l1 x5_1).f2)) ∧ w'.cell? (ad141.add ((x5_1).toNat * 13)) = some (.int .u64 ((rd_T40 l0 x5_1).f0.f0)) ∧ w'.cell? ⟨(ad141.add ((x5_1).toNat * 13)).block, (ad141.add ((x5_1).toNat * 13)).off + 1, none⟩ = some (.int .u64 ((rd_T40 l0 x5_1).f0.f1)) ∧ w'.cell? ⟨(ad141.add ((x5_1).toNat * 13)).block, (ad141.add ((x5_1).toNat * 13)).off + 2, none⟩ = some (.int .u64 ((rd_T40 l0 x5_1).f0.f2)) ∧ w'.cell? ⟨(ad141.add ((x5_1).toNat * 13)).block, (ad141.add ((x5_1).toNat * 13)).off + 3, none⟩ = some (.string ((rd_T40 l0 x5_1).f0.f3)) ∧ w'.cell? ⟨(ad141.add ((x5_1).toNat * 13)).block, (ad141.add ((x5_1).toNat * 13)).off + 4, none⟩ = some (.string ((rd_T40 l0 x5_1).f0.f4)) ∧ w'.cell? ⟨(ad141.add ((x5_1).toNat * 13)).block, (ad141.add ((x5_1).toNat * 13)).off + 5, none⟩ = some (.int .i64 ((rd_T40 l0 x5_1).f0.f5)) ∧ w'.cell? ⟨(ad141.add ((x5_1).toNat * 13)).block, (ad141.add ((x5_1).toNat * 13)).off + 6, none⟩ = some (.int .i64 ((rd_T40 l0 x5_1).f0.f6)) ∧ w'.cell? ⟨(ad141.add ((x5_1).toNat * 13)).block, (ad141.add ((x5_1).toNat * 13)).off + 7, none⟩ = some (.int .i64 ((rd_T40 l0 x5_1).f0.f7)) ∧ w'.cell? ⟨(ad141.add ((x5_1).toNat * 13)).block, (ad141.add ((x5_1).toNat * 13)).off + 8, none⟩ = some (.slice A144_8 ((rd_T40 l0 x5_1).f0.f8).length c144_8) ∧ w'.cell? ⟨(ad141.add ((x5_1).toNat * 13)).block, (ad141.add ((x5_1).toNat * 13)).off + 9, none⟩ = some (.slice A144_9 ((rd_T40 l0 x5_1).f0.f9).length c144_9) ∧ w'.cell? ⟨(ad141.add ((x5_1).toNat * 13)).block, (ad141.add ((x5_1).toNat * 13)).off + 10, none⟩ = some (.slice A144_10 ((rd_T40 l0 x5_1).f0.f10).length c144_10) ∧ w'.cell? ⟨(ad141.add ((x5_1).toNat * 13)).block, (ad141.add ((x5_1).toNat * 13)).off + 11, none⟩ = some (.int .i64 ((rd_T40 l0 x5_1).f1)) ∧ w'.cell? ⟨(ad141.add ((x5_1).toNat * 13)).block, (ad141.add ((x5_1).toNat * 13)).off + 12, none⟩ = some (.bool ((rd_T40 l0 x5_1).f2)) ∧ w'.cell? (ad142.add ((x5_1).toNat * 13)) = some (.int .u64 ((rd_T40 l1 x5_1).f0.f0)) ∧ w'.cell? ⟨(ad142.add ((x5_1).toNat * 13)).block, (ad142.add ((x5_1).toNat * 13)).off + 1, none⟩ = some (.int .u64 ((rd_T40 l1 x5_1).f0.f1)) ∧ w'.cell? ⟨(ad142.add ((x5_1).toNat * 13)).block, (ad142.add ((x5_1).toNat * 13)).off + 2, none⟩ = some (.int .u64 ((rd_T40 l1 x5_1).f0.f2)) ∧ w'.cell? ⟨(ad142.add ((x5_1).toNat * 13)).block, (ad142.add ((x5_1).toNat * 13)).off + 3, none⟩ = some (.string ((rd_T40 l1 x5_1).f0.f3)) ∧ w'.cell? ⟨(ad142.add ((x5_1).toNat * 13)).block, (ad142.add ((x5_1).toNat * 13)).off + 4, none⟩ = some (.string ((rd_T40 l1 x5_1).f0.f4)) ∧ w'.cell? ⟨(ad142.add ((x5_1).toNat * 13)).block, (ad142.add ((x5_1).toNat * 13)).off + 5, none⟩ = some (.int .i64 ((rd_T40 l1 x5_1).f0.f5)) ∧ w'.cell? ⟨(ad142.add ((x5_1).toNat * 13)).block, (ad142.add ((x5_1).toNat * 13)).off + 6, none⟩ = some (.int .i64 ((rd_T40 l1 x5_1).f0.f6)) ∧ w'.cell? ⟨(ad142.add ((x5_1).toNat * 13)).block, (ad142.add ((x5_1).toNat * 13)).off + 7, none⟩ = some (.int .i64 ((rd_T40 l1 x5_1).f0.f7)) ∧ w'.cell? ⟨(ad142.add ((x5_1).toNat * 13)).block, (ad142.add ((x5_1).toNat * 13)).off + 8, none⟩ = some (.slice A145_8 ((rd_T40 l1 x5_1).f0.f8).length c145_8) ∧ w'.cell? ⟨(ad142.add ((x5_1).toNat * 13)).block, (ad142.add ((x5_1).toNat * 13)).off + 9, none⟩ = some (.slice A145_9 ((rd_T40 l1 x5_1).f0.f9).length c145_9) ∧ w'.cell? ⟨(ad142.add ((x5_1).toNat * 13)).block, (ad142.add ((x5_1).toNat * 13)).off + 10, none⟩ = some (.slice A145_10 ((rd_T40 l1 x5_1).f0.f10).length c145_10) ∧ w'.cell? ⟨(ad142.add ((x5_1).toNat * 13)).block, (ad142.add ((x5_1).toNat * 13)).off + 11, none⟩ = some (.int .i64 ((rd_T40 l1 x5_1).f1)) ∧ w'.cell? ⟨(ad142.add ((x5_1).toNat * 13)).block, (ad142.add ((x5_1).toNat * 13)).off + 12, none⟩ = some (.bool ((rd_T40 l1 x5_1).f2))) (ds := []) #[false, false, false, false, false, false, false, false, false, false, false, false, false, false, false, false, false, false, false, false, false, false, false, false, false, false, false, false, false, false, false, false, false, false, false, false, false, false] (by kernel_rfl) rfl rfl ⟨(q9h HB.out hw141_0:), (q9h HB.out hw141_1:), (q9h HB.out hw141_2:), (q9h HB.out hw141_3:), (q9h HB.out hw141_4:), (q9h HB.out hw141_5:), (q9h HB.out hw141_6:), (q9h HB.out hw141_7:), (q9h HB.out hw141_8:), (q9h HB.out hw141_9:), (q9h HB.out hw141_10:), (q9h HB.out hw141_11:), (q9h HB.out hw141_12:), (q9h HB.out hw142_0:), (q9h HB.out hw142_1:), (q9h HB.out hw142_2:), (q9h HB.out hw142_3:), (q9h HB.out hw142_4:), (q9h HB.out hw142_5:), (q9h HB.out hw142_6:), (q9h HB.out hw142_7:), (q9h HB.out hw142_8:), (q9h HB.out hw142_9:), (q9h HB.out hw142_10:), (q9h HB.out hw142_11:), (q9h HB.out hw142_12:), (q9h HB.out hw144_0:), (q9h HB.out hw144_1:), (q9h HB.out hw144_2:), (q9h HB.out hw144_3:), (q9h HB.out hw144_4:), (q9h HB.out hw144_5:), (q9h HB.out hw144_6:), (q9h HB.out hw144_7:), (q9h HB.out hw144_8:), (q9h HB.out hw144_9:), (q9h HB.out hw144_10:), (q9h HB.out hw144_11:), (q9h HB.out hw144_12:), (q9h HB.out hw145_0:), (q9h HB.out hw145_1:), (q9h HB.out hw145_2:), (q9h HB.out hw145_3:), (q9h HB.out hw145_4:), (q9h HB.out hw145_5:), (q9h HB.out hw145_6:), (q9h HB.out hw145_7:), (q9h HB.out hw145_8:), (q9h HB.out hw145_9:), (q9h HB.out hw145_10:), (q9h HB.out hw145_11:), (q9h HB.out hw145_12:), (q9h HB.out hw146_0:), (q9h HB.out hw146_1:), (q9h HB.out hw146_2:), (q9h HB.out hw146_3:), (q9h HB.out hw146_4:), (q9h HB.out hw146_5:), (q9h HB.out hw146_6:), (q9h HB.out hw146_7:), (q9h HB.out hw146_8:), (q9h HB.out hw146_9:), (q9h HB.out hw146_10:), (q9h HB.out hw146_11:), (q9h HB.out hw146_12:), (q9h HB.out hw147_0:), (q9h HB.out hw147_1:), (q9h HB.out hw147_2:), (q9h HB.out hw147_3:), (q9h HB.out hw147_4:), (q9h HB.out hw147_5:), (q9h HB.out hw147_6:), (q9h HB.out hw147_7:), (q9h HB.out hw147_8:), (q9h HB.out hw147_9:), (q9h HB.out hw147_10:), (q9h HB.out hw147_11:), (q9h HB.out hw147_12:)⟩ (fun hHeld => ?_); refine with_tabW cambiumlaw26_Lines.tab6 cambiumlaw26_Lines.bits6 (fun HT_ HW_ => ?_)
    generalize wr.drew = w13 at HB HR141_10 HR141_8 HR141_9 HR142_10 HR142_8 HR142_9 HR144_10 HR144_8 HR144_9 HR145_10 HR145_8 HR145_9 HR146_10 HR146_8 HR146_9 HR147_10 HR147_8 HR147_9 hx141_0 hx141_1 hx141_10 hx141_11 hx141_12 hx141_2 hx141_3 hx141_4 hx141_5 hx141_6 hx141_7 hx141_8 hx141_9 hx142_0 hx142_1 hx142_10 hx142_11 hx142_12 hx142_2 hx142_3 hx142_4 hx142_5 hx142_6 hx142_7 hx142_8 hx142_9 hx144_0 hx144_1 hx144_10 hx144_11 hx144_12 hx144_2 hx144_3 hx144_4 hx144_5 hx144_6 hx144_7 hx144_8 hx144_9 hx145_0 hx145_1 hx145_10 hx145_11 hx145_12 hx145_2 hx145_3 hx145_4 hx145_5 hx145_6 hx145_7 hx145_8 hx145_9 hx146_0 hx146_1 hx146_10 hx146_11 hx146_12 hx146_2 hx146_3 hx146_4 hx146_5 hx146_6 hx146_7 hx146_8 hx146_9 hx147_0 hx147_1 hx147_10 hx147_11 hx147_12 hx147_2 hx147_3 hx147_4 hx147_5 hx147_6 hx147_7 hx147_8 hx147_9 hHeld ⊢
    refine q9p (i := 0) (N := some 17) (q9m 38 1) HT_.out ?_
    refine q9p (i := 1) (N := some 18) (q9m 38 3) HT_.out ?_
    refine q9p (i := 2) (N := some 19) (q9m 38 7) HT_.out ?_
    refine q9p (i := 3) (N := some 20) (q9m 38 15) HT_.out ?_
    refine q9p (i := 5) (N := some 22) (q9m 38 47) HT_.out ?_
    refine q9p (i := 6) (N := some 23) (q9m 38 111) HT_.out ?_
    refine q9p (i := 7) (N := some 24) (q9m 38 239) HT_.out ?_
    refine q9p (i := 8) (N := some 25) (q9m 38 495) HT_.out ?_
    refine take_ (i := 4) (N := some 21) (v := ?_) (a' := ?_) (q9m 38 511) rfl rfl (take_ofW HT_.out HW_.out (by kernel_rfl)) (fun _ _ _ h => h) (Or.inl ⟨by rfl, ?_⟩) hHeld ?_ ?_; rotate_left; (rintro w' ⟨s0, s1, s2, s3, s4, s5, s6, s7, s8, s9, s10, s11, s12, s13, s14, s15, s16, s17, s18, s19, s20, s21, s22, s23, s24, s25, s26, s27, s28, s29, s30, s31, s32, s33, s34, s35, s36, s37, s38, s39, s40, s41, s42, s43, s44, s45, s46, s47, s48, s49, s50, s51, s52, s53, s54, s55, s56, s57, s58, s59, s60, s61, s62, s63, s64, s65, s66, s67, s68, s69, s70, s71, s72, s73, s74, s75, s76, s77⟩; go_simp; with_reducible rfl); rotate_left; (simp only [Act.put, q9a, q9b, q9c, i64_w, i32_w]; rfl)
    refine take_ (i := 9) (N := some 26) (v := ?_) (a' := ?_) (q9m 38 1023) rfl rfl (take_ofW HT_.out HW_.out (by kernel_rfl)) (fun _ _ _ h => h) (Or.inl ⟨by rfl, ?_⟩) hHeld ?_ ?_; rotate_left; (rintro w' ⟨s0, s1, s2, s3, s4, s5, s6, s7, s8, s9, s10, s11, s12, s13, s14, s15, s16, s17, s18, s19, s20, s21, s22, s23, s24, s25, s26, s27, s28, s29, s30, s31, s32, s33, s34, s35, s36, s37, s38, s39, s40, s41, s42, s43, s44, s45, s46, s47, s48, s49, s50, s51, s52, s53, s54, s55, s56, s57, s58, s59, s60, s61, s62, s63, s64, s65, s66, s67, s68, s69, s70, s71, s72, s73, s74, s75, s76, s77⟩; go_simp; with_reducible rfl); rotate_left; (simp only [Act.put, q9a, q9b, q9c, i64_w, i32_w]; rfl)
    refine one_ (i := 10) (N := some 27) (q9m 38 2047) rfl rfl (one_of HT_.out (by kernel_rfl)) (by decide) (fun K hK => ?_)
    refine goes_ Try.func20 (by kernel_rfl) rfl #[.agg #[.int .u64 ((rd_T40 l0 x5_1).f0.f0), .int .u64 ((rd_T40 l0 x5_1).f0.f1), .int .u64 ((rd_T40 l0 x5_1).f0.f2), .string ((rd_T40 l0 x5_1).f0.f3), .string ((rd_T40 l0 x5_1).f0.f4), .int .i64 ((rd_T40 l0 x5_1).f0.f5), .int .i64 ((rd_T40 l0 x5_1).f0.f6), .int .i64 ((rd_T40 l0 x5_1).f0.f7), .slice A141_8 ((rd_T40 l0 x5_1).f0.f8).length c141_8, .slice A141_9 ((rd_T40 l0 x5_1).f0.f9).length c141_9, .slice A141_10 ((rd_T40 l0 x5_1).f0.f10).length c141_10], .agg #[.int .u64 ((rd_T40 l1 x5_1).f0.f0), .int .u64 ((rd_T40 l1 x5_1).f0.f1), .int .u64 ((rd_T40 l1 x5_1).f0.f2), .string ((rd_T40 l1 x5_1).f0.f3), .string ((rd_T40 l1 x5_1).f0.f4), .int .i64 ((rd_T40 l1 x5_1).f0.f5), .int .i64 ((rd_T40 l1 x5_1).f0.f6), .int .i64 ((rd_T40 l1 x5_1).f0.f7), .slice A142_8 ((rd_T40 l1 x5_1).f0.f8).length c142_8, .slice A142_9 ((rd_T40 l1 x5_1).f0.f9).length c142_9, .slice A142_10 ((rd_T40 l1 x5_1).f0.f10).length c142_10]] (by rfl) rfl rfl q9y1 ?_
    with_reducible refine (cambiumref16_Same.calls k1 ((rd_T40 l0 x5_1).f0.f0) ((rd_T40 l0 x5_1).f0.f1) ((rd_T40 l0 x5_1).f0.f2) ((rd_T40 l0 x5_1).f0.f3) ((rd_T40 l0 x5_1).f0.f4) ((rd_T40 l0 x5_1).f0.f5) ((rd_T40 l0 x5_1).f0.f6) ((rd_T40 l0 x5_1).f0.f7) _ _ ((rd_T40 l0 x5_1).f0.f8) _ _ ((rd_T40 l0 x5_1).f0.f9) _ _ ((rd_T40 l0 x5_1).f0.f10) ((rd_T40 l1 x5_1).f0.f0) ((rd_T40 l1 x5_1).f0.f1) ((rd_T40 l1 x5_1).f0.f2) ((rd_T40 l1 x5_1).f0.f3) ((rd_T40 l1 x5_1).f0.f4) ((rd_T40 l1 x5_1).f0.f5) ((rd_T40 l1 x5_1).f0.f6) ((rd_T40 l1 x5_1).f0.f7) _ _ ((rd_T40 l1 x5_1).f0.f8) _ _ ((rd_T40 l1 x5_1).f0.f9) _ _ ((rd_T40 l1 x5_1).f0.f10) true _ ?side1 ?side2 ?side3 ?side4 ?side5 ?side6 ?side7 ?side8 ?side9 ?side10 ?side11 ?side12 A7.out).mono ?_
    (case side1 => repeat (first | exact (Kd.C_below HR141_8.out HB.out) | (with_reducible refine Kd.C_alloc ?_ _) | (with_reducible refine Kd.C_drewN ?_ _) | (with_reducible refine Kd.C_drew ?_)))
    (case side2 => exact HC141_8.out)
    (case side3 => repeat (first | exact (Kd.C_below HR141_9.out HB.out) | (with_reducible refine Kd.C_alloc ?_ _) | (with_reducible refine Kd.C_drewN ?_ _) | (with_reducible refine Kd.C_drew ?_)))
    (case side4 => exact HC141_9.out)
    (case side5 => repeat (first | exact (Kd.C_below HR141_10.out HB.out) | (with_reducible refine Kd.C_alloc ?_ _) | (with_reducible refine Kd.C_drewN ?_ _) | (with_reducible refine Kd.C_drew ?_)))
    (case side6 => exact HC141_10.out)
    (case side7 => repeat (first | exact (Kd.C_below HR142_8.out HB.out) | (with_reducible refine Kd.C_alloc ?_ _) | (with_reducible refine Kd.C_drewN ?_ _) | (with_reducible refine Kd.C_drew ?_)))
    (case side8 => exact HC142_8.out)
    (case side9 => repeat (first | exact (Kd.C_below HR142_9.out HB.out) | (with_reducible refine Kd.C_alloc ?_ _) | (with_reducible refine Kd.C_drewN ?_ _) | (with_reducible refine Kd.C_drew ?_)))
    (case side10 => exact HC142_9.out)
    (case side11 => repeat (first | exact (Kd.C_below HR142_10.out HB.out) | (with_reducible refine Kd.C_alloc ?_ _) | (with_reducible refine Kd.C_drewN ?_ _) | (with_reducible refine Kd.C_drew ?_)))
    (case side12 => exact HC142_10.out)
    rintro e w14 ⟨rfl, hb⟩
    refine ⟨_, rfl, ?_⟩
    have n0_ := Aside0.mk (below_step q9y2 hb)
    clear HB
    have HB := n0_
    clear n0_
    (try clear hb)
    (try clear hb2)
    (try clear hk)
    (try clear hi)
    refine hK.out _ _ ⟨(q9h HB.out hw141_0:), (q9h HB.out hw141_1:), (q9h HB.out hw141_2:), (q9h HB.out hw141_3:), (q9h HB.out hw141_4:), (q9h HB.out hw141_5:), (q9h HB.out hw141_6:), (q9h HB.out hw141_7:), (q9h HB.out hw141_8:), (q9h HB.out hw141_9:), (q9h HB.out hw141_10:), (q9h HB.out hw141_11:), (q9h HB.out hw141_12:), (q9h HB.out hw142_0:), (q9h HB.out hw142_1:), (q9h HB.out hw142_2:), (q9h HB.out hw142_3:), (q9h HB.out hw142_4:), (q9h HB.out hw142_5:), (q9h HB.out hw142_6:), (q9h HB.out hw142_7:), (q9h HB.out hw142_8:), (q9h HB.out hw142_9:), (q9h HB.out hw142_10:), (q9h HB.out hw142_11:), (q9h HB.out hw142_12:), (q9h HB.out hw144_0:), (q9h HB.out hw144_1:), (q9h HB.out hw144_2:), (q9h HB.out hw144_3:), (q9h HB.out hw144_4:), (q9h HB.out hw144_5:), (q9h HB.out hw144_6:), (q9h HB.out hw144_7:), (q9h HB.out hw144_8:), (q9h HB.out hw144_9:), (q9h HB.out hw144_10:), (q9h HB.out hw144_11:), (q9h HB.out hw144_12:), (q9h HB.out hw145_0:), (q9h HB.out hw145_1:), (q9h HB.out hw145_2:), (q9h HB.out hw145_3:), (q9h HB.out hw145_4:), (q9h HB.out hw145_5:), (q9h HB.out hw145_6:), (q9h HB.out hw145_7:), (q9h HB.out hw145_8:), (q9h HB.out hw145_9:), (q9h HB.out hw145_10:), (q9h HB.out hw145_11:), (q9h HB.out hw145_12:), (q9h HB.out hw146_0:), (q9h HB.out hw146_1:), (q9h HB.out hw146_2:), (q9h HB.out hw146_3:), (q9h HB.out hw146_4:), (q9h HB.out hw146_5:), (q9h HB.out hw146_6:), (q9h HB.out hw146_7:), (q9h HB.out hw146_8:), (q9h HB.out hw146_9:), (q9h HB.out hw146_10:), (q9h HB.out hw146_11:), (q9h HB.out hw146_12:), (q9h HB.out hw147_0:), (q9h HB.out hw147_1:), (q9h HB.out hw147_2:), (q9h HB.out hw147_3:), (q9h HB.out hw147_4:), (q9h HB.out hw147_5:), (q9h HB.out hw147_6:), (q9h HB.out hw147_7:), (q9h HB.out hw147_8:), (q9h HB.out hw147_9:), (q9h HB.out hw147_10:), (q9h HB.out hw147_11:), (q9h HB.out hw147_12:)⟩ (fun hHeld => ?_)
    clear hK K
    refine norm_ (a' := ?_) ?_ ?_
    rotate_left
    ·show Act.put _ (some 27) _ = _
     simp only [Act.put, q9a, q9b, q9c, i64_w, i32_w]
     rfl
    refine q9p (i := 11) (N := some 28) (q9m 38 4095) HT_.out ?_
    refine q9p (i := 12) (N := some 29) (q9m 38 8191) HT_.out ?_
    refine q9p (i := 13) (N := some 30) (q9m 38 16383) HT_.out ?_
    refine q9p (i := 14) (N := some 31) (q9m 38 32767) HT_.out ?_
    refine q9p (i := 15) (N := some 32) (q9m 38 65535) HT_.out ?_
    refine q9p (i := 16) (N := some 33) (q9m 38 131071) HT_.out ?_
    refine q9p (i := 18) (N := some 35) (q9m 38 393215) HT_.out ?_
    refine q9p (i := 19) (N := some 36) (q9m 38 917503) HT_.out ?_
    refine q9p (i := 20) (N := some 37) (q9m 38 1966079) HT_.out ?_
    refine q9p (i := 21) (N := some 38) (q9m 38 4063231) HT_.out ?_
    refine take_ (i := 17) (N := some 34) (v := ?_) (a' := ?_) (q9m 38 4194303) rfl rfl (take_ofW HT_.out HW_.out (by kernel_rfl)) (fun _ _ _ h => h) (Or.inl ⟨by rfl, ?_⟩) hHeld ?_ ?_; rotate_left; (rintro w' ⟨s0, s1, s2, s3, s4, s5, s6, s7, s8, s9, s10, s11, s12, s13, s14, s15, s16, s17, s18, s19, s20, s21, s22, s23, s24, s25, s26, s27, s28, s29, s30, s31, s32, s33, s34, s35, s36, s37, s38, s39, s40, s41, s42, s43, s44, s45, s46, s47, s48, s49, s50, s51, s52, s53, s54, s55, s56, s57, s58, s59, s60, s61, s62, s63, s64, s65, s66, s67, s68, s69, s70, s71, s72, s73, s74, s75, s76, s77⟩; go_simp; with_reducible rfl); rotate_left; (simp only [Act.put, q9a, q9b, q9c, i64_w, i32_w]; rfl)
    refine take_ (i := 22) (N := some 39) (v := ?_) (a' := ?_) (q9m 38 8388607) rfl rfl (take_ofW HT_.out HW_.out (by kernel_rfl)) (fun _ _ _ h => h) (Or.inl ⟨by rfl, ?_⟩) hHeld ?_ ?_; rotate_left; (rintro w' ⟨s0, s1, s2, s3, s4, s5, s6, s7, s8, s9, s10, s11, s12, s13, s14, s15, s16, s17, s18, s19, s20, s21, s22, s23, s24, s25, s26, s27, s28, s29, s30, s31, s32, s33, s34, s35, s36, s37, s38, s39, s40, s41, s42, s43, s44, s45, s46, s47, s48, s49, s50, s51, s52, s53, s54, s55, s56, s57, s58, s59, s60, s61, s62, s63, s64, s65, s66, s67, s68, s69, s70, s71, s72, s73, s74, s75, s76, s77⟩; go_simp; with_reducible rfl); rotate_left; (simp only [Act.put, q9a, q9b, q9c, i64_w, i32_w]; rfl)
    refine q9p (i := 23) (N := some 40) (q9m 38 16777215) HT_.out ?_
    refine q9p (i := 24) (N := some 41) (q9m 38 33554431) HT_.out ?_
    refine q9p (i := 25) (N := some 42) (q9m 38 67108863) HT_.out ?_
    refine q9p (i := 26) (N := some 43) (q9m 38 134217727) HT_.out ?_
    refine q9p (i := 27) (N := some 44) (q9m 38 268435455) HT_.out ?_
    refine q9p (i := 28) (N := some 45) (q9m 38 536870911) HT_.out ?_
    refine q9p (i := 29) (N := some 46) (q9m 38 1073741823) HT_.out ?_
    refine q9p (i := 31) (N := some 48) (q9m 38 3221225471) HT_.out ?_
    refine q9p (i := 32) (N := some 49) (q9m 38 7516192767) HT_.out ?_
    refine q9p (i := 33) (N := some 50) (q9m 38 16106127359) HT_.out ?_
    refine q9p (i := 34) (N := some 51) (q9m 38 33285996543) HT_.out ?_
    refine take_ (i := 30) (N := some 47) (v := ?_) (a' := ?_) (q9m 38 34359738367) rfl rfl (take_ofW HT_.out HW_.out (by kernel_rfl)) (fun _ _ _ h => h) (Or.inl ⟨by rfl, ?_⟩) hHeld ?_ ?_; rotate_left; (rintro w' ⟨s0, s1, s2, s3, s4, s5, s6, s7, s8, s9, s10, s11, s12, s13, s14, s15, s16, s17, s18, s19, s20, s21, s22, s23, s24, s25, s26, s27, s28, s29, s30, s31, s32, s33, s34, s35, s36, s37, s38, s39, s40, s41, s42, s43, s44, s45, s46, s47, s48, s49, s50, s51, s52, s53, s54, s55, s56, s57, s58, s59, s60, s61, s62, s63, s64, s65, s66, s67, s68, s69, s70, s71, s72, s73, s74, s75, s76, s77⟩; go_simp; with_reducible rfl); rotate_left; (simp only [Act.put, q9a, q9b, q9c, i64_w, i32_w]; rfl)
    refine take_ (i := 35) (N := some 52) (v := ?_) (a' := ?_) (q9m 38 68719476735) rfl rfl (take_ofW HT_.out HW_.out (by kernel_rfl)) (fun _ _ _ h => h) (Or.inl ⟨by rfl, ?_⟩) hHeld ?_ ?_; rotate_left; (rintro w' ⟨s0, s1, s2, s3, s4, s5, s6, s7, s8, s9, s10, s11, s12, s13, s14, s15, s16, s17, s18, s19, s20, s21, s22, s23, s24, s25, s26, s27, s28, s29, s30, s31, s32, s33, s34, s35, s36, s37, s38, s39, s40, s41, s42, s43, s44, s45, s46, s47, s48, s49, s50, s51, s52, s53, s54, s55, s56, s57, s58, s59, s60, s61, s62, s63, s64, s65, s66, s67, s68, s69, s70, s71, s72, s73, s74, s75, s76, s77⟩; go_simp; with_reducible rfl); rotate_left; (simp only [Act.put, q9a, q9b, q9c, i64_w, i32_w]; rfl)
    refine q9p (i := 36) (N := some 53) (q9m 38 137438953471) HT_.out ?_
    refine q9p (i := 37) (N := some 54) (q9m 38 274877906943) HT_.out ?_
    refine done_ (done_of HT_.out (by kernel_rfl)) ?_
    try go_wp2
    go_roundg k1
    case measure => have := HK1.out; omega
    case rel => exact ⟨(wrap64 (x5_1 + 1)), (by first | rfl | (simp; done) | (simp [*]; done)), H', ⟨by have := HK1.out; omega⟩, ⟨by repeat (first | (with_reducible first | exact HB.out | apply below_alloc | apply pw_below_drewN | apply below_drew1) | exact HB.out)⟩⟩
end Go.Proofs.Ytoigebnhnkdbbaa.PAll
