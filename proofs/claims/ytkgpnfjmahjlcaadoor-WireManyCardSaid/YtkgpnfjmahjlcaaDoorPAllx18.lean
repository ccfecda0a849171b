-- Written by a program: the kit's print.py, driven for several laws at once. Not trusted: Lean checks it.
import Derived.Test.YtkgpnfjmahjlcaaDoorPAllx0
import Derived.Test.YtkgpnfjmahjlcaaDoorPAllx8
namespace Go.Proofs.YtkgpnfjmahjlcaaDoor.PAll
open Go.RowKit Go.Proofs.YtkgpnfjmahjlcaaDoorW.PrintWords Go.Proofs.YtkgpnfjmahjlcaaDoorW.PrintLast Go.Proofs.YtkgpnfjmahjlcaaDoorW.PrintMore
attribute [local go_sem] max2_int min2_int max_two min_two max_three min_three max_four min_four   -- for this text's walks alone
set_option linter.unusedVariables false
set_option linter.unusedSimpArgs false

def q18m (n m : Nat) : Array Bool := ((List.range n).map (Nat.testBit m)).toArray
theorem q18a {α : Type} (xs : List α) (i : Nat) (x : α) : xs.toArray.setIfInBounds i x = (xs.set i x).toArray := List.setIfInBounds_toArray ..
theorem q18b {α : Type} (x y : α) (xs : List α) : (x :: xs).set 0 y = y :: xs := List.set_cons_zero ..
theorem q18c {α : Type} (x y : α) (xs : List α) (n : Nat) : (x :: xs).set (n + 1) y = x :: xs.set n y := List.set_cons_succ ..
theorem q18h {w w' : World} {p : Addr} {v : Value} (h : Below w.heap.size w w') (x : w.cell? p = some v) : w'.cell? p = some v := (h.cell (World.block_lt_of_cell? w _ x)).trans x
theorem q18p {P : Program} {md : Region.Mode} {ops : Array Oper} {Q : Exit → Act → World → Prop} {S : World → Prop} {ds : List Nat} {T : Bool × List (List Nat × List Nat)} {i : Nat} {N : Option Tmp} {oi : Oper} {v : Value} {fuel : Nat} {l : Array Bool} {a : Act} {w : World} (l' : Array Bool) (hT : rtab md ops = T) {a' : Act}
    (h : wpAnyLast P md ops Q S ds fuel l' a' w) (hi : ops[i]? = some oi := by rfl) (hN : oi.dst = N := by rfl) (hc : anyT T l.toList l'.toList i = true := by kernel_rfl) (hQ : ∀ c a w, Q (.panic c) (a.put oi.dst v) w → Q (.panic c) a w := by exact fun _ _ _ h => h)
    (hw : Region.wanted oi (yielded ops a.tmps) = true := by rfl) (hy : ∀ w', (execOp a.eval oi).run P w' = .ok (.value v) w' := by intro w'; go_simp; with_reducible rfl) (ha : a.put N v = a' := by simp only [Act.put, q18a, q18b, q18c, i64_w, i32_w]; rfl) :
    wpAnyLast P md ops Q S ds (fuel + 1) l a w := pure_ l' hi hN (any_of hT hc) hQ (Or.inl ⟨hw, hy⟩) ha h
theorem q18u {P : Program} {md : Region.Mode} {ops : Array Oper} {Q : Exit → Act → World → Prop} {S : World → Prop} {ds : List Nat} {T : Bool × List (List Nat × List Nat)} {i : Nat} {N : Option Tmp} {oi : Oper} {fuel : Nat} {l : Array Bool} {a : Act} {w : World} (l' : Array Bool) (hT : rtab md ops = T) {a' : Act}
    (h : wpAnyLast P md ops Q S ds fuel l' a' w) (hi : ops[i]? = some oi := by rfl) (hN : oi.dst = N := by rfl) (hc : anyT T l.toList l'.toList i = true := by kernel_rfl) (hQ : ∀ c a w, Q (.panic c) (a.put oi.dst undef) w → Q (.panic c) a w := by exact fun _ _ _ h => h)
    (hw : Region.wanted oi (yielded ops a.tmps) = false := by rfl) (ha : a.put N undef = a' := by simp only [Act.put, q18a, q18b, q18c, i64_w, i32_w]; rfl) :
    wpAnyLast P md ops Q S ds (fuel + 1) l a w := pure_ l' hi hN (any_of hT hc) hQ (Or.inr ⟨hw, rfl⟩) ha h
theorem q18k {w : World} {g : Nat} {cs : Array Value} {t : TypeId} (h : w.heap[g]? = some (.cells cs t (0, 0))) (i : Nat) {v : Value} (e : cs[i]? = some v := by rfl) : w.cell? ⟨g, i, none⟩ = some v := (blk_cell h i).trans e
theorem q18y0 {P : Prop} (h : P := by first | (with_reducible assumption) | assumption) : P := h

theorem cellS91_0 {W : World} {g : Nat} {A0 : Option Addr} {c0 : Nat} {f0 : List Int} {f1 : Int} {f2 : Bool} (h : W.heap[g]? = some (.cells #[.slice A0 f0.length c0, .int .i64 f1, .bool f2] 91 (0, 0))) : W.cell? ⟨g, 0, none⟩ = some (.slice A0 f0.length c0) := (blk_cell h 0).trans rfl
theorem cellS91_1 {W : World} {g : Nat} {A0 : Option Addr} {c0 : Nat} {f0 : List Int} {f1 : Int} {f2 : Bool} (h : W.heap[g]? = some (.cells #[.slice A0 f0.length c0, .int .i64 f1, .bool f2] 91 (0, 0))) : W.cell? ⟨g, 1, none⟩ = some (.int .i64 f1) := (blk_cell h 1).trans rfl
theorem cellS91_2 {W : World} {g : Nat} {A0 : Option Addr} {c0 : Nat} {f0 : List Int} {f1 : Int} {f2 : Bool} (h : W.heap[g]? = some (.cells #[.slice A0 f0.length c0, .int .i64 f1, .bool f2] 91 (0, 0))) : W.cell? ⟨g, 2, none⟩ = some (.bool f2) := (blk_cell h 2).trans rfl
/-! ### cambiumref16_Spans: function 19 -/
def cambiumref16_Spans.l0 : Nat → List (S27) → List (S27) → Int → Option (Bool)
 | 0, _, _, _ => none
 | k + 1, x0, x1, x5 => if x5 < (x0.length : Int) then (if 0 ≤ x5 then (if x5 < (x1.length : Int) then ((cambiumref16_Same.f k ((rd_T27 x0 x5).f0) ((rd_T27 x0 x5).f1) ((rd_T27 x0 x5).f2) ((rd_T27 x0 x5).f3) ((rd_T27 x0 x5).f4) ((rd_T27 x0 x5).f5) ((rd_T27 x0 x5).f6) ((rd_T27 x0 x5).f7) ((rd_T27 x0 x5).f8) ((rd_T27 x0 x5).f9) ((rd_T27 x0 x5).f10) ((rd_T27 x1 x5).f0) ((rd_T27 x1 x5).f1) ((rd_T27 x1 x5).f2) ((rd_T27 x1 x5).f3) ((rd_T27 x1 x5).f4) ((rd_T27 x1 x5).f5) ((rd_T27 x1 x5).f6) ((rd_T27 x1 x5).f7) ((rd_T27 x1 x5).f8) ((rd_T27 x1 x5).f9) ((rd_T27 x1 x5).f10)).bind fun t424 => (if t424 = true then (cambiumref16_Spans.l0 k x0 x1 (wrap64 (x5 + 1))) else (some false))) else (none)) else (none)) else (some true)
def cambiumref16_Spans.f (k : Nat) (l0 : List (S27)) (l1 : List (S27)) : Option (Bool) := if (l0.length : Int) = (l1.length : Int) then (cambiumref16_Spans.l0 k l0 l1 0) else (some false)
theorem cambiumref16_Spans.mono_l : ∀ k, (∀ y0 y1 y2, LeO (cambiumref16_Spans.l0 k y0 y1 y2) (cambiumref16_Spans.l0 (k + 1) y0 y1 y2))
 | 0 => fun _ _ _ r h => by simp [cambiumref16_Spans.l0] at h
 | k + 1 => by
  have ih0 := cambiumref16_Spans.mono_l k
  ·intro y0 y1 y2
   unfold cambiumref16_Spans.l0
   repeat' first
   | (with_reducible exact ih0 _ _ _)
   | (with_reducible exact cambiumref16_Same.mono _ _ _ _ _ _ _ _ _ _ _ _ _ _ _ _ _ _ _ _ _ _ _)
   | (with_reducible exact LeO.refl _)
   | (with_reducible exact LeO.none _)
   | (with_reducible refine LeO.ite ?_ ?_)
   | (with_reducible refine LeO.bind ?_ (fun _ => ?_))
   | exact ih0 _ _ _
   | exact cambiumref16_Same.mono _ _ _ _ _ _ _ _ _ _ _ _ _ _ _ _ _ _ _ _ _ _ _
   | exact LeO.none _
   | refine LeO.ite ?_ ?_
   | refine LeO.bind ?_ (fun _ => ?_)
theorem cambiumref16_Spans.mono : ∀ a0 a1 k, LeO (cambiumref16_Spans.f k a0 a1) (cambiumref16_Spans.f (k + 1) a0 a1) := by
 intro a0 a1 k
 have ih0 := cambiumref16_Spans.mono_l k
 unfold cambiumref16_Spans.f
 repeat' first
   | (with_reducible exact ih0 _ _ _)
   | (with_reducible exact cambiumref16_Same.mono _ _ _ _ _ _ _ _ _ _ _ _ _ _ _ _ _ _ _ _ _ _ _)
   | (with_reducible exact LeO.refl _)
   | (with_reducible exact LeO.none _)
   | (with_reducible refine LeO.ite ?_ ?_)
   | (with_reducible refine LeO.bind ?_ (fun _ => ?_))
   | exact ih0 _ _ _
   | exact cambiumref16_Same.mono _ _ _ _ _ _ _ _ _ _ _ _ _ _ _ _ _ _ _ _ _ _ _
   | exact LeO.none _
   | refine LeO.ite ?_ ?_
   | refine LeO.bind ?_ (fun _ => ?_)
def cambiumref16_Spans.T6 : Bool × List (List Nat × List Nat) := (true, [([], []), ([], []), ([0, 1], [0, 1]), ([2], [2]), ([], []), ([], []), ([4, 5], [4, 5]), ([6], [6]), ([3, 7], [3, 7]), ([8], [8])])
def cambiumref16_Spans.B6 : List Nat := [0, 0, 3, 7, 0, 0, 48, 112, 255, 511]
theorem cambiumref16_Spans.tab6 : rtab .any (opsOf Tryd.f19 6) = cambiumref16_Spans.T6 := by kernel_rfl
theorem cambiumref16_Spans.bits6 : waitsOk cambiumref16_Spans.T6.2 cambiumref16_Spans.B6 = true := by kernel_rfl
set_option maxHeartbeats 8000000 in
set_option maxRecDepth 100000 in
theorem cambiumref16_Spans.calls (k : Nat) (A0 : Option Addr) (c0 : Nat) (l0 : List (S27)) (A1 : Option Addr) (c1 : Nat) (l1 : List (S27)) (r : Bool) (w : World) (hr0 : Kd.C k27 w A0 l0.length l0) (hc0 : l0.length ≤ c0) (hr1 : Kd.C k27 w A1 l1.length l1) (hc1 : l1.length ≤ c1) (h : cambiumref16_Spans.f k l0 l1 = some r) :
  Calls Tryd.prog 19 #[.slice A0 l0.length c0, .slice A1 l1.length c1] w fun e w' => e = .returned (.bool r) ∧ Below w.heap.size w w' := by
 have hu27 := Tryd.underlying27
 have HR0 := Aside0.mk hr0
 have HC0 := Aside0.mk hc0
 clear hr0 hc0
 have HR1 := Aside0.mk hr1
 have HC1 := Aside0.mk hc1
 clear hr1 hc1
 have HB := Aside0.mk (Below.refl w.heap.size w)
 have H : (if (l0.length : Int) = (l1.length : Int) then (cambiumref16_Spans.l0 k l0 l1 0) else (some false)) = some r := h
 clear h
 by_cases c3 : (l0.length : Int) = (l1.length : Int)
 rotate_left
 ·rw [if_neg c3] at H
  have c3b0 : ((l0.length : Int) == (l1.length : Int)) = false := beq_eq_false_iff_ne.mpr c3
  have c3b1 : ((l0.length : Int) != (l1.length : Int)) = true := bne_iff_ne.mpr c3
  have c3b2 : (l0.length == l1.length) = false := by first | simpa using c3 | (simp at c3 ⊢; omega)
  obtain rfl := Option.some.inj H
  go_enter Tryd.func19, Tryd.ntmps19
  go_wp2
  go_ret
  exact ⟨by first | rfl | (simp [errW_none, errW_some] <;> rfl) | (simp [*, errW_none, errW_some] <;> rfl), by repeat (first | (with_reducible first | exact HB.out | apply below_alloc | apply pw_below_drewN | apply below_drew1) | exact HB.out)⟩

 rw [if_pos c3] at H
 have c3b0 : ((l0.length : Int) == (l1.length : Int)) = true := beq_iff_eq.mpr c3
 have c3b1 : ((l0.length : Int) != (l1.length : Int)) = false := bne_eq_false_iff_eq.mpr c3
 have c3b2 : (l0.length == l1.length) = true := by first | simpa using c3 | (simp at c3 ⊢; omega)
 clear c3
 have H' := Aside0.mk H
 clear H
 go_enter Tryd.func19, Tryd.ntmps19
 go_wp2
 go_loopg [5] k (fun kq v5 w' => ∃ (x5_1 : Int), v5 = .int .i64 x5_1 ∧ Aside0 (cambiumref16_Spans.l0 kq l0 l1 x5_1 = some r) ∧ Aside0 (kq ≤ k) ∧ Aside0 (Below w.heap.size w w'))
 case atStart => exact ⟨(0), (by first | rfl | (simp; done) | (simp [*]; done)), H', ⟨Nat.le_refl _⟩, ⟨by repeat (first | (with_reducible first | exact HB.out | apply below_alloc | apply pw_below_drewN | apply below_drew1) | exact HB.out)⟩⟩
 case round =>
  clear H'
  try clear c1
  try clear p2
  try clear c3
  try clear c3b0
  try clear c3b1
  try clear c3b2
  obtain ⟨x5_1, rfl, HA, HK1, HB⟩ := hrel
  cases gk with
  | zero => exact absurd HA.out (by simp [cambiumref16_Spans.l0])
  | succ k1 =>
   have H := HA.out
   clear HA
   simp only [cambiumref16_Spans.l0] at H
   by_cases c4 : x5_1 < (l0.length : Int)
   rotate_left
   ·rw [if_neg c4] at H
    have c4b0 : decide (x5_1 < (l0.length : Int)) = false := decide_eq_false c4
    clear c4
    obtain rfl := Option.some.inj H
    go_wp2
    go_ret
    exact ⟨by first | rfl | (simp [errW_none, errW_some] <;> rfl) | (simp [*, errW_none, errW_some] <;> rfl), by repeat (first | (with_reducible first | exact HB.out | apply below_alloc | apply pw_below_drewN | apply below_drew1) | exact HB.out)⟩
   rw [if_pos c4] at H
   have c4b0 : decide (x5_1 < (l0.length : Int)) = true := decide_eq_true c4
   clear c4
   by_cases c5 : 0 ≤ x5_1
   rotate_left
   ·rw [if_neg c5] at H
    exact absurd H (by simp)
   rw [if_pos c5] at H
   have c5b0 : decide (0 ≤ x5_1) = true := decide_eq_true c5
   clear c5
   by_cases c6 : x5_1 < (l1.length : Int)
   rotate_left
   ·rw [if_neg c6] at H
    exact absurd H (by simp)
   rw [if_pos c6] at H
   have c6b0 : decide (x5_1 < (l1.length : Int)) = true := decide_eq_true c6
   clear c6
   replace H := Option.bind_eq_some_iff.mp H
   obtain ⟨t424, A70, H⟩ := H
   replace H : (if t424 = true then (cambiumref16_Spans.l0 k1 l0 l1 (wrap64 (x5_1 + 1))) else (some false)) = some r := H
   have A7 := Aside0.mk A70
   clear A70
   by_cases c8 : t424 = true
   rotate_left
   ·replace c8 := Bool.eq_false_iff.mpr c8
    subst c8
    have H1 : (some false) = some r := by rw [if_neg (show ¬ (false = true) by decide)] at H; exact H
    clear H
    have H := H1
    clear H1
    obtain rfl := Option.some.inj H
    try go_wp2
    replace HB := Aside0.mk (below_drew1 HB.out)
    have p422 : 0 ≤ (x5_1 : Int) := of_decide_eq_true q18y0
    have q422 : x5_1 < (l0.length : Int) := of_decide_eq_true q18y0
    obtain ⟨ad422, A422_8, c422_8, A422_9, c422_9, A422_10, c422_10, e422, hx422_0, hx422_1, hx422_2, hx422_3, hx422_4, hx422_5, hx422_6, hx422_7, hx422_8, hx422_9, hx422_10, hl422_8, hi422_8, hl422_9, hi422_9, hl422_10, hi422_10⟩ := at_T27 HR0.out x5_1 p422 q422
    have hw422_10 := hx422_10
    have hw422_9 := hx422_9
    have hw422_8 := hx422_8
    have hw422_7 := hx422_7
    have hw422_6 := hx422_6
    have hw422_5 := hx422_5
    have hw422_4 := hx422_4
    have hw422_3 := hx422_3
    have hw422_2 := hx422_2
    have hw422_1 := hx422_1
    have hw422_0 := hx422_0
    cases e422
    replace hx422_0 := (HB.out.cell (World.block_lt_of_cell? w _ hx422_0)).trans hx422_0
    replace hx422_1 := (HB.out.cell (World.block_lt_of_cell? w _ hx422_1)).trans hx422_1
    replace hx422_2 := (HB.out.cell (World.block_lt_of_cell? w _ hx422_2)).trans hx422_2
    replace hx422_3 := (HB.out.cell (World.block_lt_of_cell? w _ hx422_3)).trans hx422_3
    replace hx422_4 := (HB.out.cell (World.block_lt_of_cell? w _ hx422_4)).trans hx422_4
    replace hx422_5 := (HB.out.cell (World.block_lt_of_cell? w _ hx422_5)).trans hx422_5
    replace hx422_6 := (HB.out.cell (World.block_lt_of_cell? w _ hx422_6)).trans hx422_6
    replace hx422_7 := (HB.out.cell (World.block_lt_of_cell? w _ hx422_7)).trans hx422_7
    replace hx422_8 := (HB.out.cell (World.block_lt_of_cell? w _ hx422_8)).trans hx422_8
    replace hx422_9 := (HB.out.cell (World.block_lt_of_cell? w _ hx422_9)).trans hx422_9
    replace hx422_10 := (HB.out.cell (World.block_lt_of_cell? w _ hx422_10)).trans hx422_10
    have HR422_8 := Aside0.mk hi422_8
    have HC422_8 := Aside0.mk hl422_8
    clear hi422_8 hl422_8
    have HR422_9 := Aside0.mk hi422_9
    have HC422_9 := Aside0.mk hl422_9
    clear hi422_9 hl422_9
    have HR422_10 := Aside0.mk hi422_10
    have HC422_10 := Aside0.mk hl422_10
    clear hi422_10 hl422_10
    replace p422 := eq_true p422
    replace q422 := eq_true q422
    have p423 : 0 ≤ (x5_1 : Int) := of_decide_eq_true q18y0
    have q423 : x5_1 < (l1.length : Int) := of_decide_eq_true q18y0
    obtain ⟨ad423, A423_8, c423_8, A423_9, c423_9, A423_10, c423_10, e423, hx423_0, hx423_1, hx423_2, hx423_3, hx423_4, hx423_5, hx423_6, hx423_7, hx423_8, hx423_9, hx423_10, hl423_8, hi423_8, hl423_9, hi423_9, hl423_10, hi423_10⟩ := at_T27 HR1.out x5_1 p423 q423
    have hw423_10 := hx423_10
    have hw423_9 := hx423_9
    have hw423_8 := hx423_8
    have hw423_7 := hx423_7
    have hw423_6 := hx423_6
    have hw423_5 := hx423_5
    have hw423_4 := hx423_4
    have hw423_3 := hx423_3
    have hw423_2 := hx423_2
    have hw423_1 := hx423_1
    have hw423_0 := hx423_0
    cases e423
    replace hx423_0 := (HB.out.cell (World.block_lt_of_cell? w _ hx423_0)).trans hx423_0
    replace hx423_1 := (HB.out.cell (World.block_lt_of_cell? w _ hx423_1)).trans hx423_1
    replace hx423_2 := (HB.out.cell (World.block_lt_of_cell? w _ hx423_2)).trans hx423_2
    replace hx423_3 := (HB.out.cell (World.block_lt_of_cell? w _ hx423_3)).trans hx423_3
    replace hx423_4 := (HB.out.cell (World.block_lt_of_cell? w _ hx423_4)).trans hx423_4
    replace hx423_5 := (HB.out.cell (World.block_lt_of_cell? w _ hx423_5)).trans hx423_5
    replace hx423_6 := (HB.out.cell (World.block_lt_of_cell? w _ hx423_6)).trans hx423_6
    replace hx423_7 := (HB.out.cell (World.block_lt_of_cell? w _ hx423_7)).trans hx423_7
    replace hx423_8 := (HB.out.cell (World.block_lt_of_cell? w _ hx423_8)).trans hx423_8
    replace hx423_9 := (HB.out.cell (World.block_lt_of_cell? w _ hx423_9)).trans hx423_9
    replace hx423_10 := (HB.out.cell (World.block_lt_of_cell? w _ hx423_10)).trans hx423_10
    have HR423_8 := Aside0.mk hi423_8
    have HC423_8 := Aside0.mk hl423_8
    clear hi423_8 hl423_8
    have HR423_9 := Aside0.mk hi423_9
    have HC423_9 := Aside0.mk hl423_9
    clear hi423_9 hl423_9
    have HR423_10 := Aside0.mk hi423_10
    have HC423_10 := Aside0.mk hl423_10
    clear hi423_10 hl423_10
    replace p423 := eq_true p423
    replace q423 := eq_true q423
    refine start_ (n := 10) (S := fun w' => w'.cell? (ad422.add ((x5_1).toNat * 11)) = some (.int .u64 ((rd_T27 l0 x5_1).f0)) ∧ w'.cell? ⟨(ad422.add ((x5_1).toNat * 11)).block, (ad422.add ((x5_1).toNat * 11)).off + 1, none⟩ = some (.int .u64 ((rd_T27 l0 x5_1).f1)) ∧ w'.cell? ⟨(ad422.add ((x5_1).toNat * 11)).block, (ad422.add ((x5_1).toNat * 11)).off + 2, none⟩ = some (.int .u64 ((rd_T27 l0 x5_1).f2)) ∧ w'.cell? ⟨(ad422.add ((x5_1).toNat * 11)).block, (ad422.add ((x5_1).toNat * 11)).off + 3, none⟩ = some (.string ((rd_T27 l0 x5_1).f3)) ∧ w'.cell? ⟨(ad422.add ((x5_1).toNat * 11)).block, (ad422.add ((x5_1).toNat * 11)).off + 4, none⟩ = some (.string ((rd_T27 l0 x5_1).f4)) ∧ w'.cell? ⟨(ad422.add ((x5_1).toNat * 11)).block, (ad422.add ((x5_1).toNat * 11)).off + 5, none⟩ = some (.int .i64 ((rd_T27 l0 x5_1).f5)) ∧ w'.cell? ⟨(ad422.add ((x5_1).toNat * 11)).block, (ad422.add ((x5_1).toNat * 11)).off + 6, none⟩ = some (.int .i64 ((rd_T27 l0 x5_1).f6)) ∧ w'.cell? ⟨(ad422.add ((x5_1).toNat * 11)).block, (ad422.add ((x5_1).toNat * 11)).off + 7, none⟩ = some (.int .i64 ((rd_T27 l0 x5_1).f7)) ∧ w'.cell? ⟨(ad422.add ((x5_1).toNat * 11)).block, (ad422.add ((x5_1).toNat * 11)).off + 8, none⟩ = some (.slice A422_8 ((rd_T27 l0 x5_1).f8).length c422_8) ∧ w'.cell? ⟨(ad422.add ((x5_1).toNat * 11)).block, (ad422.add ((x5_1).toNat * 11)).off + 9, none⟩ = some (.slice A422_9 ((rd_T27 l0 x5_1).f9).length c422_9) ∧ w'.cell? ⟨(ad422.add ((x5_1).toNat * 11)).block, (ad422.add ((x5_1).toNat * 11)).off + 10, none⟩ = some (.slice A422_10 ((rd_T27 l0 x5_1).f10).length c422_10) ∧ w'.cell? (ad423.add ((x5_1).toNat * 11)) = some (.int .u64 ((rd_T27 l1 x5_1).f0)) ∧ w'.cell? ⟨(ad423.add ((x5_1).toNat * 11)).block, (ad423.add ((x5_1).toNat * 11)).off + 1, none⟩ = some (.int .u64 ((rd_T27 l1 x5_1).f1)) ∧ w'.cell? ⟨(ad423.add ((x5_1).toNat * 11)).block, (ad423.add ((x5_1).toNat * 11)).off + 2, none⟩ = some (.int .u64 ((rd_T27 l1 x5_1).f2)) ∧ w'.cell? ⟨(ad423.add ((x5_1).toNat * 11)).block, (ad423.add ((x5_1).toNat * 11)).off + 3, none⟩ = some (.string ((rd_T27 l1 x5_1).f3)) ∧ w'.cell? ⟨(ad423.add ((x5_1).toNat * 11)).block, (ad423.add ((x5_1).toNat * 11)).off + 4, none⟩ = some (.string ((rd_T27 l1 x5_1).f4)) ∧ w'.cell? ⟨(ad423.add ((x5_1).toNat * 11)).block, (ad423.add ((x5_1).toNat * 11)).off + 5, none⟩ = some (.int .i64 ((rd_T27 l1 x5_1).f5)) ∧ w'.cell? ⟨(ad423.add ((x5_1).toNat * 11)).block, (ad423.add ((x5_1).toNat * 11)).off + 6, none⟩ = some (.int .i64 ((rd_T27 l1 x5_1).f6)) ∧ w'.cell? ⟨(ad423.add ((x5_1).toNat * 11)).block, (ad423.add ((x5_1).toNat * 11)).off + 7, none⟩ = some (.int .i64 ((rd_T27 l1 x5_1).f7)) ∧ w'.cell? ⟨(ad423.add ((x5_1).toNat * 11)).block, (ad423.add ((x5_1).toNat * 11)).off + 8, none⟩ = some (.slice A423_8 ((rd_T27 l1 x5_1).f8).length c423_8) ∧ w'.cell? ⟨(ad423.add ((x5_1).toNat * 11)).block, (ad423.add ((x5_1).toNat * 11)).off + 9, none⟩ = some (.slice A423_9 ((rd_T27 l1 x5_1).f9).length c423_9) ∧ w'.cell? ⟨(ad423.add ((x5_1).toNat * 11)).block, (ad423.add ((x5_1).toNat * 11)).off + 10, none⟩ = some (.slice A423_10 ((rd_T27 l1 x5_1).f10).length c423_10)) (ds := []) #[false, false, false, false, false, false, false, false, false, false] (by kernel_rfl) rfl rfl ⟨(q18h HB.out hw422_0:), (q18h HB.out hw422_1:), (q18h HB.out hw422_2:), (q18h HB.out hw422_3:), (q18h HB.out hw422_4:), (q18h HB.out hw422_5:), (q18h HB.out hw422_6:), (q18h HB.out hw422_7:), (q18h HB.out hw422_8:), (q18h HB.out hw422_9:), (q18h HB.out hw422_10:), (q18h HB.out hw423_0:), (q18h HB.out hw423_1:), (q18h HB.out hw423_2:), (q18h HB.out hw423_3:), (q18h HB.out hw423_4:), (q18h HB.out hw423_5:), (q18h HB.out hw423_6:), (q18h HB.out hw423_7:), (q18h HB.out hw423_8:), (q18h HB.out hw423_9:), (q18h HB.out hw423_10:)⟩ (fun hHeld => ?_); refine with_tabW cambiumref16_Spans.tab6 cambiumref16_Spans.bits6 (fun HT_ HW_ => ?_)
    generalize wr.drew = w11 at HB HR422_10 HR422_8 HR422_9 HR423_10 HR423_8 HR423_9 hx422_0 hx422_1 hx422_10 hx422_2 hx422_3 hx422_4 hx422_5 hx422_6 hx422_7 hx422_8 hx422_9 hx423_0 hx423_1 hx423_10 hx423_2 hx423_3 hx423_4 hx423_5 hx423_6 hx423_7 hx423_8 hx423_9 hHeld ⊢
    refine q18p (i := 0) (N := some 17) (q18m 10 1) HT_.out ?_
    refine q18p (i := 1) (N := some 18) (q18m 10 3) HT_.out ?_
    refine q18p (i := 2) (N := some 19) (q18m 10 7) HT_.out ?_
    refine q18p (i := 4) (N := some 21) (q18m 10 23) HT_.out ?_
    refine q18p (i := 5) (N := some 22) (q18m 10 55) HT_.out ?_
    refine q18p (i := 6) (N := some 23) (q18m 10 119) HT_.out ?_
    refine take_ (i := 3) (N := some 20) (v := ?_) (a' := ?_) (q18m 10 127) rfl rfl (take_ofW HT_.out HW_.out (by kernel_rfl)) (fun _ _ _ h => h) (Or.inl ⟨by rfl, ?_⟩) hHeld ?_ ?_; rotate_left; (rintro w' ⟨s0, s1, s2, s3, s4, s5, s6, s7, s8, s9, s10, s11, s12, s13, s14, s15, s16, s17, s18, s19, s20, s21⟩; go_simp; with_reducible rfl); rotate_left; (simp only [Act.put, q18a, q18b, q18c, i64_w, i32_w]; rfl)
    refine take_ (i := 7) (N := some 24) (v := ?_) (a' := ?_) (q18m 10 255) rfl rfl (take_ofW HT_.out HW_.out (by kernel_rfl)) (fun _ _ _ h => h) (Or.inl ⟨by rfl, ?_⟩) hHeld ?_ ?_; rotate_left; (rintro w' ⟨s0, s1, s2, s3, s4, s5, s6, s7, s8, s9, s10, s11, s12, s13, s14, s15, s16, s17, s18, s19, s20, s21⟩; go_simp; with_reducible rfl); rotate_left; (simp only [Act.put, q18a, q18b, q18c, i64_w, i32_w]; rfl)
    refine one_ (i := 8) (N := some 25) (q18m 10 511) rfl rfl (one_of HT_.out (by kernel_rfl)) (by decide) (fun K hK => ?_)
    refine goes_ Tryd.func15 (by kernel_rfl) rfl #[.agg #[.int .u64 ((rd_T27 l0 x5_1).f0), .int .u64 ((rd_T27 l0 x5_1).f1), .int .u64 ((rd_T27 l0 x5_1).f2), .string ((rd_T27 l0 x5_1).f3), .string ((rd_T27 l0 x5_1).f4), .int .i64 ((rd_T27 l0 x5_1).f5), .int .i64 ((rd_T27 l0 x5_1).f6), .int .i64 ((rd_T27 l0 x5_1).f7), .slice A422_8 ((rd_T27 l0 x5_1).f8).length c422_8, .slice A422_9 ((rd_T27 l0 x5_1).f9).length c422_9, .slice A422_10 ((rd_T27 l0 x5_1).f10).length c422_10], .agg #[.int .u64 ((rd_T27 l1 x5_1).f0), .int .u64 ((rd_T27 l1 x5_1).f1), .int .u64 ((rd_T27 l1 x5_1).f2), .string ((rd_T27 l1 x5_1).f3), .string ((rd_T27 l1 x5_1).f4), .int .i64 ((rd_T27 l1 x5_1).f5), .int .i64 ((rd_T27 l1 x5_1).f6), .int .i64 ((rd_T27 l1 x5_1).f7), .slice A423_8 ((rd_T27 l1 x5_1).f8).length c423_8, .slice A423_9 ((rd_T27 l1 x5_1).f9).length c423_9, .slice A423_10 ((rd_T27 l1 x5_1).f10).length c423_10]] (by rfl) rfl rfl (by (try simp only [List.map_toArray, List.map_cons, List.map_nil]); first | done | rfl | (simp only [List.length_drop, List.length_take]; rfl)) ?_
    with_reducible refine (cambiumref16_Same.calls k1 ((rd_T27 l0 x5_1).f0) ((rd_T27 l0 x5_1).f1) ((rd_T27 l0 x5_1).f2) ((rd_T27 l0 x5_1).f3) ((rd_T27 l0 x5_1).f4) ((rd_T27 l0 x5_1).f5) ((rd_T27 l0 x5_1).f6) ((rd_T27 l0 x5_1).f7) _ _ ((rd_T27 l0 x5_1).f8) _ _ ((rd_T27 l0 x5_1).f9) _ _ ((rd_T27 l0 x5_1).f10) ((rd_T27 l1 x5_1).f0) ((rd_T27 l1 x5_1).f1) ((rd_T27 l1 x5_1).f2) ((rd_T27 l1 x5_1).f3) ((rd_T27 l1 x5_1).f4) ((rd_T27 l1 x5_1).f5) ((rd_T27 l1 x5_1).f6) ((rd_T27 l1 x5_1).f7) _ _ ((rd_T27 l1 x5_1).f8) _ _ ((rd_T27 l1 x5_1).f9) _ _ ((rd_T27 l1 x5_1).f10) false _ ?side1 ?side2 ?side3 ?side4 ?side5 ?side6 ?side7 ?side8 ?side9 ?side10 ?side11 ?side12 A7.out).mono ?_
    (case side1 => repeat (first | exact (Kd.C_below HR422_8.out HB.out) | (with_reducible refine Kd.C_alloc ?_ _) | (with_reducible refine Kd.C_drewN ?_ _) | (with_reducible refine Kd.C_drew ?_)))
    (case side2 => exact HC422_8.out)
    (case side3 => repeat (first | exact (Kd.C_below HR422_9.out HB.out) | (with_reducible refine Kd.C_alloc ?_ _) | (with_reducible refine Kd.C_drewN ?_ _) | (with_reducible refine Kd.C_drew ?_)))
    (case side4 => exact HC422_9.out)
    (case side5 => repeat (first | exact (Kd.C_below HR422_10.out HB.out) | (with_reducible refine Kd.C_alloc ?_ _) | (with_reducible refine Kd.C_drewN ?_ _) | (with_reducible refine Kd.C_drew ?_)))
    (case side6 => exact HC422_10.out)
    (case side7 => repeat (first | exact (Kd.C_below HR423_8.out HB.out) | (with_reducible refine Kd.C_alloc ?_ _) | (with_reducible refine Kd.C_drewN ?_ _) | (with_reducible refine Kd.C_drew ?_)))
    (case side8 => exact HC423_8.out)
    (case side9 => repeat (first | exact (Kd.C_below HR423_9.out HB.out) | (with_reducible refine Kd.C_alloc ?_ _) | (with_reducible refine Kd.C_drewN ?_ _) | (with_reducible refine Kd.C_drew ?_)))
    (case side10 => exact HC423_9.out)
    (case side11 => repeat (first | exact (Kd.C_below HR423_10.out HB.out) | (with_reducible refine Kd.C_alloc ?_ _) | (with_reducible refine Kd.C_drewN ?_ _) | (with_reducible refine Kd.C_drew ?_)))
    (case side12 => exact HC423_10.out)
    rintro e w12 ⟨rfl, hb⟩
    refine ⟨_, rfl, ?_⟩
    replace HB := Aside0.mk (below_step (by repeat (first | (with_reducible first | exact HB.out | apply below_alloc | apply pw_below_drewN | apply below_drew1) | exact HB.out)) hb)
    (try clear hb)
    (try clear hb2)
    (try clear hk)
    (try clear hi)
    refine hK.out _ _ ⟨(q18h HB.out hw422_0:), (q18h HB.out hw422_1:), (q18h HB.out hw422_2:), (q18h HB.out hw422_3:), (q18h HB.out hw422_4:), (q18h HB.out hw422_5:), (q18h HB.out hw422_6:), (q18h HB.out hw422_7:), (q18h HB.out hw422_8:), (q18h HB.out hw422_9:), (q18h HB.out hw422_10:), (q18h HB.out hw423_0:), (q18h HB.out hw423_1:), (q18h HB.out hw423_2:), (q18h HB.out hw423_3:), (q18h HB.out hw423_4:), (q18h HB.out hw423_5:), (q18h HB.out hw423_6:), (q18h HB.out hw423_7:), (q18h HB.out hw423_8:), (q18h HB.out hw423_9:), (q18h HB.out hw423_10:)⟩ (fun hHeld => ?_)
    clear hK K
    refine norm_ (a' := ?_) ?_ ?_
    rotate_left
    ·show Act.put _ (some 25) _ = _
     simp only [Act.put, q18a, q18b, q18c, i64_w, i32_w]
     rfl
    refine q18p (i := 9) (N := some 26) (q18m 10 1023) HT_.out ?_
    refine done_ (done_of HT_.out (by kernel_rfl)) ?_
    try go_wp2
    go_ret
    exact ⟨by first | rfl | (simp [errW_none, errW_some] <;> rfl) | (simp [*, errW_none, errW_some] <;> rfl), by repeat (first | (with_reducible first | exact HB.out | apply below_alloc | apply pw_below_drewN | apply below_drew1) | exact HB.out)⟩
   subst c8
   have H1 : (cambiumref16_Spans.l0 k1 l0 l1 (wrap64 (x5_1 + 1))) = some r := by rw [if_pos rfl] at H; exact H
   clear H
   have H := H1
   clear H1
   have H' := Aside0.mk H
   clear H
   try go_wp2
   replace HB := Aside0.mk (below_drew1 HB.out)
   have p422 : 0 ≤ (x5_1 : Int) := of_decide_eq_true q18y0
   have q422 : x5_1 < (l0.length : Int) := of_decide_eq_true q18y0
   obtain ⟨ad422, A422_8, c422_8, A422_9, c422_9, A422_10, c422_10, e422, hx422_0, hx422_1, hx422_2, hx422_3, hx422_4, hx422_5, hx422_6, hx422_7, hx422_8, hx422_9, hx422_10, hl422_8, hi422_8, hl422_9, hi422_9, hl422_10, hi422_10⟩ := at_T27 HR0.out x5_1 p422 q422
   have hw422_10 := hx422_10
   have hw422_9 := hx422_9
   have hw422_8 := hx422_8
   have hw422_7 := hx422_7
   have hw422_6 := hx422_6
   have hw422_5 := hx422_5
   have hw422_4 := hx422_4
   have hw422_3 := hx422_3
   have hw422_2 := hx422_2
   have hw422_1 := hx422_1
   have hw422_0 := hx422_0
   cases e422
   replace hx422_0 := (HB.out.cell (World.block_lt_of_cell? w _ hx422_0)).trans hx422_0
   replace hx422_1 := (HB.out.cell (World.block_lt_of_cell? w _ hx422_1)).trans hx422_1
   replace hx422_2 := (HB.out.cell (World.block_lt_of_cell? w _ hx422_2)).trans hx422_2
   replace hx422_3 := (HB.out.cell (World.block_lt_of_cell? w _ hx422_3)).trans hx422_3
   replace hx422_4 := (HB.out.cell (World.block_lt_of_cell? w _ hx422_4)).trans hx422_4
   replace hx422_5 := (HB.out.cell (World.block_lt_of_cell? w _ hx422_5)).trans hx422_5
   replace hx422_6 := (HB.out.cell (World.block_lt_of_cell? w _ hx422_6)).trans hx422_6
   replace hx422_7 := (HB.out.cell (World.block_lt_of_cell? w _ hx422_7)).trans hx422_7
   replace hx422_8 := (HB.out.cell (World.block_lt_of_cell? w _ hx422_8)).trans hx422_8
   replace hx422_9 := (HB.out.cell (World.block_lt_of_cell? w _ hx422_9)).trans hx422_9
   replace hx422_10 := (HB.out.cell (World.block_lt_of_cell? w _ hx422_10)).trans hx422_10
   have HR422_8 := Aside0.mk hi422_8
   have HC422_8 := Aside0.mk hl422_8
   clear hi422_8 hl422_8
   have HR422_9 := Aside0.mk hi422_9
   have HC422_9 := Aside0.mk hl422_9
   clear hi422_9 hl422_9
   have HR422_10 := Aside0.mk hi422_10
   have HC422_10 := Aside0.mk hl422_10
   clear hi422_10 hl422_10
   replace p422 := eq_true p422
   replace q422 := eq_true q422
   have p423 : 0 ≤ (x5_1 : Int) := of_decide_eq_true q18y0
   have q423 : x5_1 < (l1.length : Int) := of_decide_eq_true q18y0
   obtain ⟨ad423, A423_8, c423_8, A423_9, c423_9, A423_10, c423_10, e423, hx423_0, hx423_1, hx423_2, hx423_3, hx423_4, hx423_5, hx423_6, hx423_7, hx423_8, hx423_9, hx423_10, hl423_8, hi423_8, hl423_9, hi423_9, hl423_10, hi423_10⟩ := at_T27 HR1.out x5_1 p423 q423
   have hw423_10 := hx423_10
   have hw423_9 := hx423_9
   have hw423_8 := hx423_8
   have hw423_7 := hx423_7
   have hw423_6 := hx423_6
   have hw423_5 := hx423_5
   have hw423_4 := hx423_4
   have hw423_3 := hx423_3
   have hw423_2 := hx423_2
   have hw423_1 := hx423_1
   have hw423_0 := hx423_0
   cases e423
   replace hx423_0 := (HB.out.cell (World.block_lt_of_cell? w _ hx423_0)).trans hx423_0
   replace hx423_1 := (HB.out.cell (World.block_lt_of_cell? w _ hx423_1)).trans hx423_1
   replace hx423_2 := (HB.out.cell (World.block_lt_of_cell? w _ hx423_2)).trans hx423_2
   replace hx423_3 := (HB.out.cell (World.block_lt_of_cell? w _ hx423_3)).trans hx423_3
   replace hx423_4 := (HB.out.cell (World.block_lt_of_cell? w _ hx423_4)).trans hx423_4
   replace hx423_5 := (HB.out.cell (World.block_lt_of_cell? w _ hx423_5)).trans hx423_5
   replace hx423_6 := (HB.out.cell (World.block_lt_of_cell? w _ hx423_6)).trans hx423_6
   replace hx423_7 := (HB.out.cell (World.block_lt_of_cell? w _ hx423_7)).trans hx423_7
   replace hx423_8 := (HB.out.cell (World.block_lt_of_cell? w _ hx423_8)).trans hx423_8
   replace hx423_9 := (HB.out.cell (World.block_lt_of_cell? w _ hx423_9)).trans hx423_9
   replace hx423_10 := (HB.out.cell (World.block_lt_of_cell? w _ hx423_10)).trans hx423_10
   have HR423_8 := Aside0.mk hi423_8
   have HC423_8 := Aside0.mk hl423_8
   clear hi423_8 hl423_8
   have HR423_9 := Aside0.mk hi423_9
   have HC423_9 := Aside0.mk hl423_9
   clear hi423_9 hl423_9
   have HR423_10 := Aside0.mk hi423_10
   have HC423_10 := Aside0.mk hl423_10
   clear hi423_10 hl423_10
   replace p423 := eq_true p423
   replace q423 := eq_true q423
   refine start_ (n := 10) (S := fun w' => w'.cell? (ad422.add ((x5_1).toNat * 11)) = some (.int .u64 ((rd_T27 l0 x5_1).f0)) ∧ w'.cell? ⟨(ad422.add ((x5_1).toNat * 11)).block, (ad422.add ((x5_1).toNat * 11)).off + 1, none⟩ = some (.int .u64 ((rd_T27 l0 x5_1).f1)) ∧ w'.cell? ⟨(ad422.add ((x5_1).toNat * 11)).block, (ad422.add ((x5_1).toNat * 11)).off + 2, none⟩ = some (.int .u64 ((rd_T27 l0 x5_1).f2)) ∧ w'.cell? ⟨(ad422.add ((x5_1).toNat * 11)).block, (ad422.add ((x5_1).toNat * 11)).off + 3, none⟩ = some (.string ((rd_T27 l0 x5_1).f3)) ∧ w'.cell? ⟨(ad422.add ((x5_1).toNat * 11)).block, (ad422.add ((x5_1).toNat * 11)).off + 4, none⟩ = some (.string ((rd_T27 l0 x5_1).f4)) ∧ w'.cell? ⟨(ad422.add ((x5_1).toNat * 11)).block, (ad422.add ((x5_1).toNat * 11)).off + 5, none⟩ = some (.int .i64 ((rd_T27 l0 x5_1).f5)) ∧ w'.cell? ⟨(ad422.add ((x5_1).toNat * 11)).block, (ad422.add ((x5_1).toNat * 11)).off + 6, none⟩ = some (.int .i64 ((rd_T27 l0 x5_1).f6)) ∧ w'.cell? ⟨(ad422.add ((x5_1).toNat * 11)).block, (ad422.add ((x5_1).toNat * 11)).off + 7, none⟩ = some (.int .i64 ((rd_T27 l0 x5_1).f7)) ∧ w'.cell? ⟨(ad422.add ((x5_1).toNat * 11)).block, (ad422.add ((x5_1).toNat * 11)).off + 8, none⟩ = some (.slice A422_8 ((rd_T27 l0 x5_1).f8).length c422_8) ∧ w'.cell? ⟨(ad422.add ((x5_1).toNat * 11)).block, (ad422.add ((x5_1).toNat * 11)).off + 9, none⟩ = some (.slice A422_9 ((rd_T27 l0 x5_1).f9).length c422_9) ∧ w'.cell? ⟨(ad422.add ((x5_1).toNat * 11)).block, (ad422.add ((x5_1).toNat * 11)).off + 10, none⟩ = some (.slice A422_10 ((rd_T27 l0 x5_1).f10).length c422_10) ∧ w'.cell? (ad423.add ((x5_1).toNat * 11)) = some (.int .u64 ((rd_T27 l1 x5_1).f0)) ∧ w'.cell? ⟨(ad423.add ((x5_1).toNat * 11)).block, (ad423.add ((x5_1).toNat * 11)).off + 1, none⟩ = some (.int .u64 ((rd_T27 l1 x5_1).f1)) ∧ w'.cell? ⟨(ad423.add ((x5_1).toNat * 11)).block, (ad423.add ((x5_1).toNat * 11)).off + 2, none⟩ = some (.int .u64 ((rd_T27 l1 x5_1).f2)) ∧ w'.cell? ⟨(ad423.add ((x5_1).toNat * 11)).block, (ad423.add ((x5_1).toNat * 11)).off + 3, none⟩ = some (.string ((rd_T27 l1 x5_1).f3)) ∧ w'.cell? ⟨(ad423.add ((x5_1).toNat * 11)).block, (ad423.add ((x5_1).toNat * 11)).off + 4, none⟩ = some (.string ((rd_T27 l1 x5_1).f4)) ∧ w'.cell? ⟨(ad423.add ((x5_1).toNat * 11)).block, (ad423.add ((x5_1).toNat * 11)).off + 5, none⟩ = some (.int .i64 ((rd_T27 l1 x5_1).f5)) ∧ w'.cell? ⟨(ad423.add ((x5_1).toNat * 11)).block, (ad423.add ((x5_1).toNat * 11)).off + 6, none⟩ = some (.int .i64 ((rd_T27 l1 x5_1).f6)) ∧ w'.cell? ⟨(ad423.add ((x5_1).toNat * 11)).block, (ad423.add ((x5_1).toNat * 11)).off + 7, none⟩ = some (.int .i64 ((rd_T27 l1 x5_1).f7)) ∧ w'.cell? ⟨(ad423.add ((x5_1).toNat * 11)).block, (ad423.add ((x5_1).toNat * 11)).off + 8, none⟩ = some (.slice A423_8 ((rd_T27 l1 x5_1).f8).length c423_8) ∧ w'.cell? ⟨(ad423.add ((x5_1).toNat * 11)).block, (ad423.add ((x5_1).toNat * 11)).off + 9, none⟩ = some (.slice A423_9 ((rd_T27 l1 x5_1).f9).length c423_9) ∧ w'.cell? ⟨(ad423.add ((x5_1).toNat * 11)).block, (ad423.add ((x5_1).toNat * 11)).off + 10, none⟩ = some (.slice A423_10 ((rd_T27 l1 x5_1).f10).length c423_10)) (ds := []) #[false, false, false, false, false, false, false, false, false, false] (by kernel_rfl) rfl rfl ⟨(q18h HB.out hw422_0:), (q18h HB.out hw422_1:), (q18h HB.out hw422_2:), (q18h HB.out hw422_3:), (q18h HB.out hw422_4:), (q18h HB.out hw422_5:), (q18h HB.out hw422_6:), (q18h HB.out hw422_7:), (q18h HB.out hw422_8:), (q18h HB.out hw422_9:), (q18h HB.out hw422_10:), (q18h HB.out hw423_0:), (q18h HB.out hw423_1:), (q18h HB.out hw423_2:), (q18h HB.out hw423_3:), (q18h HB.out hw423_4:), (q18h HB.out hw423_5:), (q18h HB.out hw423_6:), (q18h HB.out hw423_7:), (q18h HB.out hw423_8:), (q18h HB.out hw423_9:), (q18h HB.out hw423_10:)⟩ (fun hHeld => ?_); refine with_tabW cambiumref16_Spans.tab6 cambiumref16_Spans.bits6 (fun HT_ HW_ => ?_)
   generalize wr.drew = w9 at HB HR422_10 HR422_8 HR422_9 HR423_10 HR423_8 HR423_9 hx422_0 hx422_1 hx422_10 hx422_2 hx422_3 hx422_4 hx422_5 hx422_6 hx422_7 hx422_8 hx422_9 hx423_0 hx423_1 hx423_10 hx423_2 hx423_3 hx423_4 hx423_5 hx423_6 hx423_7 hx423_8 hx423_9 hHeld ⊢
   refine q18p (i := 0) (N := some 17) (q18m 10 1) HT_.out ?_
   refine q18p (i := 1) (N := some 18) (q18m 10 3) HT_.out ?_
   refine q18p (i := 2) (N := some 19) (q18m 10 7) HT_.out ?_
   refine q18p (i := 4) (N := some 21) (q18m 10 23) HT_.out ?_
   refine q18p (i := 5) (N := some 22) (q18m 10 55) HT_.out ?_
   refine q18p (i := 6) (N := some 23) (q18m 10 119) HT_.out ?_
   refine take_ (i := 3) (N := some 20) (v := ?_) (a' := ?_) (q18m 10 127) rfl rfl (take_ofW HT_.out HW_.out (by kernel_rfl)) (fun _ _ _ h => h) (Or.inl ⟨by rfl, ?_⟩) hHeld ?_ ?_; rotate_left; (rintro w' ⟨s0, s1, s2, s3, s4, s5, s6, s7, s8, s9, s10, s11, s12, s13, s14, s15, s16, s17, s18, s19, s20, s21⟩; go_simp; with_reducible rfl); rotate_left; (simp only [Act.put, q18a, q18b, q18c, i64_w, i32_w]; rfl)
   refine take_ (i := 7) (N := some 24) (v := ?_) (a' := ?_) (q18m 10 255) rfl rfl (take_ofW HT_.out HW_.out (by kernel_rfl)) (fun _ _ _ h => h) (Or.inl ⟨by rfl, ?_⟩) hHeld ?_ ?_; rotate_left; (rintro w' ⟨s0, s1, s2, s3, s4, s5, s6, s7, s8, s9, s10, s11, s12, s13, s14, s15, s16, s17, s18, s19, s20, s21⟩; go_simp; with_reducible rfl); rotate_left; (simp only [Act.put, q18a, q18b, q18c, i64_w, i32_w]; rfl)
   refine one_ (i := 8) (N := some 25) (q18m 10 511) rfl rfl (one_of HT_.out (by kernel_rfl)) (by decide) (fun K hK => ?_)
   refine goes_ Tryd.func15 (by kernel_rfl) rfl #[.agg #[.int .u64 ((rd_T27 l0 x5_1).f0), .int .u64 ((rd_T27 l0 x5_1).f1), .int .u64 ((rd_T27 l0 x5_1).f2), .string ((rd_T27 l0 x5_1).f3), .string ((rd_T27 l0 x5_1).f4), .int .i64 ((rd_T27 l0 x5_1).f5), .int .i64 ((rd_T27 l0 x5_1).f6), .int .i64 ((rd_T27 l0 x5_1).f7), .slice A422_8 ((rd_T27 l0 x5_1).f8).length c422_8, .slice A422_9 ((rd_T27 l0 x5_1).f9).length c422_9, .slice A422_10 ((rd_T27 l0 x5_1).f10).length c422_10], .agg #[.int .u64 ((rd_T27 l1 x5_1).f0), .int .u64 ((rd_T27 l1 x5_1).f1), .int .u64 ((rd_T27 l1 x5_1).f2), .string ((rd_T27 l1 x5_1).f3), .string ((rd_T27 l1 x5_1).f4), .int .i64 ((rd_T27 l1 x5_1).f5), .int .i64 ((rd_T27 l1 x5_1).f6), .int .i64 ((rd_T27 l1 x5_1).f7), .slice A423_8 ((rd_T27 l1 x5_1).f8).length c423_8, .slice A423_9 ((rd_T27 l1 x5_1).f9).length c423_9, .slice A423_10 ((rd_T27 l1 x5_1).f10).length c423_10]] (by rfl) rfl rfl (by (try simp only [List.map_toArray, List.map_cons, List.map_nil]); first | done | rfl | (simp only [List.length_drop, List.length_take]; rfl)) ?_
   with_reducible refine (cambiumref16_Same.calls k1 ((rd_T27 l0 x5_1).f0) ((rd_T27 l0 x5_1).f1) ((rd_T27 l0 x5_1).f2) ((rd_T27 l0 x5_1).f3) ((rd_T27 l0 x5_1).f4) ((rd_T27 l0 x5_1).f5) ((rd_T27 l0 x5_1).f6) ((rd_T27 l0 x5_1).f7) _ _ ((rd_T27 l0 x5_1).f8) _ _ ((rd_T27 l0 x5_1).f9) _ _ ((rd_T27 l0 x5_1).f10) ((rd_T27 l1 x5_1).f0) ((rd_T27 l1 x5_1).f1) ((rd_T27 l1 x5_1).f2) ((rd_T27 l1 x5_1).f3) ((rd_T27 l1 x5_1).f4) ((rd_T27 l1 x5_1).f5) ((rd_T27 l1 x5_1).f6) ((rd_T27 l1 x5_1).f7) _ _ ((rd_T27 l1 x5_1).f8) _ _ ((rd_T27 l1 x5_1).f9) _ _ ((rd_T27 l1 x5_1).f10) true _ ?side1 ?side2 ?side3 ?side4 ?side5 ?side6 ?side7 ?side8 ?side9 ?side10 ?side11 ?side12 A7.out).mono ?_
   (case side1 => repeat (first | exact (Kd.C_below HR422_8.out HB.out) | (with_reducible refine Kd.C_alloc ?_ _) | (with_reducible refine Kd.C_drewN ?_ _) | (with_reducible refine Kd.C_drew ?_)))
   (case side2 => exact HC422_8.out)
   (case side3 => repeat (first | exact (Kd.C_below HR422_9.out HB.out) | (with_reducible refine Kd.C_alloc ?_ _) | (with_reducible refine Kd.C_drewN ?_ _) | (with_reducible refine Kd.C_drew ?_)))
   (case side4 => exact HC422_9.out)
   (case side5 => repeat (first | exact (Kd.C_below HR422_10.out HB.out) | (with_reducible refine Kd.C_alloc ?_ _) | (with_reducible refine Kd.C_drewN ?_ _) | (with_reducible refine Kd.C_drew ?_)))
   (case side6 => exact HC422_10.out)
   (case side7 => repeat (first | exact (Kd.C_below HR423_8.out HB.out) | (with_reducible refine Kd.C_alloc ?_ _) | (with_reducible refine Kd.C_drewN ?_ _) | (with_reducible refine Kd.C_drew ?_)))
   (case side8 => exact HC423_8.out)
   (case side9 => repeat (first | exact (Kd.C_below HR423_9.out HB.out) | (with_reducible refine Kd.C_alloc ?_ _) | (with_reducible refine Kd.C_drewN ?_ _) | (with_reducible refine Kd.C_drew ?_)))
   (case side10 => exact HC423_9.out)
   (case side11 => repeat (first | exact (Kd.C_below HR423_10.out HB.out) | (with_reducible refine Kd.C_alloc ?_ _) | (with_reducible refine Kd.C_drewN ?_ _) | (with_reducible refine Kd.C_drew ?_)))
   (case side12 => exact HC423_10.out)
   rintro e w10 ⟨rfl, hb⟩
   refine ⟨_, rfl, ?_⟩
   replace HB := Aside0.mk (below_step (by repeat (first | (with_reducible first | exact HB.out | apply below_alloc | apply pw_below_drewN | apply below_drew1) | exact HB.out)) hb)
   (try clear hb)
   (try clear hb2)
   (try clear hk)
   (try clear hi)
   refine hK.out _ _ ⟨(q18h HB.out hw422_0:), (q18h HB.out hw422_1:), (q18h HB.out hw422_2:), (q18h HB.out hw422_3:), (q18h HB.out hw422_4:), (q18h HB.out hw422_5:), (q18h HB.out hw422_6:), (q18h HB.out hw422_7:), (q18h HB.out hw422_8:), (q18h HB.out hw422_9:), (q18h HB.out hw422_10:), (q18h HB.out hw423_0:), (q18h HB.out hw423_1:), (q18h HB.out hw423_2:), (q18h HB.out hw423_3:), (q18h HB.out hw423_4:), (q18h HB.out hw423_5:), (q18h HB.out hw423_6:), (q18h HB.out hw423_7:), (q18h HB.out hw423_8:), (q18h HB.out hw423_9:), (q18h HB.out hw423_10:)⟩ (fun hHeld => ?_)
   clear hK K
   refine norm_ (a' := ?_) ?_ ?_
   rotate_left
   ·show Act.put _ (some 25) _ = _
    simp only [Act.put, q18a, q18b, q18c, i64_w, i32_w]
    rfl
   refine q18p (i := 9) (N := some 26) (q18m 10 1023) HT_.out ?_
   refine done_ (done_of HT_.out (by kernel_rfl)) ?_
   try go_wp2
   go_roundg k1
   case measure => have := HK1.out; omega
   case rel => exact ⟨(wrap64 (x5_1 + 1)), (by first | rfl | (simp; done) | (simp [*]; done)), H', ⟨by have := HK1.out; omega⟩, ⟨by repeat (first | (with_reducible first | exact HB.out | apply below_alloc | apply pw_below_drewN | apply below_drew1) | exact HB.out)⟩⟩
-- NOT PRINTED: function 4 (cambiumlaw17_WireReads)

end Go.Proofs.YtkgpnfjmahjlcaaDoor.PAll
