-- Written by a program: the kit's print.py, driven for several laws at once. Not trusted: Lean checks it.
import Derived.Test.YtkgpnfjmahjlcaaDoorPAllx0
import Derived.Test.YtkgpnfjmahjlcaaDoorPAllx4
import Derived.Test.YtkgpnfjmahjlcaaDoorWiCut
import Derived.Test.YtkgpnfjmahjlcaaDoorWiJoin
namespace Go.Proofs.YtkgpnfjmahjlcaaDoor.PAll
open Go.Proofs.YtkgpnfjmahjlcaaDoor.Text
open Go.RowKit Go.Proofs.YtkgpnfjmahjlcaaDoorW.PrintWords Go.Proofs.YtkgpnfjmahjlcaaDoorW.PrintLast Go.Proofs.YtkgpnfjmahjlcaaDoorW.PrintMore
attribute [local go_sem] max2_int min2_int max_two min_two max_three min_three max_four min_four   -- for this text's walks alone
set_option linter.unusedVariables false
set_option linter.unusedSimpArgs false

/-! ### span_mayAttrs: function 58 -/
theorem q5cb5 {w : World} {g : Nat} {t : TypeId} {x0 x1 x2 x3 x4 : Value} (h : w.heap[g]? = some (.cells #[x0, x1, x2, x3, x4] t (0, 0))) : w.cell? ⟨g, 0, none⟩ = some x0 ∧ w.cell? ⟨g, 1, none⟩ = some x1 ∧ w.cell? ⟨g, 2, none⟩ = some x2 ∧ w.cell? ⟨g, 3, none⟩ = some x3 ∧ w.cell? ⟨g, 4, none⟩ = some x4 ∧ w.frozen? ⟨g, 0, none⟩ = false ∧ w.frozen? ⟨g, 1, none⟩ = false ∧ w.frozen? ⟨g, 2, none⟩ = false ∧ w.frozen? ⟨g, 3, none⟩ = false ∧ w.frozen? ⟨g, 4, none⟩ = false :=
  ⟨(blk_cell h 0).trans rfl, (blk_cell h 1).trans rfl, (blk_cell h 2).trans rfl, (blk_cell h 3).trans rfl, (blk_cell h 4).trans rfl, blk_frozen h 0, blk_frozen h 1, blk_frozen h 2, blk_frozen h 3, blk_frozen h 4⟩
def q5m (n m : Nat) : Array Bool := ((List.range n).map (Nat.testBit m)).toArray
theorem q5a {α : Type} (xs : List α) (i : Nat) (x : α) : xs.toArray.setIfInBounds i x = (xs.set i x).toArray := List.setIfInBounds_toArray ..
theorem q5b {α : Type} (x y : α) (xs : List α) : (x :: xs).set 0 y = y :: xs := List.set_cons_zero ..
theorem q5c {α : Type} (x y : α) (xs : List α) (n : Nat) : (x :: xs).set (n + 1) y = x :: xs.set n y := List.set_cons_succ ..
theorem q5h {w w' : World} {p : Addr} {v : Value} (h : Below w.heap.size w w') (x : w.cell? p = some v) : w'.cell? p = some v := (h.cell (World.block_lt_of_cell? w _ x)).trans x
theorem q5p {P : Program} {md : Region.Mode} {ops : Array Oper} {Q : Exit → Act → World → Prop} {S : World → Prop} {ds : List Nat} {T : Bool × List (List Nat × List Nat)} {i : Nat} {N : Option Tmp} {oi : Oper} {v : Value} {fuel : Nat} {l : Array Bool} {a : Act} {w : World} (l' : Array Bool) (hT : rtab md ops = T) {a' : Act}
    (h : wpAnyLast P md ops Q S ds fuel l' a' w) (hi : ops[i]? = some oi := by rfl) (hN : oi.dst = N := by rfl) (hc : anyT T l.toList l'.toList i = true := by kernel_rfl) (hQ : ∀ c a w, Q (.panic c) (a.put oi.dst v) w → Q (.panic c) a w := by exact fun _ _ _ h => h)
    (hw : Region.wanted oi (yielded ops a.tmps) = true := by rfl) (hy : ∀ w', (execOp a.eval oi).run P w' = .ok (.value v) w' := by intro w'; go_simp; with_reducible rfl) (ha : a.put N v = a' := by simp only [Act.put, q5a, q5b, q5c, i64_w, i32_w]; rfl) :
    wpAnyLast P md ops Q S ds (fuel + 1) l a w := pure_ l' hi hN (any_of hT hc) hQ (Or.inl ⟨hw, hy⟩) ha h
theorem q5u {P : Program} {md : Region.Mode} {ops : Array Oper} {Q : Exit → Act → World → Prop} {S : World → Prop} {ds : List Nat} {T : Bool × List (List Nat × List Nat)} {i : Nat} {N : Option Tmp} {oi : Oper} {fuel : Nat} {l : Array Bool} {a : Act} {w : World} (l' : Array Bool) (hT : rtab md ops = T) {a' : Act}
    (h : wpAnyLast P md ops Q S ds fuel l' a' w) (hi : ops[i]? = some oi := by rfl) (hN : oi.dst = N := by rfl) (hc : anyT T l.toList l'.toList i = true := by kernel_rfl) (hQ : ∀ c a w, Q (.panic c) (a.put oi.dst undef) w → Q (.panic c) a w := by exact fun _ _ _ h => h)
    (hw : Region.wanted oi (yielded ops a.tmps) = false := by rfl) (ha : a.put N undef = a' := by simp only [Act.put, q5a, q5b, q5c, i64_w, i32_w]; rfl) :
    wpAnyLast P md ops Q S ds (fuel + 1) l a w := pure_ l' hi hN (any_of hT hc) hQ (Or.inr ⟨hw, rfl⟩) ha h
theorem q5k {w : World} {g : Nat} {cs : Array Value} {t : TypeId} (h : w.heap[g]? = some (.cells cs t (0, 0))) (i : Nat) {v : Value} (e : cs[i]? = some v := by rfl) : w.cell? ⟨g, i, none⟩ = some v := (blk_cell h i).trans e
theorem q5y0 {P : Prop} (h : P := by first | (with_reducible exact HTab_.out) | (with_reducible exact tabs_below HTab_.out HB.out) | exact tabs_below HTab_.out (by repeat (first | (with_reducible first | exact HB.out | apply below_alloc | apply pw_below_drewN | apply below_drew1 | refine below_set ?_ (Aside0.out (by assumption))) | exact HB.out))) : P := h
theorem q5y1 {P : Prop} (h : P := by repeat (first | (with_reducible first | exact HB.out | apply below_alloc | apply pw_below_drewN | apply below_drew1) | exact HB.out)) : P := h
theorem q5y2 {P : Prop} (h : P := by repeat (first | (with_reducible first | exact HB.out | apply below_alloc | apply pw_below_drewN | apply below_drew1 | refine below_set ?_ GE103.out) | exact HB.out)) : P := h
theorem q5y3 {P : Prop} (h : P := by (try simp only [List.map_toArray, List.map_cons, List.map_nil]); first | done | rfl | (simp only [List.length_drop, List.length_take]; rfl)) : P := h
theorem q5y4 {P : Prop} (h : P := by (with_reducible repeat (first | refine blk_drewN ?_ _ | refine blk_drew ?_ | refine blk_alloc ?_ _)); exact BK103.out) : P := h
theorem q5y5 {P : Prop} (h : P := by first | (with_reducible assumption) | assumption) : P := h

def span_mayAttrs.l0 : Nat → List (S53) → List (S53) → Int → Int → Option (Bool)
 | 0, _, _, _, _ => none
 | k + 1, x0, x5, x6, x7 => if x7 < x6 then (if 0 ≤ x7 then (if x7 < (x5.length : Int) then ((span_mayName.f ((rd_T53 x5 x7).f0)).bind fun t104 => (if t104 = true then ((span_MayValue.f ((rd_T53 x5 x7).f1.f0) ((rd_T53 x5 x7).f1.f1) ((rd_T53 x5 x7).f1.f2) ((rd_T53 x5 x7).f1.f3)).bind fun t105 => (if t105 = true then (if x7 > 0 then (if 0 ≤ (wrap64 (x7 - 1)) then (if (wrap64 (x7 - 1)) < (x0.length : Int) then (if ((Op.bytesLess (((rd_T53 x0 (wrap64 (x7 - 1))).f0).toList) (((rd_T53 x5 x7).f0).toList)) = true) then (span_mayAttrs.l0 k x0 x5 x6 (wrap64 (x7 + 1))) else (some false)) else (none)) else (none)) else (span_mayAttrs.l0 k x0 x5 x6 (wrap64 (x7 + 1)))) else (some false))) else (some false))) else (none)) else (none)) else (some (decide ((x0.length : Int) ≤ 16)))
def span_mayAttrs.f (k : Nat) (l0 : List (S53)) : Option (Bool) := span_mayAttrs.l0 k l0 l0 (l0.length : Int) 0
theorem span_mayAttrs.mono_l : ∀ k, (∀ y0 y1 y2 y3, LeO (span_mayAttrs.l0 k y0 y1 y2 y3) (span_mayAttrs.l0 (k + 1) y0 y1 y2 y3))
 | 0 => fun _ _ _ _ r h => by simp [span_mayAttrs.l0] at h
 | k + 1 => by
  have ih0 := span_mayAttrs.mono_l k
  ·intro y0 y1 y2 y3
   unfold span_mayAttrs.l0
   repeat' first
   | (with_reducible exact ih0 _ _ _ _)
   | (with_reducible exact LeO.refl _)
   | (with_reducible exact LeO.none _)
   | (with_reducible refine LeO.ite ?_ ?_)
   | (with_reducible refine LeO.bind ?_ (fun _ => ?_))
   | exact ih0 _ _ _ _
   | exact LeO.none _
   | refine LeO.ite ?_ ?_
   | refine LeO.bind ?_ (fun _ => ?_)
theorem span_mayAttrs.mono : ∀ a0 k, LeO (span_mayAttrs.f k a0) (span_mayAttrs.f (k + 1) a0) := by
 intro a0 k
 have ih0 := span_mayAttrs.mono_l k
 unfold span_mayAttrs.f
 repeat' first
   | (with_reducible exact ih0 _ _ _ _)
   | (with_reducible exact LeO.refl _)
   | (with_reducible exact LeO.none _)
   | (with_reducible refine LeO.ite ?_ ?_)
   | (with_reducible refine LeO.bind ?_ (fun _ => ?_))
   | exact ih0 _ _ _ _
   | exact LeO.none _
   | refine LeO.ite ?_ ?_
   | refine LeO.bind ?_ (fun _ => ?_)
def span_mayAttrs.T4 : Bool × List (List Nat × List Nat) := (true, [([], []), ([0], [0]), ([1], [1]), ([2], [2]), ([3, 2], [3]), ([4], [4]), ([5, 4], [4, 5]), ([6, 4, 4], [4, 6]), ([7, 4], [4, 7]), ([4, 8], [4, 8]), ([9, 7], [9]), ([10], [10]), ([11, 10], [10, 11]), ([12, 10, 10], [10, 12]), ([13], [13]), ([13], [13]), ([15, 13], [13, 15]), ([14, 16, 13], [13, 14, 16]), ([17, 13], [13, 17]), ([18, 13], [13, 18]), ([13], [13]), ([20, 13], [13, 20]), ([19, 21, 13], [13, 19, 21]), ([13, 22, 10], [10, 13, 22]), ([10, 23], [10, 23])])
def span_mayAttrs.B4 : List Nat := [0, 1, 3, 7, 15, 31, 63, 127, 255, 511, 1023, 2047, 4095, 8191, 16383, 16383, 49151, 131071, 262143, 524287, 16383, 1064959, 4194303, 8388607, 16777215]
theorem span_mayAttrs.tab4 : rtab .any (opsOf Tryd.f58 4) = span_mayAttrs.T4 := by kernel_rfl
theorem span_mayAttrs.bits4 : waitsOk span_mayAttrs.T4.2 span_mayAttrs.B4 = true := by kernel_rfl
set_option maxHeartbeats 8000000 in
set_option maxRecDepth 100000 in
theorem span_mayAttrs.calls (k : Nat) (A0 : Option Addr) (c0 : Nat) (l0 : List (S53)) (r : Bool) (w : World) (hr0 : Kd.C k53 w A0 l0.length l0) (hc0 : l0.length ≤ c0) (h : span_mayAttrs.f k l0 = some r) (hT_ : Tabs w) :
  Calls Tryd.prog 58 #[.slice A0 l0.length c0] w fun e w' => e = .returned (.bool r) ∧ Below w.heap.size w w' := by
 have HTab_ := Aside0.mk hT_
 clear hT_
 have hu53 := Tryd.underlying53
 have hu51 := Tryd.underlying51
 have HR0 := Aside0.mk hr0
 have HC0 := Aside0.mk hc0
 clear hr0 hc0
 have HB := Aside0.mk (Below.refl w.heap.size w)
 have H : (span_mayAttrs.l0 k l0 l0 (l0.length : Int) 0) = some r := h
 clear h
 have H' := Aside0.mk H
 clear H
 go_enter Tryd.func58, Tryd.ntmps58
 go_wp2
 go_loopg [7] k (fun kq v7 w' => ∃ (x7_1 : Int), v7 = .int .i64 x7_1 ∧ Aside0 (span_mayAttrs.l0 kq l0 l0 (l0.length : Int) x7_1 = some r) ∧ Aside0 (kq ≤ k) ∧ Aside0 (Below w.heap.size w w'))
 case atStart => exact ⟨(0), (by first | rfl | (simp; done) | (simp [*]; done)), H', ⟨Nat.le_refl _⟩, ⟨by repeat (first | (with_reducible first | exact HB.out | apply below_alloc | apply pw_below_drewN | apply below_drew1) | exact HB.out)⟩⟩
 case round =>
  clear H'
  obtain ⟨x7_1, rfl, HA, HK1, HB⟩ := hrel
  cases gk with
  | zero => exact absurd HA.out (by simp [span_mayAttrs.l0])
  | succ k1 =>
   have H := HA.out
   clear HA
   simp only [span_mayAttrs.l0] at H
   by_cases c2 : x7_1 < (l0.length : Int)
   rotate_left
   ·rw [if_neg c2] at H
    have c2b0 : decide (x7_1 < (l0.length : Int)) = false := decide_eq_false c2
    clear c2
    obtain rfl := Option.some.inj H
    go_wp2
    go_ret
    exact ⟨by first | rfl | (simp [errW_none, errW_some] <;> rfl) | (simp [*, errW_none, errW_some] <;> rfl), by repeat (first | (with_reducible first | exact HB.out | apply below_alloc | apply pw_below_drewN | apply below_drew1) | exact HB.out)⟩

   rw [if_pos c2] at H
   have c2b0 : decide (x7_1 < (l0.length : Int)) = true := decide_eq_true c2
   clear c2
   by_cases c3 : 0 ≤ x7_1
   rotate_left
   ·rw [if_neg c3] at H
    exact absurd H (by simp)
   rw [if_pos c3] at H
   have c3b0 : decide (0 ≤ x7_1) = true := decide_eq_true c3
   clear c3
   by_cases c4 : x7_1 < (l0.length : Int)
   rotate_left
   ·rw [if_neg c4] at H
    exact absurd H (by simp)
   rw [if_pos c4] at H
   have c4b0 : decide (x7_1 < (l0.length : Int)) = true := decide_eq_true c4
   clear c4
   replace H := Option.bind_eq_some_iff.mp H
   obtain ⟨t104, A50, H⟩ := H
   replace H : (if t104 = true then ((span_MayValue.f ((rd_T53 l0 x7_1).f1.f0) ((rd_T53 l0 x7_1).f1.f1) ((rd_T53 l0 x7_1).f1.f2) ((rd_T53 l0 x7_1).f1.f3)).bind fun t105 => (if t105 = true then (if x7_1 > 0 then (if 0 ≤ (wrap64 (x7_1 - 1)) then (if (wrap64 (x7_1 - 1)) < (l0.length : Int) then (if ((Op.bytesLess (((rd_T53 l0 (wrap64 (x7_1 - 1))).f0).toList) (((rd_T53 l0 x7_1).f0).toList)) = true) then (span_mayAttrs.l0 k1 l0 l0 (l0.length : Int) (wrap64 (x7_1 + 1))) else (some false)) else (none)) else (none)) else (span_mayAttrs.l0 k1 l0 l0 (l0.length : Int) (wrap64 (x7_1 + 1)))) else (some false))) else (some false)) = some r := H
   have A5 := Aside0.mk A50
   clear A50
   by_cases c6 : t104 = true
   rotate_left
   ·replace c6 := Bool.eq_false_iff.mpr c6
    subst c6
    have H1 : (some false) = some r := by rw [if_neg (show ¬ (false = true) by decide)] at H; exact H
    clear H
    have H := H1
    clear H1
    obtain rfl := Option.some.inj H
    have p102 : 0 ≤ (x7_1 : Int) := of_decide_eq_true q5y5
    have q102 : x7_1 < (l0.length : Int) := of_decide_eq_true q5y5
    obtain ⟨ad102, e102, hx102_0, hx102_1, hx102_2, hx102_3, hx102_4⟩ := at_T53 HR0.out x7_1 p102 q102
    cases e102
    replace hx102_0 := (HB.out.cell (World.block_lt_of_cell? w _ hx102_0)).trans hx102_0
    replace hx102_1 := (HB.out.cell (World.block_lt_of_cell? w _ hx102_1)).trans hx102_1
    replace hx102_2 := (HB.out.cell (World.block_lt_of_cell? w _ hx102_2)).trans hx102_2
    replace hx102_3 := (HB.out.cell (World.block_lt_of_cell? w _ hx102_3)).trans hx102_3
    replace hx102_4 := (HB.out.cell (World.block_lt_of_cell? w _ hx102_4)).trans hx102_4
    replace p102 := eq_true p102
    replace q102 := eq_true q102
    try go_wp2_with (first | ((with_reducible refine gate_dst (N := 4) rfl ?_); refine box_event ?hg (N := 4) ?hd (cs := #[.string (⟨#[]⟩ : ByteArray), .int .i64 0, .string (⟨#[]⟩ : ByteArray), .int .i64 0, .bool false]) (t := 53) ?hr ?_; (case hd => rfl); (case hg => rfl); (case hr => first | (go_simp; done) | (go_simp; rfl)); intro gb103 hg w38 hbox hb; have BK103 := Aside0.mk (hbox); have GW103 := Aside0.mk ((by rw [hg]; exact (below_size q5y1) : w.heap.size ≤ gb103)); have GE103 := GW103; replace HB := Aside0.mk (below_step q5y1 hb); clear hb hbox hg; obtain ⟨hcz39_0, hcz39_1, hcz39_2, hcz39_3, hcz39_4, hfz39_0, hfz39_1, hfz39_2, hfz39_3, hfz39_4⟩ := q5cb5 BK103.out))
    have n0_ : Aside0 ((((((w38.setCell ⟨gb103, 0, none⟩ (.string ((rd_T53 l0 x7_1).f0))).setCell ⟨gb103, 1, none⟩ (.int .i64 ((rd_T53 l0 x7_1).f1.f0))).setCell ⟨gb103, 2, none⟩ (.string ((rd_T53 l0 x7_1).f1.f1))).setCell ⟨gb103, 3, none⟩ (.int .i64 ((rd_T53 l0 x7_1).f1.f2))).setCell ⟨gb103, 4, none⟩ (.bool ((rd_T53 l0 x7_1).f1.f3))).heap[gb103]? = some (.cells #[.string ((rd_T53 l0 x7_1).f0), .int .i64 ((rd_T53 l0 x7_1).f1.f0), .string ((rd_T53 l0 x7_1).f1.f1), .int .i64 ((rd_T53 l0 x7_1).f1.f2), .bool ((rd_T53 l0 x7_1).f1.f3)] 53 (0, 0))) := ⟨by (with_reducible repeat (first | refine blk_drewN ?_ _ | refine blk_drew ?_ | refine blk_alloc ?_ _)); refine blk_put (cs := #[.string ((rd_T53 l0 x7_1).f0), .int .i64 ((rd_T53 l0 x7_1).f1.f0), .string ((rd_T53 l0 x7_1).f1.f1), .int .i64 ((rd_T53 l0 x7_1).f1.f2), .bool false]) ?_ 4 _ rfl; (with_reducible repeat (first | refine blk_drewN ?_ _ | refine blk_drew ?_ | refine blk_alloc ?_ _)); refine blk_put (cs := #[.string ((rd_T53 l0 x7_1).f0), .int .i64 ((rd_T53 l0 x7_1).f1.f0), .string ((rd_T53 l0 x7_1).f1.f1), .int .i64 0, .bool false]) ?_ 3 _ rfl; (with_reducible repeat (first | refine blk_drewN ?_ _ | refine blk_drew ?_ | refine blk_alloc ?_ _)); refine blk_put (cs := #[.string ((rd_T53 l0 x7_1).f0), .int .i64 ((rd_T53 l0 x7_1).f1.f0), .string (⟨#[]⟩ : ByteArray), .int .i64 0, .bool false]) ?_ 2 _ rfl; (with_reducible repeat (first | refine blk_drewN ?_ _ | refine blk_drew ?_ | refine blk_alloc ?_ _)); refine blk_put (cs := #[.string ((rd_T53 l0 x7_1).f0), .int .i64 0, .string (⟨#[]⟩ : ByteArray), .int .i64 0, .bool false]) ?_ 1 _ rfl; (with_reducible repeat (first | refine blk_drewN ?_ _ | refine blk_drew ?_ | refine blk_alloc ?_ _)); refine blk_put (cs := #[.string (⟨#[]⟩ : ByteArray), .int .i64 0, .string (⟨#[]⟩ : ByteArray), .int .i64 0, .bool false]) ?_ 0 _ rfl; (with_reducible repeat (first | refine blk_drewN ?_ _ | refine blk_drew ?_ | refine blk_alloc ?_ _)); exact BK103.out⟩
    have n1_ : Aside0 (Below w.heap.size w (((((w38.setCell ⟨gb103, 0, none⟩ (.string ((rd_T53 l0 x7_1).f0))).setCell ⟨gb103, 1, none⟩ (.int .i64 ((rd_T53 l0 x7_1).f1.f0))).setCell ⟨gb103, 2, none⟩ (.string ((rd_T53 l0 x7_1).f1.f1))).setCell ⟨gb103, 3, none⟩ (.int .i64 ((rd_T53 l0 x7_1).f1.f2))).setCell ⟨gb103, 4, none⟩ (.bool ((rd_T53 l0 x7_1).f1.f3)))) := ⟨by repeat (first | (with_reducible first | exact HB.out | apply below_alloc | apply pw_below_drewN | apply below_drew1 | refine below_set ?_ GE103.out) | exact HB.out)⟩
    (try clear BK103)
    (try clear HB)
    generalize (((((w38.setCell ⟨gb103, 0, none⟩ (.string ((rd_T53 l0 x7_1).f0))).setCell ⟨gb103, 1, none⟩ (.int .i64 ((rd_T53 l0 x7_1).f1.f0))).setCell ⟨gb103, 2, none⟩ (.string ((rd_T53 l0 x7_1).f1.f1))).setCell ⟨gb103, 3, none⟩ (.int .i64 ((rd_T53 l0 x7_1).f1.f2))).setCell ⟨gb103, 4, none⟩ (.bool ((rd_T53 l0 x7_1).f1.f3))) = w40 at n0_ n1_ ⊢
    have BK103 := n0_
    have HB := n1_
    clear n0_ n1_
    replace BK103 := Aside0.mk (blk_drew BK103.out)
    replace HB := Aside0.mk (below_drew1 HB.out)
    as_aux_lemma =>
     refine start_ (n := 25) (S := fun w' => w'.cell? ⟨gb103, 0, none⟩ = some (.string ((rd_T53 l0 x7_1).f0)) ∧ w'.cell? ⟨gb103, 1, none⟩ = some (.int .i64 ((rd_T53 l0 x7_1).f1.f0)) ∧ w'.cell? ⟨gb103, 2, none⟩ = some (.string ((rd_T53 l0 x7_1).f1.f1)) ∧ w'.cell? ⟨gb103, 3, none⟩ = some (.int .i64 ((rd_T53 l0 x7_1).f1.f2)) ∧ w'.cell? ⟨gb103, 4, none⟩ = some (.bool ((rd_T53 l0 x7_1).f1.f3))) (ds := []) #[false, false, false, false, false, false, false, false, false, false, false, false, false, false, false, false, false, false, false, false, false, false, false, false, false] (by kernel_rfl) rfl rfl ⟨q5k BK103.out 0, q5k BK103.out 1, q5k BK103.out 2, q5k BK103.out 3, q5k BK103.out 4⟩ (fun hHeld => ?_); refine with_tabW span_mayAttrs.tab4 span_mayAttrs.bits4 (fun HT_ HW_ => ?_)
     generalize w40.drew = w41 at BK103 HB hHeld ⊢
     refine q5p (i := 0) (N := some 12) (q5m 25 1) HT_.out ?_
     refine take_ (i := 1) (N := some 13) (v := ?_) (a' := ?_) (q5m 25 3) rfl rfl (take_ofW HT_.out HW_.out (by kernel_rfl)) (fun _ _ _ h => h) (Or.inl ⟨by rfl, ?_⟩) hHeld ?_ ?_; rotate_left; (rintro w' ⟨s0, s1, s2, s3, s4⟩; go_simp; with_reducible rfl); rotate_left; (simp only [Act.put, q5a, q5b, q5c, i64_w, i32_w]; rfl)
     refine one_ (i := 2) (N := some 14) (q5m 25 7) rfl rfl (one_of HT_.out (by kernel_rfl)) (by decide) (fun K hK => ?_)
     refine goes_ Tryd.func56 (by kernel_rfl) rfl #[.string ((rd_T53 l0 x7_1).f0)] (by rfl) rfl rfl q5y3 ?_
     with_reducible refine (span_mayName.calls ((rd_T53 l0 x7_1).f0) false _ A5.out q5y0).mono ?_
     rintro e w42 ⟨rfl, hb⟩
     refine ⟨_, rfl, ?_⟩
     replace BK103 := Aside0.mk (blk_below q5y4 hb)
     replace HB := Aside0.mk (below_step q5y2 hb)
     (try clear hb)
     (try clear hb2)
     (try clear hk)
     (try clear hi)
     refine hK.out _ _ ⟨q5k BK103.out 0, q5k BK103.out 1, q5k BK103.out 2, q5k BK103.out 3, q5k BK103.out 4⟩ (fun hHeld => ?_)
     clear hK K
     refine norm_ (a' := ?_) ?_ ?_
     rotate_left
     ·show Act.put _ (some 14) _ = _
      simp only [Act.put, q5a, q5b, q5c, i64_w, i32_w]
      rfl
     refine q5p (i := 3) (N := some 15) (q5m 25 15) HT_.out ?_
     refine q5p (i := 4) (N := some 16) (q5m 25 31) HT_.out ?_
     refine q5u (i := 5) (N := some 17) (q5m 25 63) HT_.out ?_
     refine q5u (i := 6) (N := some 18) (q5m 25 127) HT_.out ?_
     refine q5u (i := 7) (N := some 19) (q5m 25 255) HT_.out ?_
     refine q5u (i := 8) (N := some 20) (q5m 25 511) HT_.out ?_
     refine q5p (i := 9) (N := some 21) (q5m 25 1023) HT_.out ?_
     refine q5p (i := 10) (N := some 22) (q5m 25 2047) HT_.out ?_
     refine q5u (i := 11) (N := some 23) (q5m 25 4095) HT_.out ?_
     refine q5u (i := 12) (N := some 24) (q5m 25 8191) HT_.out ?_
     refine q5u (i := 13) (N := some 25) (q5m 25 16383) HT_.out ?_
     refine q5u (i := 14) (N := some 26) (q5m 25 32767) HT_.out ?_
     refine q5u (i := 15) (N := some 27) (q5m 25 65535) HT_.out ?_
     refine q5u (i := 16) (N := some 28) (q5m 25 131071) HT_.out ?_
     refine q5u (i := 17) (N := some 29) (q5m 25 262143) HT_.out ?_
     refine q5u (i := 18) (N := some 30) (q5m 25 524287) HT_.out ?_
     refine q5u (i := 19) (N := some 31) (q5m 25 1048575) HT_.out ?_
     refine q5u (i := 20) (N := some 32) (q5m 25 2097151) HT_.out ?_
     refine q5u (i := 21) (N := some 33) (q5m 25 4194303) HT_.out ?_
     refine q5u (i := 22) (N := some 34) (q5m 25 8388607) HT_.out ?_
     refine q5u (i := 23) (N := some 35) (q5m 25 16777215) HT_.out ?_
     refine q5p (i := 24) (N := some 36) (q5m 25 33554431) HT_.out ?_
     refine done_ (done_of HT_.out (by kernel_rfl)) ?_
     try go_wp2
     go_ret
     exact ⟨by first | rfl | (simp [errW_none, errW_some] <;> rfl) | (simp [*, errW_none, errW_some] <;> rfl), by repeat (first | (with_reducible first | exact HB.out | apply below_alloc | apply pw_below_drewN | apply below_drew1 | refine below_set ?_ GE103.out) | exact HB.out)⟩
   subst c6
   have H1 : ((span_MayValue.f ((rd_T53 l0 x7_1).f1.f0) ((rd_T53 l0 x7_1).f1.f1) ((rd_T53 l0 x7_1).f1.f2) ((rd_T53 l0 x7_1).f1.f3)).bind fun t105 => (if t105 = true then (if x7_1 > 0 then (if 0 ≤ (wrap64 (x7_1 - 1)) then (if (wrap64 (x7_1 - 1)) < (l0.length : Int) then (if ((Op.bytesLess (((rd_T53 l0 (wrap64 (x7_1 - 1))).f0).toList) (((rd_T53 l0 x7_1).f0).toList)) = true) then (span_mayAttrs.l0 k1 l0 l0 (l0.length : Int) (wrap64 (x7_1 + 1))) else (some false)) else (none)) else (none)) else (span_mayAttrs.l0 k1 l0 l0 (l0.length : Int) (wrap64 (x7_1 + 1)))) else (some false))) = some r := by rw [if_pos rfl] at H; exact H
   clear H
   have H := H1
   clear H1
   replace H := Option.bind_eq_some_iff.mp H
   obtain ⟨t105, A70, H⟩ := H
   replace H : (if t105 = true then (if x7_1 > 0 then (if 0 ≤ (wrap64 (x7_1 - 1)) then (if (wrap64 (x7_1 - 1)) < (l0.length : Int) then (if ((Op.bytesLess (((rd_T53 l0 (wrap64 (x7_1 - 1))).f0).toList) (((rd_T53 l0 x7_1).f0).toList)) = true) then (span_mayAttrs.l0 k1 l0 l0 (l0.length : Int) (wrap64 (x7_1 + 1))) else (some false)) else (none)) else (none)) else (span_mayAttrs.l0 k1 l0 l0 (l0.length : Int) (wrap64 (x7_1 + 1)))) else (some false)) = some r := H
   have A7 := Aside0.mk A70
   clear A70
   by_cases c8 : t105 = true
   rotate_left
   ·replace c8 := Bool.eq_false_iff.mpr c8
    subst c8
    have H1 : (some false) = some r := by rw [if_neg (show ¬ (false = true) by decide)] at H; exact H
    clear H
    have H := H1
    clear H1
    obtain rfl := Option.some.inj H
    have p102 : 0 ≤ (x7_1 : Int) := of_decide_eq_true q5y5
    have q102 : x7_1 < (l0.length : Int) := of_decide_eq_true q5y5
    obtain ⟨ad102, e102, hx102_0, hx102_1, hx102_2, hx102_3, hx102_4⟩ := at_T53 HR0.out x7_1 p102 q102
    cases e102
    replace hx102_0 := (HB.out.cell (World.block_lt_of_cell? w _ hx102_0)).trans hx102_0
    replace hx102_1 := (HB.out.cell (World.block_lt_of_cell? w _ hx102_1)).trans hx102_1
    replace hx102_2 := (HB.out.cell (World.block_lt_of_cell? w _ hx102_2)).trans hx102_2
    replace hx102_3 := (HB.out.cell (World.block_lt_of_cell? w _ hx102_3)).trans hx102_3
    replace hx102_4 := (HB.out.cell (World.block_lt_of_cell? w _ hx102_4)).trans hx102_4
    replace p102 := eq_true p102
    replace q102 := eq_true q102
    try go_wp2_with (first | ((with_reducible refine gate_dst (N := 4) rfl ?_); refine box_event ?hg (N := 4) ?hd (cs := #[.string (⟨#[]⟩ : ByteArray), .int .i64 0, .string (⟨#[]⟩ : ByteArray), .int .i64 0, .bool false]) (t := 53) ?hr ?_; (case hd => rfl); (case hg => rfl); (case hr => first | (go_simp; done) | (go_simp; rfl)); intro gb103 hg w32 hbox hb; have BK103 := Aside0.mk (hbox); have GW103 := Aside0.mk ((by rw [hg]; exact (below_size q5y1) : w.heap.size ≤ gb103)); have GE103 := GW103; replace HB := Aside0.mk (below_step q5y1 hb); clear hb hbox hg; obtain ⟨hcz33_0, hcz33_1, hcz33_2, hcz33_3, hcz33_4, hfz33_0, hfz33_1, hfz33_2, hfz33_3, hfz33_4⟩ := q5cb5 BK103.out))
    have n0_ : Aside0 ((((((w32.setCell ⟨gb103, 0, none⟩ (.string ((rd_T53 l0 x7_1).f0))).setCell ⟨gb103, 1, none⟩ (.int .i64 ((rd_T53 l0 x7_1).f1.f0))).setCell ⟨gb103, 2, none⟩ (.string ((rd_T53 l0 x7_1).f1.f1))).setCell ⟨gb103, 3, none⟩ (.int .i64 ((rd_T53 l0 x7_1).f1.f2))).setCell ⟨gb103, 4, none⟩ (.bool ((rd_T53 l0 x7_1).f1.f3))).heap[gb103]? = some (.cells #[.string ((rd_T53 l0 x7_1).f0), .int .i64 ((rd_T53 l0 x7_1).f1.f0), .string ((rd_T53 l0 x7_1).f1.f1), .int .i64 ((rd_T53 l0 x7_1).f1.f2), .bool ((rd_T53 l0 x7_1).f1.f3)] 53 (0, 0))) := ⟨by (with_reducible repeat (first | refine blk_drewN ?_ _ | refine blk_drew ?_ | refine blk_alloc ?_ _)); refine blk_put (cs := #[.string ((rd_T53 l0 x7_1).f0), .int .i64 ((rd_T53 l0 x7_1).f1.f0), .string ((rd_T53 l0 x7_1).f1.f1), .int .i64 ((rd_T53 l0 x7_1).f1.f2), .bool false]) ?_ 4 _ rfl; (with_reducible repeat (first | refine blk_drewN ?_ _ | refine blk_drew ?_ | refine blk_alloc ?_ _)); refine blk_put (cs := #[.string ((rd_T53 l0 x7_1).f0), .int .i64 ((rd_T53 l0 x7_1).f1.f0), .string ((rd_T53 l0 x7_1).f1.f1), .int .i64 0, .bool false]) ?_ 3 _ rfl; (with_reducible repeat (first | refine blk_drewN ?_ _ | refine blk_drew ?_ | refine blk_alloc ?_ _)); refine blk_put (cs := #[.string ((rd_T53 l0 x7_1).f0), .int .i64 ((rd_T53 l0 x7_1).f1.f0), .string (⟨#[]⟩ : ByteArray), .int .i64 0, .bool false]) ?_ 2 _ rfl; (with_reducible repeat (first | refine blk_drewN ?_ _ | refine blk_drew ?_ | refine blk_alloc ?_ _)); refine blk_put (cs := #[.string ((rd_T53 l0 x7_1).f0), .int .i64 0, .string (⟨#[]⟩ : ByteArray), .int .i64 0, .bool false]) ?_ 1 _ rfl; (with_reducible repeat (first | refine blk_drewN ?_ _ | refine blk_drew ?_ | refine blk_alloc ?_ _)); refine blk_put (cs := #[.string (⟨#[]⟩ : ByteArray), .int .i64 0, .string (⟨#[]⟩ : ByteArray), .int .i64 0, .bool false]) ?_ 0 _ rfl; (with_reducible repeat (first | refine blk_drewN ?_ _ | refine blk_drew ?_ | refine blk_alloc ?_ _)); exact BK103.out⟩
    have n1_ : Aside0 (Below w.heap.size w (((((w32.setCell ⟨gb103, 0, none⟩ (.string ((rd_T53 l0 x7_1).f0))).setCell ⟨gb103, 1, none⟩ (.int .i64 ((rd_T53 l0 x7_1).f1.f0))).setCell ⟨gb103, 2, none⟩ (.string ((rd_T53 l0 x7_1).f1.f1))).setCell ⟨gb103, 3, none⟩ (.int .i64 ((rd_T53 l0 x7_1).f1.f2))).setCell ⟨gb103, 4, none⟩ (.bool ((rd_T53 l0 x7_1).f1.f3)))) := ⟨by repeat (first | (with_reducible first | exact HB.out | apply below_alloc | apply pw_below_drewN | apply below_drew1 | refine below_set ?_ GE103.out) | exact HB.out)⟩
    (try clear BK103)
    (try clear HB)
    generalize (((((w32.setCell ⟨gb103, 0, none⟩ (.string ((rd_T53 l0 x7_1).f0))).setCell ⟨gb103, 1, none⟩ (.int .i64 ((rd_T53 l0 x7_1).f1.f0))).setCell ⟨gb103, 2, none⟩ (.string ((rd_T53 l0 x7_1).f1.f1))).setCell ⟨gb103, 3, none⟩ (.int .i64 ((rd_T53 l0 x7_1).f1.f2))).setCell ⟨gb103, 4, none⟩ (.bool ((rd_T53 l0 x7_1).f1.f3))) = w34 at n0_ n1_ ⊢
    have BK103 := n0_
    have HB := n1_
    clear n0_ n1_
    replace BK103 := Aside0.mk (blk_drew BK103.out)
    replace HB := Aside0.mk (below_drew1 HB.out)
    as_aux_lemma =>
     refine start_ (n := 25) (S := fun w' => w'.cell? ⟨gb103, 0, none⟩ = some (.string ((rd_T53 l0 x7_1).f0)) ∧ w'.cell? ⟨gb103, 1, none⟩ = some (.int .i64 ((rd_T53 l0 x7_1).f1.f0)) ∧ w'.cell? ⟨gb103, 2, none⟩ = some (.string ((rd_T53 l0 x7_1).f1.f1)) ∧ w'.cell? ⟨gb103, 3, none⟩ = some (.int .i64 ((rd_T53 l0 x7_1).f1.f2)) ∧ w'.cell? ⟨gb103, 4, none⟩ = some (.bool ((rd_T53 l0 x7_1).f1.f3))) (ds := []) #[false, false, false, false, false, false, false, false, false, false, false, false, false, false, false, false, false, false, false, false, false, false, false, false, false] (by kernel_rfl) rfl rfl ⟨q5k BK103.out 0, q5k BK103.out 1, q5k BK103.out 2, q5k BK103.out 3, q5k BK103.out 4⟩ (fun hHeld => ?_); refine with_tabW span_mayAttrs.tab4 span_mayAttrs.bits4 (fun HT_ HW_ => ?_)
     generalize w34.drew = w35 at BK103 HB hHeld ⊢
     refine q5p (i := 0) (N := some 12) (q5m 25 1) HT_.out ?_
     refine take_ (i := 1) (N := some 13) (v := ?_) (a' := ?_) (q5m 25 3) rfl rfl (take_ofW HT_.out HW_.out (by kernel_rfl)) (fun _ _ _ h => h) (Or.inl ⟨by rfl, ?_⟩) hHeld ?_ ?_; rotate_left; (rintro w' ⟨s0, s1, s2, s3, s4⟩; go_simp; with_reducible rfl); rotate_left; (simp only [Act.put, q5a, q5b, q5c, i64_w, i32_w]; rfl)
     refine one_ (i := 2) (N := some 14) (q5m 25 7) rfl rfl (one_of HT_.out (by kernel_rfl)) (by decide) (fun K hK => ?_)
     refine goes_ Tryd.func56 (by kernel_rfl) rfl #[.string ((rd_T53 l0 x7_1).f0)] (by rfl) rfl rfl q5y3 ?_
     with_reducible refine (span_mayName.calls ((rd_T53 l0 x7_1).f0) true _ A5.out q5y0).mono ?_
     rintro e w36 ⟨rfl, hb⟩
     refine ⟨_, rfl, ?_⟩
     replace BK103 := Aside0.mk (blk_below q5y4 hb)
     replace HB := Aside0.mk (below_step q5y2 hb)
     (try clear hb)
     (try clear hb2)
     (try clear hk)
     (try clear hi)
     refine hK.out _ _ ⟨q5k BK103.out 0, q5k BK103.out 1, q5k BK103.out 2, q5k BK103.out 3, q5k BK103.out 4⟩ (fun hHeld => ?_)
     clear hK K
     refine norm_ (a' := ?_) ?_ ?_
     rotate_left
     ·show Act.put _ (some 14) _ = _
      simp only [Act.put, q5a, q5b, q5c, i64_w, i32_w]
      rfl
     refine q5p (i := 3) (N := some 15) (q5m 25 15) HT_.out ?_
     refine q5p (i := 4) (N := some 16) (q5m 25 31) HT_.out ?_
     refine q5p (i := 5) (N := some 17) (q5m 25 63) HT_.out ?_
     refine take_ (i := 6) (N := some 18) (v := ?_) (a' := ?_) (q5m 25 127) rfl rfl (take_ofW HT_.out HW_.out (by kernel_rfl)) (fun _ _ _ h => h) (Or.inl ⟨by rfl, ?_⟩) hHeld ?_ ?_; rotate_left; (rintro w' ⟨s0, s1, s2, s3, s4⟩; go_simp; with_reducible rfl); rotate_left; (simp only [Act.put, q5a, q5b, q5c, i64_w, i32_w]; rfl)
     refine one_ (i := 7) (N := some 19) (q5m 25 255) rfl rfl (one_of HT_.out (by kernel_rfl)) (by decide) (fun K hK => ?_)
     refine goes_ Tryd.func72 (by kernel_rfl) rfl #[.agg #[.int .i64 ((rd_T53 l0 x7_1).f1.f0), .string ((rd_T53 l0 x7_1).f1.f1), .int .i64 ((rd_T53 l0 x7_1).f1.f2), .bool ((rd_T53 l0 x7_1).f1.f3)]] (by rfl) rfl rfl q5y3 ?_
     with_reducible refine (span_MayValue.calls ((rd_T53 l0 x7_1).f1.f0) ((rd_T53 l0 x7_1).f1.f1) ((rd_T53 l0 x7_1).f1.f2) ((rd_T53 l0 x7_1).f1.f3) false _ A7.out q5y0).mono ?_
     rintro e w37 ⟨rfl, hb⟩
     refine ⟨_, rfl, ?_⟩
     replace BK103 := Aside0.mk (blk_below q5y4 hb)
     replace HB := Aside0.mk (below_step q5y2 hb)
     (try clear hb)
     (try clear hb2)
     (try clear hk)
     (try clear hi)
     refine hK.out _ _ ⟨q5k BK103.out 0, q5k BK103.out 1, q5k BK103.out 2, q5k BK103.out 3, q5k BK103.out 4⟩ (fun hHeld => ?_)
     clear hK K
     refine norm_ (a' := ?_) ?_ ?_
     rotate_left
     ·show Act.put _ (some 19) _ = _
      simp only [Act.put, q5a, q5b, q5c, i64_w, i32_w]
      rfl
     refine q5p (i := 8) (N := some 20) (q5m 25 511) HT_.out ?_
     refine q5p (i := 9) (N := some 21) (q5m 25 1023) HT_.out ?_
     refine q5p (i := 10) (N := some 22) (q5m 25 2047) HT_.out ?_
     refine q5u (i := 11) (N := some 23) (q5m 25 4095) HT_.out ?_
     refine q5u (i := 12) (N := some 24) (q5m 25 8191) HT_.out ?_
     refine q5u (i := 13) (N := some 25) (q5m 25 16383) HT_.out ?_
     refine q5u (i := 14) (N := some 26) (q5m 25 32767) HT_.out ?_
     refine q5u (i := 15) (N := some 27) (q5m 25 65535) HT_.out ?_
     refine q5u (i := 16) (N := some 28) (q5m 25 131071) HT_.out ?_
     refine q5u (i := 17) (N := some 29) (q5m 25 262143) HT_.out ?_
     refine q5u (i := 18) (N := some 30) (q5m 25 524287) HT_.out ?_
     refine q5u (i := 19) (N := some 31) (q5m 25 1048575) HT_.out ?_
     refine q5u (i := 20) (N := some 32) (q5m 25 2097151) HT_.out ?_
     refine q5u (i := 21) (N := some 33) (q5m 25 4194303) HT_.out ?_
     refine q5u (i := 22) (N := some 34) (q5m 25 8388607) HT_.out ?_
     refine q5u (i := 23) (N := some 35) (q5m 25 16777215) HT_.out ?_
     refine q5p (i := 24) (N := some 36) (q5m 25 33554431) HT_.out ?_
     refine done_ (done_of HT_.out (by kernel_rfl)) ?_
     try go_wp2
     go_ret
     exact ⟨by first | rfl | (simp [errW_none, errW_some] <;> rfl) | (simp [*, errW_none, errW_some] <;> rfl), by repeat (first | (with_reducible first | exact HB.out | apply below_alloc | apply pw_below_drewN | apply below_drew1 | refine below_set ?_ GE103.out) | exact HB.out)⟩
   subst c8
   have H1 : (if x7_1 > 0 then (if 0 ≤ (wrap64 (x7_1 - 1)) then (if (wrap64 (x7_1 - 1)) < (l0.length : Int) then (if ((Op.bytesLess (((rd_T53 l0 (wrap64 (x7_1 - 1))).f0).toList) (((rd_T53 l0 x7_1).f0).toList)) = true) then (span_mayAttrs.l0 k1 l0 l0 (l0.length : Int) (wrap64 (x7_1 + 1))) else (some false)) else (none)) else (none)) else (span_mayAttrs.l0 k1 l0 l0 (l0.length : Int) (wrap64 (x7_1 + 1)))) = some r := by rw [if_pos rfl] at H; exact H
   clear H
   have H := H1
   clear H1
   by_cases c9 : x7_1 > 0
   rotate_left
   ·rw [if_neg c9] at H
    have c9b0 : decide (0 < x7_1) = false := decide_eq_false c9
    clear c9
    have H' := Aside0.mk H
    clear H
    have p102 : 0 ≤ (x7_1 : Int) := of_decide_eq_true q5y5
    have q102 : x7_1 < (l0.length : Int) := of_decide_eq_true q5y5
    obtain ⟨ad102, e102, hx102_0, hx102_1, hx102_2, hx102_3, hx102_4⟩ := at_T53 HR0.out x7_1 p102 q102
    cases e102
    replace hx102_0 := (HB.out.cell (World.block_lt_of_cell? w _ hx102_0)).trans hx102_0
    replace hx102_1 := (HB.out.cell (World.block_lt_of_cell? w _ hx102_1)).trans hx102_1
    replace hx102_2 := (HB.out.cell (World.block_lt_of_cell? w _ hx102_2)).trans hx102_2
    replace hx102_3 := (HB.out.cell (World.block_lt_of_cell? w _ hx102_3)).trans hx102_3
    replace hx102_4 := (HB.out.cell (World.block_lt_of_cell? w _ hx102_4)).trans hx102_4
    replace p102 := eq_true p102
    replace q102 := eq_true q102
    try go_wp2_with (first | ((with_reducible refine gate_dst (N := 4) rfl ?_); refine box_event ?hg (N := 4) ?hd (cs := #[.string (⟨#[]⟩ : ByteArray), .int .i64 0, .string (⟨#[]⟩ : ByteArray), .int .i64 0, .bool false]) (t := 53) ?hr ?_; (case hd => rfl); (case hg => rfl); (case hr => first | (go_simp; done) | (go_simp; rfl)); intro gb103 hg w26 hbox hb; have BK103 := Aside0.mk (hbox); have GW103 := Aside0.mk ((by rw [hg]; exact (below_size q5y1) : w.heap.size ≤ gb103)); have GE103 := GW103; replace HB := Aside0.mk (below_step q5y1 hb); clear hb hbox hg; obtain ⟨hcz27_0, hcz27_1, hcz27_2, hcz27_3, hcz27_4, hfz27_0, hfz27_1, hfz27_2, hfz27_3, hfz27_4⟩ := q5cb5 BK103.out))
    have n0_ : Aside0 ((((((w26.setCell ⟨gb103, 0, none⟩ (.string ((rd_T53 l0 x7_1).f0))).setCell ⟨gb103, 1, none⟩ (.int .i64 ((rd_T53 l0 x7_1).f1.f0))).setCell ⟨gb103, 2, none⟩ (.string ((rd_T53 l0 x7_1).f1.f1))).setCell ⟨gb103, 3, none⟩ (.int .i64 ((rd_T53 l0 x7_1).f1.f2))).setCell ⟨gb103, 4, none⟩ (.bool ((rd_T53 l0 x7_1).f1.f3))).heap[gb103]? = some (.cells #[.string ((rd_T53 l0 x7_1).f0), .int .i64 ((rd_T53 l0 x7_1).f1.f0), .string ((rd_T53 l0 x7_1).f1.f1), .int .i64 ((rd_T53 l0 x7_1).f1.f2), .bool ((rd_T53 l0 x7_1).f1.f3)] 53 (0, 0))) := ⟨by (with_reducible repeat (first | refine blk_drewN ?_ _ | refine blk_drew ?_ | refine blk_alloc ?_ _)); refine blk_put (cs := #[.string ((rd_T53 l0 x7_1).f0), .int .i64 ((rd_T53 l0 x7_1).f1.f0), .string ((rd_T53 l0 x7_1).f1.f1), .int .i64 ((rd_T53 l0 x7_1).f1.f2), .bool false]) ?_ 4 _ rfl; (with_reducible repeat (first | refine blk_drewN ?_ _ | refine blk_drew ?_ | refine blk_alloc ?_ _)); refine blk_put (cs := #[.string ((rd_T53 l0 x7_1).f0), .int .i64 ((rd_T53 l0 x7_1).f1.f0), .string ((rd_T53 l0 x7_1).f1.f1), .int .i64 0, .bool false]) ?_ 3 _ rfl; (with_reducible repeat (first | refine blk_drewN ?_ _ | refine blk_drew ?_ | refine blk_alloc ?_ _)); refine blk_put (cs := #[.string ((rd_T53 l0 x7_1).f0), .int .i64 ((rd_T53 l0 x7_1).f1.f0), .string (⟨#[]⟩ : ByteArray), .int .i64 0, .bool false]) ?_ 2 _ rfl; (with_reducible repeat (first | refine blk_drewN ?_ _ | refine blk_drew ?_ | refine blk_alloc ?_ _)); refine blk_put (cs := #[.string ((rd_T53 l0 x7_1).f0), .int .i64 0, .string (⟨#[]⟩ : ByteArray), .int .i64 0, .bool false]) ?_ 1 _ rfl; (with_reducible repeat (first | refine blk_drewN ?_ _ | refine blk_drew ?_ | refine blk_alloc ?_ _)); refine blk_put (cs := #[.string (⟨#[]⟩ : ByteArray), .int .i64 0, .string (⟨#[]⟩ : ByteArray), .int .i64 0, .bool false]) ?_ 0 _ rfl; (with_reducible repeat (first | refine blk_drewN ?_ _ | refine blk_drew ?_ | refine blk_alloc ?_ _)); exact BK103.out⟩
    have n1_ : Aside0 (Below w.heap.size w (((((w26.setCell ⟨gb103, 0, none⟩ (.string ((rd_T53 l0 x7_1).f0))).setCell ⟨gb103, 1, none⟩ (.int .i64 ((rd_T53 l0 x7_1).f1.f0))).setCell ⟨gb103, 2, none⟩ (.string ((rd_T53 l0 x7_1).f1.f1))).setCell ⟨gb103, 3, none⟩ (.int .i64 ((rd_T53 l0 x7_1).f1.f2))).setCell ⟨gb103, 4, none⟩ (.bool ((rd_T53 l0 x7_1).f1.f3)))) := ⟨by repeat (first | (with_reducible first | exact HB.out | apply below_alloc | apply pw_below_drewN | apply below_drew1 | refine below_set ?_ GE103.out) | exact HB.out)⟩
    (try clear BK103)
    (try clear HB)
    generalize (((((w26.setCell ⟨gb103, 0, none⟩ (.string ((rd_T53 l0 x7_1).f0))).setCell ⟨gb103, 1, none⟩ (.int .i64 ((rd_T53 l0 x7_1).f1.f0))).setCell ⟨gb103, 2, none⟩ (.string ((rd_T53 l0 x7_1).f1.f1))).setCell ⟨gb103, 3, none⟩ (.int .i64 ((rd_T53 l0 x7_1).f1.f2))).setCell ⟨gb103, 4, none⟩ (.bool ((rd_T53 l0 x7_1).f1.f3))) = w28 at n0_ n1_ ⊢
    have BK103 := n0_
    have HB := n1_
    clear n0_ n1_
    replace BK103 := Aside0.mk (blk_drew BK103.out)
    replace HB := Aside0.mk (below_drew1 HB.out)
    as_aux_lemma =>
     refine start_ (n := 25) (S := fun w' => w'.cell? ⟨gb103, 0, none⟩ = some (.string ((rd_T53 l0 x7_1).f0)) ∧ w'.cell? ⟨gb103, 1, none⟩ = some (.int .i64 ((rd_T53 l0 x7_1).f1.f0)) ∧ w'.cell? ⟨gb103, 2, none⟩ = some (.string ((rd_T53 l0 x7_1).f1.f1)) ∧ w'.cell? ⟨gb103, 3, none⟩ = some (.int .i64 ((rd_T53 l0 x7_1).f1.f2)) ∧ w'.cell? ⟨gb103, 4, none⟩ = some (.bool ((rd_T53 l0 x7_1).f1.f3))) (ds := []) #[false, false, false, false, false, false, false, false, false, false, false, false, false, false, false, false, false, false, false, false, false, false, false, false, false] (by kernel_rfl) rfl rfl ⟨q5k BK103.out 0, q5k BK103.out 1, q5k BK103.out 2, q5k BK103.out 3, q5k BK103.out 4⟩ (fun hHeld => ?_); refine with_tabW span_mayAttrs.tab4 span_mayAttrs.bits4 (fun HT_ HW_ => ?_)
     generalize w28.drew = w29 at BK103 HB hHeld ⊢
     refine q5p (i := 0) (N := some 12) (q5m 25 1) HT_.out ?_
     refine take_ (i := 1) (N := some 13) (v := ?_) (a' := ?_) (q5m 25 3) rfl rfl (take_ofW HT_.out HW_.out (by kernel_rfl)) (fun _ _ _ h => h) (Or.inl ⟨by rfl, ?_⟩) hHeld ?_ ?_; rotate_left; (rintro w' ⟨s0, s1, s2, s3, s4⟩; go_simp; with_reducible rfl); rotate_left; (simp only [Act.put, q5a, q5b, q5c, i64_w, i32_w]; rfl)
     refine one_ (i := 2) (N := some 14) (q5m 25 7) rfl rfl (one_of HT_.out (by kernel_rfl)) (by decide) (fun K hK => ?_)
     refine goes_ Tryd.func56 (by kernel_rfl) rfl #[.string ((rd_T53 l0 x7_1).f0)] (by rfl) rfl rfl q5y3 ?_
     with_reducible refine (span_mayName.calls ((rd_T53 l0 x7_1).f0) true _ A5.out q5y0).mono ?_
     rintro e w30 ⟨rfl, hb⟩
     refine ⟨_, rfl, ?_⟩
     replace BK103 := Aside0.mk (blk_below q5y4 hb)
     replace HB := Aside0.mk (below_step q5y2 hb)
     (try clear hb)
     (try clear hb2)
     (try clear hk)
     (try clear hi)
     refine hK.out _ _ ⟨q5k BK103.out 0, q5k BK103.out 1, q5k BK103.out 2, q5k BK103.out 3, q5k BK103.out 4⟩ (fun hHeld => ?_)
     clear hK K
     refine norm_ (a' := ?_) ?_ ?_
     rotate_left
     ·show Act.put _ (some 14) _ = _
      simp only [Act.put, q5a, q5b, q5c, i64_w, i32_w]
      rfl
     refine q5p (i := 3) (N := some 15) (q5m 25 15) HT_.out ?_
     refine q5p (i := 4) (N := some 16) (q5m 25 31) HT_.out ?_
     refine q5p (i := 5) (N := some 17) (q5m 25 63) HT_.out ?_
     refine take_ (i := 6) (N := some 18) (v := ?_) (a' := ?_) (q5m 25 127) rfl rfl (take_ofW HT_.out HW_.out (by kernel_rfl)) (fun _ _ _ h => h) (Or.inl ⟨by rfl, ?_⟩) hHeld ?_ ?_; rotate_left; (rintro w' ⟨s0, s1, s2, s3, s4⟩; go_simp; with_reducible rfl); rotate_left; (simp only [Act.put, q5a, q5b, q5c, i64_w, i32_w]; rfl)
     refine one_ (i := 7) (N := some 19) (q5m 25 255) rfl rfl (one_of HT_.out (by kernel_rfl)) (by decide) (fun K hK => ?_)
     refine goes_ Tryd.func72 (by kernel_rfl) rfl #[.agg #[.int .i64 ((rd_T53 l0 x7_1).f1.f0), .string ((rd_T53 l0 x7_1).f1.f1), .int .i64 ((rd_T53 l0 x7_1).f1.f2), .bool ((rd_T53 l0 x7_1).f1.f3)]] (by rfl) rfl rfl q5y3 ?_
     with_reducible refine (span_MayValue.calls ((rd_T53 l0 x7_1).f1.f0) ((rd_T53 l0 x7_1).f1.f1) ((rd_T53 l0 x7_1).f1.f2) ((rd_T53 l0 x7_1).f1.f3) true _ A7.out q5y0).mono ?_
     rintro e w31 ⟨rfl, hb⟩
     refine ⟨_, rfl, ?_⟩
     replace BK103 := Aside0.mk (blk_below q5y4 hb)
     replace HB := Aside0.mk (below_step q5y2 hb)
     (try clear hb)
     (try clear hb2)
     (try clear hk)
     (try clear hi)
     refine hK.out _ _ ⟨q5k BK103.out 0, q5k BK103.out 1, q5k BK103.out 2, q5k BK103.out 3, q5k BK103.out 4⟩ (fun hHeld => ?_)
     clear hK K
     refine norm_ (a' := ?_) ?_ ?_
     rotate_left
     ·show Act.put _ (some 19) _ = _
      simp only [Act.put, q5a, q5b, q5c, i64_w, i32_w]
      rfl
     refine q5p (i := 8) (N := some 20) (q5m 25 511) HT_.out ?_
     refine q5p (i := 9) (N := some 21) (q5m 25 1023) HT_.out ?_
     refine q5p (i := 10) (N := some 22) (q5m 25 2047) HT_.out ?_
     refine q5p (i := 11) (N := some 23) (q5m 25 4095) HT_.out ?_
     refine q5p (i := 12) (N := some 24) (q5m 25 8191) HT_.out ?_
     refine q5p (i := 13) (N := some 25) (q5m 25 16383) HT_.out ?_
     refine q5u (i := 14) (N := some 26) (q5m 25 32767) HT_.out ?_
     refine q5u (i := 15) (N := some 27) (q5m 25 65535) HT_.out ?_
     refine q5u (i := 16) (N := some 28) (q5m 25 131071) HT_.out ?_
     refine q5u (i := 17) (N := some 29) (q5m 25 262143) HT_.out ?_
     refine q5u (i := 18) (N := some 30) (q5m 25 524287) HT_.out ?_
     refine q5u (i := 19) (N := some 31) (q5m 25 1048575) HT_.out ?_
     refine q5u (i := 20) (N := some 32) (q5m 25 2097151) HT_.out ?_
     refine q5u (i := 21) (N := some 33) (q5m 25 4194303) HT_.out ?_
     refine q5u (i := 22) (N := some 34) (q5m 25 8388607) HT_.out ?_
     refine q5p (i := 23) (N := some 35) (q5m 25 16777215) HT_.out ?_
     refine q5p (i := 24) (N := some 36) (q5m 25 33554431) HT_.out ?_
     refine done_ (done_of HT_.out (by kernel_rfl)) ?_
     try go_wp2
     go_roundg k1
     case measure => have := HK1.out; omega
     case rel => exact ⟨(wrap64 (x7_1 + 1)), (by first | rfl | (simp; done) | (simp [*]; done)), H', ⟨by have := HK1.out; omega⟩, ⟨by repeat (first | (with_reducible first | exact HB.out | apply below_alloc | apply pw_below_drewN | apply below_drew1 | refine below_set ?_ GE103.out) | exact HB.out)⟩⟩
   rw [if_pos c9] at H
   have c9b0 : decide (0 < x7_1) = true := decide_eq_true c9
   clear c9
   obtain ⟨ji10, hji10⟩ : ∃ j_ : Int, (wrap64 (x7_1 - 1)) = j_ := ⟨_, rfl⟩
   replace H : (if 0 ≤ (ji10) then (if (ji10) < (l0.length : Int) then (if ((Op.bytesLess (((rd_T53 l0 (ji10)).f0).toList) (((rd_T53 l0 x7_1).f0).toList)) = true) then (span_mayAttrs.l0 k1 l0 l0 (l0.length : Int) (wrap64 (x7_1 + 1))) else (some false)) else (none)) else (none)) = some r := by first | (rw [hji10] at H; exact H) | (simp only [hji10] at H ⊢; exact H)
   (try rw [hji10] at A5)
   (try rw [hji10] at A7)
   have hji10w : (IntKind.i64.wrap (x7_1 - 1)) = ji10 := (i64_w _).trans hji10
   by_cases c11 : 0 ≤ (ji10)
   rotate_left
   ·rw [if_neg c11] at H
    exact absurd H (by simp)
   rw [if_pos c11] at H
   have c11b0 : decide (0 ≤ (ji10)) = true := decide_eq_true c11
   clear c11
   by_cases c12 : (ji10) < (l0.length : Int)
   rotate_left
   ·rw [if_neg c12] at H
    exact absurd H (by simp)
   rw [if_pos c12] at H
   have c12b0 : decide ((ji10) < (l0.length : Int)) = true := decide_eq_true c12
   clear c12
   by_cases c13 : ((Op.bytesLess (((rd_T53 l0 (ji10)).f0).toList) (((rd_T53 l0 x7_1).f0).toList)) = true)
   rotate_left
   ·rw [if_neg c13] at H
    have c13b0 : (Op.bytesLess (((rd_T53 l0 (ji10)).f0).toList) (((rd_T53 l0 x7_1).f0).toList)) = false := by simpa using c13
    clear c13
    obtain rfl := Option.some.inj H
    have p102 : 0 ≤ (x7_1 : Int) := of_decide_eq_true q5y5
    have q102 : x7_1 < (l0.length : Int) := of_decide_eq_true q5y5
    obtain ⟨ad102, e102, hx102_0, hx102_1, hx102_2, hx102_3, hx102_4⟩ := at_T53 HR0.out x7_1 p102 q102
    cases e102
    replace hx102_0 := (HB.out.cell (World.block_lt_of_cell? w _ hx102_0)).trans hx102_0
    replace hx102_1 := (HB.out.cell (World.block_lt_of_cell? w _ hx102_1)).trans hx102_1
    replace hx102_2 := (HB.out.cell (World.block_lt_of_cell? w _ hx102_2)).trans hx102_2
    replace hx102_3 := (HB.out.cell (World.block_lt_of_cell? w _ hx102_3)).trans hx102_3
    replace hx102_4 := (HB.out.cell (World.block_lt_of_cell? w _ hx102_4)).trans hx102_4
    replace p102 := eq_true p102
    replace q102 := eq_true q102
    try go_wp2_with (first | ((with_reducible refine gate_dst (N := 4) rfl ?_); refine box_event ?hg (N := 4) ?hd (cs := #[.string (⟨#[]⟩ : ByteArray), .int .i64 0, .string (⟨#[]⟩ : ByteArray), .int .i64 0, .bool false]) (t := 53) ?hr ?_; (case hd => rfl); (case hg => rfl); (case hr => first | (go_simp; done) | (go_simp; rfl)); intro gb103 hg w20 hbox hb; have BK103 := Aside0.mk (hbox); have GW103 := Aside0.mk ((by rw [hg]; exact (below_size q5y1) : w.heap.size ≤ gb103)); have GE103 := GW103; replace HB := Aside0.mk (below_step q5y1 hb); clear hb hbox hg; obtain ⟨hcz21_0, hcz21_1, hcz21_2, hcz21_3, hcz21_4, hfz21_0, hfz21_1, hfz21_2, hfz21_3, hfz21_4⟩ := q5cb5 BK103.out))
    have n0_ : Aside0 ((((((w20.setCell ⟨gb103, 0, none⟩ (.string ((rd_T53 l0 x7_1).f0))).setCell ⟨gb103, 1, none⟩ (.int .i64 ((rd_T53 l0 x7_1).f1.f0))).setCell ⟨gb103, 2, none⟩ (.string ((rd_T53 l0 x7_1).f1.f1))).setCell ⟨gb103, 3, none⟩ (.int .i64 ((rd_T53 l0 x7_1).f1.f2))).setCell ⟨gb103, 4, none⟩ (.bool ((rd_T53 l0 x7_1).f1.f3))).heap[gb103]? = some (.cells #[.string ((rd_T53 l0 x7_1).f0), .int .i64 ((rd_T53 l0 x7_1).f1.f0), .string ((rd_T53 l0 x7_1).f1.f1), .int .i64 ((rd_T53 l0 x7_1).f1.f2), .bool ((rd_T53 l0 x7_1).f1.f3)] 53 (0, 0))) := ⟨by (with_reducible repeat (first | refine blk_drewN ?_ _ | refine blk_drew ?_ | refine blk_alloc ?_ _)); refine blk_put (cs := #[.string ((rd_T53 l0 x7_1).f0), .int .i64 ((rd_T53 l0 x7_1).f1.f0), .string ((rd_T53 l0 x7_1).f1.f1), .int .i64 ((rd_T53 l0 x7_1).f1.f2), .bool false]) ?_ 4 _ rfl; (with_reducible repeat (first | refine blk_drewN ?_ _ | refine blk_drew ?_ | refine blk_alloc ?_ _)); refine blk_put (cs := #[.string ((rd_T53 l0 x7_1).f0), .int .i64 ((rd_T53 l0 x7_1).f1.f0), .string ((rd_T53 l0 x7_1).f1.f1), .int .i64 0, .bool false]) ?_ 3 _ rfl; (with_reducible repeat (first | refine blk_drewN ?_ _ | refine blk_drew ?_ | refine blk_alloc ?_ _)); refine blk_put (cs := #[.string ((rd_T53 l0 x7_1).f0), .int .i64 ((rd_T53 l0 x7_1).f1.f0), .string (⟨#[]⟩ : ByteArray), .int .i64 0, .bool false]) ?_ 2 _ rfl; (with_reducible repeat (first | refine blk_drewN ?_ _ | refine blk_drew ?_ | refine blk_alloc ?_ _)); refine blk_put (cs := #[.string ((rd_T53 l0 x7_1).f0), .int .i64 0, .string (⟨#[]⟩ : ByteArray), .int .i64 0, .bool false]) ?_ 1 _ rfl; (with_reducible repeat (first | refine blk_drewN ?_ _ | refine blk_drew ?_ | refine blk_alloc ?_ _)); refine blk_put (cs := #[.string (⟨#[]⟩ : ByteArray), .int .i64 0, .string (⟨#[]⟩ : ByteArray), .int .i64 0, .bool false]) ?_ 0 _ rfl; (with_reducible repeat (first | refine blk_drewN ?_ _ | refine blk_drew ?_ | refine blk_alloc ?_ _)); exact BK103.out⟩
    have n1_ : Aside0 (Below w.heap.size w (((((w20.setCell ⟨gb103, 0, none⟩ (.string ((rd_T53 l0 x7_1).f0))).setCell ⟨gb103, 1, none⟩ (.int .i64 ((rd_T53 l0 x7_1).f1.f0))).setCell ⟨gb103, 2, none⟩ (.string ((rd_T53 l0 x7_1).f1.f1))).setCell ⟨gb103, 3, none⟩ (.int .i64 ((rd_T53 l0 x7_1).f1.f2))).setCell ⟨gb103, 4, none⟩ (.bool ((rd_T53 l0 x7_1).f1.f3)))) := ⟨by repeat (first | (with_reducible first | exact HB.out | apply below_alloc | apply pw_below_drewN | apply below_drew1 | refine below_set ?_ GE103.out) | exact HB.out)⟩
    (try clear BK103)
    (try clear HB)
    generalize (((((w20.setCell ⟨gb103, 0, none⟩ (.string ((rd_T53 l0 x7_1).f0))).setCell ⟨gb103, 1, none⟩ (.int .i64 ((rd_T53 l0 x7_1).f1.f0))).setCell ⟨gb103, 2, none⟩ (.string ((rd_T53 l0 x7_1).f1.f1))).setCell ⟨gb103, 3, none⟩ (.int .i64 ((rd_T53 l0 x7_1).f1.f2))).setCell ⟨gb103, 4, none⟩ (.bool ((rd_T53 l0 x7_1).f1.f3))) = w22 at n0_ n1_ ⊢
    have BK103 := n0_
    have HB := n1_
    clear n0_ n1_
    replace BK103 := Aside0.mk (blk_drew BK103.out)
    replace HB := Aside0.mk (below_drew1 HB.out)
    have p106 : 0 ≤ ((ji10) : Int) := of_decide_eq_true q5y5
    have q106 : (ji10) < (l0.length : Int) := of_decide_eq_true q5y5
    obtain ⟨ad106, e106, hx106_0, hx106_1, hx106_2, hx106_3, hx106_4⟩ := at_T53 HR0.out (ji10) p106 q106
    have hw106_4 := hx106_4
    have hw106_3 := hx106_3
    have hw106_2 := hx106_2
    have hw106_1 := hx106_1
    have hw106_0 := hx106_0
    obtain rfl : ad102 = ad106 := (by injection e106)
    replace hx106_0 := (HB.out.cell (World.block_lt_of_cell? w _ hx106_0)).trans hx106_0
    replace hx106_1 := (HB.out.cell (World.block_lt_of_cell? w _ hx106_1)).trans hx106_1
    replace hx106_2 := (HB.out.cell (World.block_lt_of_cell? w _ hx106_2)).trans hx106_2
    replace hx106_3 := (HB.out.cell (World.block_lt_of_cell? w _ hx106_3)).trans hx106_3
    replace hx106_4 := (HB.out.cell (World.block_lt_of_cell? w _ hx106_4)).trans hx106_4
    replace p106 := eq_true p106
    replace q106 := eq_true q106
    as_aux_lemma =>
     refine start_ (n := 25) (S := fun w' => w'.cell? ⟨gb103, 0, none⟩ = some (.string ((rd_T53 l0 x7_1).f0)) ∧ w'.cell? ⟨gb103, 1, none⟩ = some (.int .i64 ((rd_T53 l0 x7_1).f1.f0)) ∧ w'.cell? ⟨gb103, 2, none⟩ = some (.string ((rd_T53 l0 x7_1).f1.f1)) ∧ w'.cell? ⟨gb103, 3, none⟩ = some (.int .i64 ((rd_T53 l0 x7_1).f1.f2)) ∧ w'.cell? ⟨gb103, 4, none⟩ = some (.bool ((rd_T53 l0 x7_1).f1.f3)) ∧ w'.cell? (ad102.add (((ji10)).toNat * 5)) = some (.string ((rd_T53 l0 (ji10)).f0)) ∧ w'.cell? ⟨(ad102.add (((ji10)).toNat * 5)).block, (ad102.add (((ji10)).toNat * 5)).off + 1, none⟩ = some (.int .i64 ((rd_T53 l0 (ji10)).f1.f0)) ∧ w'.cell? ⟨(ad102.add (((ji10)).toNat * 5)).block, (ad102.add (((ji10)).toNat * 5)).off + 2, none⟩ = some (.string ((rd_T53 l0 (ji10)).f1.f1)) ∧ w'.cell? ⟨(ad102.add (((ji10)).toNat * 5)).block, (ad102.add (((ji10)).toNat * 5)).off + 3, none⟩ = some (.int .i64 ((rd_T53 l0 (ji10)).f1.f2)) ∧ w'.cell? ⟨(ad102.add (((ji10)).toNat * 5)).block, (ad102.add (((ji10)).toNat * 5)).off + 4, none⟩ = some (.bool ((rd_T53 l0 (ji10)).f1.f3))) (ds := []) #[false, false, false, false, false, false, false, false, false, false, false, false, false, false, false, false, false, false, false, false, false, false, false, false, false] (by kernel_rfl) rfl rfl ⟨q5k BK103.out 0, q5k BK103.out 1, q5k BK103.out 2, q5k BK103.out 3, q5k BK103.out 4, (q5h HB.out hw106_0:), (q5h HB.out hw106_1:), (q5h HB.out hw106_2:), (q5h HB.out hw106_3:), (q5h HB.out hw106_4:)⟩ (fun hHeld => ?_); refine with_tabW span_mayAttrs.tab4 span_mayAttrs.bits4 (fun HT_ HW_ => ?_)
     generalize w22.drew = w23 at BK103 HB hx106_0 hx106_1 hx106_2 hx106_3 hx106_4 hHeld ⊢
     refine q5p (i := 0) (N := some 12) (q5m 25 1) HT_.out ?_
     refine take_ (i := 1) (N := some 13) (v := ?_) (a' := ?_) (q5m 25 3) rfl rfl (take_ofW HT_.out HW_.out (by kernel_rfl)) (fun _ _ _ h => h) (Or.inl ⟨by rfl, ?_⟩) hHeld ?_ ?_; rotate_left; (rintro w' ⟨s0, s1, s2, s3, s4, s5, s6, s7, s8, s9⟩; go_simp; with_reducible rfl); rotate_left; (simp only [Act.put, q5a, q5b, q5c, i64_w, i32_w]; rfl)
     refine one_ (i := 2) (N := some 14) (q5m 25 7) rfl rfl (one_of HT_.out (by kernel_rfl)) (by decide) (fun K hK => ?_)
     refine goes_ Tryd.func56 (by kernel_rfl) rfl #[.string ((rd_T53 l0 x7_1).f0)] (by rfl) rfl rfl q5y3 ?_
     with_reducible refine (span_mayName.calls ((rd_T53 l0 x7_1).f0) true _ A5.out q5y0).mono ?_
     rintro e w24 ⟨rfl, hb⟩
     refine ⟨_, rfl, ?_⟩
     replace BK103 := Aside0.mk (blk_below q5y4 hb)
     replace HB := Aside0.mk (below_step q5y2 hb)
     (try clear hb)
     (try clear hb2)
     (try clear hk)
     (try clear hi)
     refine hK.out _ _ ⟨q5k BK103.out 0, q5k BK103.out 1, q5k BK103.out 2, q5k BK103.out 3, q5k BK103.out 4, (q5h HB.out hw106_0:), (q5h HB.out hw106_1:), (q5h HB.out hw106_2:), (q5h HB.out hw106_3:), (q5h HB.out hw106_4:)⟩ (fun hHeld => ?_)
     clear hK K
     refine norm_ (a' := ?_) ?_ ?_
     rotate_left
     ·show Act.put _ (some 14) _ = _
      simp only [Act.put, q5a, q5b, q5c, i64_w, i32_w]
      rfl
     refine q5p (i := 3) (N := some 15) (q5m 25 15) HT_.out ?_
     refine q5p (i := 4) (N := some 16) (q5m 25 31) HT_.out ?_
     refine q5p (i := 5) (N := some 17) (q5m 25 63) HT_.out ?_
     refine take_ (i := 6) (N := some 18) (v := ?_) (a' := ?_) (q5m 25 127) rfl rfl (take_ofW HT_.out HW_.out (by kernel_rfl)) (fun _ _ _ h => h) (Or.inl ⟨by rfl, ?_⟩) hHeld ?_ ?_; rotate_left; (rintro w' ⟨s0, s1, s2, s3, s4, s5, s6, s7, s8, s9⟩; go_simp; with_reducible rfl); rotate_left; (simp only [Act.put, q5a, q5b, q5c, i64_w, i32_w]; rfl)
     refine one_ (i := 7) (N := some 19) (q5m 25 255) rfl rfl (one_of HT_.out (by kernel_rfl)) (by decide) (fun K hK => ?_)
     refine goes_ Tryd.func72 (by kernel_rfl) rfl #[.agg #[.int .i64 ((rd_T53 l0 x7_1).f1.f0), .string ((rd_T53 l0 x7_1).f1.f1), .int .i64 ((rd_T53 l0 x7_1).f1.f2), .bool ((rd_T53 l0 x7_1).f1.f3)]] (by rfl) rfl rfl q5y3 ?_
     with_reducible refine (span_MayValue.calls ((rd_T53 l0 x7_1).f1.f0) ((rd_T53 l0 x7_1).f1.f1) ((rd_T53 l0 x7_1).f1.f2) ((rd_T53 l0 x7_1).f1.f3) true _ A7.out q5y0).mono ?_
     rintro e w25 ⟨rfl, hb⟩
     refine ⟨_, rfl, ?_⟩
     replace BK103 := Aside0.mk (blk_below q5y4 hb)
     replace HB := Aside0.mk (below_step q5y2 hb)
     (try clear hb)
     (try clear hb2)
     (try clear hk)
     (try clear hi)
     refine hK.out _ _ ⟨q5k BK103.out 0, q5k BK103.out 1, q5k BK103.out 2, q5k BK103.out 3, q5k BK103.out 4, (q5h HB.out hw106_0:), (q5h HB.out hw106_1:), (q5h HB.out hw106_2:), (q5h HB.out hw106_3:), (q5h HB.out hw106_4:)⟩ (fun hHeld => ?_)
     clear hK K
     refine norm_ (a' := ?_) ?_ ?_
     rotate_left
     ·show Act.put _ (some 19) _ = _
      simp only [Act.put, q5a, q5b, q5c, i64_w, i32_w]
      rfl
     refine q5p (i := 8) (N := some 20) (q5m 25 511) HT_.out ?_
     refine q5p (i := 9) (N := some 21) (q5m 25 1023) HT_.out ?_
     refine q5p (i := 10) (N := some 22) (q5m 25 2047) HT_.out ?_
     refine q5p (i := 11) (N := some 23) (q5m 25 4095) HT_.out ?_
     refine q5p (i := 12) (N := some 24) (q5m 25 8191) HT_.out ?_
     refine q5p (i := 13) (N := some 25) (q5m 25 16383) HT_.out ?_
     refine q5p (i := 14) (N := some 26) (q5m 25 32767) HT_.out ?_
     refine q5p (i := 15) (N := some 27) (q5m 25 65535) HT_.out ?_
     refine q5p (i := 16) (N := some 28) (q5m 25 131071) HT_.out ?_
     refine q5p (i := 17) (N := some 29) (q5m 25 262143) HT_.out ?_
     refine q5p (i := 18) (N := some 30) (q5m 25 524287) HT_.out ?_
     refine q5p (i := 20) (N := some 32) (q5m 25 1572863) HT_.out ?_
     refine take_ (i := 19) (N := some 31) (v := ?_) (a' := ?_) (q5m 25 2097151) rfl rfl (take_ofW HT_.out HW_.out (by kernel_rfl)) (fun _ _ _ h => h) (Or.inl ⟨by rfl, ?_⟩) hHeld ?_ ?_; rotate_left; (rintro w' ⟨s0, s1, s2, s3, s4, s5, s6, s7, s8, s9⟩; go_simp; with_reducible rfl); rotate_left; (simp only [Act.put, q5a, q5b, q5c, i64_w, i32_w]; rfl)
     refine take_ (i := 21) (N := some 33) (v := ?_) (a' := ?_) (q5m 25 4194303) rfl rfl (take_ofW HT_.out HW_.out (by kernel_rfl)) (fun _ _ _ h => h) (Or.inl ⟨by rfl, ?_⟩) hHeld ?_ ?_; rotate_left; (rintro w' ⟨s0, s1, s2, s3, s4, s5, s6, s7, s8, s9⟩; go_simp; with_reducible rfl); rotate_left; (simp only [Act.put, q5a, q5b, q5c, i64_w, i32_w]; rfl)
     refine q5p (i := 22) (N := some 34) (q5m 25 8388607) HT_.out ?_
     refine q5p (i := 23) (N := some 35) (q5m 25 16777215) HT_.out ?_
     refine q5p (i := 24) (N := some 36) (q5m 25 33554431) HT_.out ?_
     refine done_ (done_of HT_.out (by kernel_rfl)) ?_
     try go_wp2
     go_ret
     exact ⟨by first | rfl | (simp [errW_none, errW_some] <;> rfl) | (simp only [← hji10]; first | rfl | (simp [errW_none, errW_some] <;> rfl)) | (simp [*, errW_none, errW_some] <;> rfl), by repeat (first | (with_reducible first | exact HB.out | apply below_alloc | apply pw_below_drewN | apply below_drew1 | refine below_set ?_ GE103.out) | exact HB.out)⟩
   rw [if_pos c13] at H
   have c13b0 : (Op.bytesLess (((rd_T53 l0 (ji10)).f0).toList) (((rd_T53 l0 x7_1).f0).toList)) = true := c13
   clear c13
   have H' := Aside0.mk H
   clear H
   have p102 : 0 ≤ (x7_1 : Int) := of_decide_eq_true q5y5
   have q102 : x7_1 < (l0.length : Int) := of_decide_eq_true q5y5
   obtain ⟨ad102, e102, hx102_0, hx102_1, hx102_2, hx102_3, hx102_4⟩ := at_T53 HR0.out x7_1 p102 q102
   cases e102
   replace hx102_0 := (HB.out.cell (World.block_lt_of_cell? w _ hx102_0)).trans hx102_0
   replace hx102_1 := (HB.out.cell (World.block_lt_of_cell? w _ hx102_1)).trans hx102_1
   replace hx102_2 := (HB.out.cell (World.block_lt_of_cell? w _ hx102_2)).trans hx102_2
   replace hx102_3 := (HB.out.cell (World.block_lt_of_cell? w _ hx102_3)).trans hx102_3
   replace hx102_4 := (HB.out.cell (World.block_lt_of_cell? w _ hx102_4)).trans hx102_4
   replace p102 := eq_true p102
   replace q102 := eq_true q102
   try go_wp2_with (first | ((with_reducible refine gate_dst (N := 4) rfl ?_); refine box_event ?hg (N := 4) ?hd (cs := #[.string (⟨#[]⟩ : ByteArray), .int .i64 0, .string (⟨#[]⟩ : ByteArray), .int .i64 0, .bool false]) (t := 53) ?hr ?_; (case hd => rfl); (case hg => rfl); (case hr => first | (go_simp; done) | (go_simp; rfl)); intro gb103 hg w14 hbox hb; have BK103 := Aside0.mk (hbox); have GW103 := Aside0.mk ((by rw [hg]; exact (below_size q5y1) : w.heap.size ≤ gb103)); have GE103 := GW103; replace HB := Aside0.mk (below_step q5y1 hb); clear hb hbox hg; obtain ⟨hcz15_0, hcz15_1, hcz15_2, hcz15_3, hcz15_4, hfz15_0, hfz15_1, hfz15_2, hfz15_3, hfz15_4⟩ := q5cb5 BK103.out))
   have n0_ : Aside0 ((((((w14.setCell ⟨gb103, 0, none⟩ (.string ((rd_T53 l0 x7_1).f0))).setCell ⟨gb103, 1, none⟩ (.int .i64 ((rd_T53 l0 x7_1).f1.f0))).setCell ⟨gb103, 2, none⟩ (.string ((rd_T53 l0 x7_1).f1.f1))).setCell ⟨gb103, 3, none⟩ (.int .i64 ((rd_T53 l0 x7_1).f1.f2))).setCell ⟨gb103, 4, none⟩ (.bool ((rd_T53 l0 x7_1).f1.f3))).heap[gb103]? = some (.cells #[.string ((rd_T53 l0 x7_1).f0), .int .i64 ((rd_T53 l0 x7_1).f1.f0), .string ((rd_T53 l0 x7_1).f1.f1), .int .i64 ((rd_T53 l0 x7_1).f1.f2), .bool ((rd_T53 l0 x7_1).f1.f3)] 53 (0, 0))) := ⟨by (with_reducible repeat (first | refine blk_drewN ?_ _ | refine blk_drew ?_ | refine blk_alloc ?_ _)); refine blk_put (cs := #[.string ((rd_T53 l0 x7_1).f0), .int .i64 ((rd_T53 l0 x7_1).f1.f0), .string ((rd_T53 l0 x7_1).f1.f1), .int .i64 ((rd_T53 l0 x7_1).f1.f2), .bool false]) ?_ 4 _ rfl; (with_reducible repeat (first | refine blk_drewN ?_ _ | refine blk_drew ?_ | refine blk_alloc ?_ _)); refine blk_put (cs := #[.string ((rd_T53 l0 x7_1).f0), .int .i64 ((rd_T53 l0 x7_1).f1.f0), .string ((rd_T53 l0 x7_1).f1.f1), .int .i64 0, .bool false]) ?_ 3 _ rfl; (with_reducible repeat (first | refine blk_drewN ?_ _ | refine blk_drew ?_ | refine blk_alloc ?_ _)); refine blk_put (cs := #[.string ((rd_T53 l0 x7_1).f0), .int .i64 ((rd_T53 l0 x7_1).f1.f0), .string (⟨#[]⟩ : ByteArray), .int .i64 0, .bool false]) ?_ 2 _ rfl; (with_reducible repeat (first | refine blk_drewN ?_ _ | refine blk_drew ?_ | refine blk_alloc ?_ _)); refine blk_put (cs := #[.string ((rd_T53 l0 x7_1).f0), .int .i64 0, .string (⟨#[]⟩ : ByteArray), .int .i64 0, .bool false]) ?_ 1 _ rfl; (with_reducible repeat (first | refine blk_drewN ?_ _ | refine blk_drew ?_ | refine blk_alloc ?_ _)); refine blk_put (cs := #[.string (⟨#[]⟩ : ByteArray), .int .i64 0, .string (⟨#[]⟩ : ByteArray), .int .i64 0, .bool false]) ?_ 0 _ rfl; (with_reducible repeat (first | refine blk_drewN ?_ _ | refine blk_drew ?_ | refine blk_alloc ?_ _)); exact BK103.out⟩
   have n1_ : Aside0 (Below w.heap.size w (((((w14.setCell ⟨gb103, 0, none⟩ (.string ((rd_T53 l0 x7_1).f0))).setCell ⟨gb103, 1, none⟩ (.int .i64 ((rd_T53 l0 x7_1).f1.f0))).setCell ⟨gb103, 2, none⟩ (.string ((rd_T53 l0 x7_1).f1.f1))).setCell ⟨gb103, 3, none⟩ (.int .i64 ((rd_T53 l0 x7_1).f1.f2))).setCell ⟨gb103, 4, none⟩ (.bool ((rd_T53 l0 x7_1).f1.f3)))) := ⟨by repeat (first | (with_reducible first | exact HB.out | apply below_alloc | apply pw_below_drewN | apply below_drew1 | refine below_set ?_ GE103.out) | exact HB.out)⟩
   (try clear BK103)
   (try clear HB)
   generalize (((((w14.setCell ⟨gb103, 0, none⟩ (.string ((rd_T53 l0 x7_1).f0))).setCell ⟨gb103, 1, none⟩ (.int .i64 ((rd_T53 l0 x7_1).f1.f0))).setCell ⟨gb103, 2, none⟩ (.string ((rd_T53 l0 x7_1).f1.f1))).setCell ⟨gb103, 3, none⟩ (.int .i64 ((rd_T53 l0 x7_1).f1.f2))).setCell ⟨gb103, 4, none⟩ (.bool ((rd_T53 l0 x7_1).f1.f3))) = w16 at n0_ n1_ ⊢
   have BK103 := n0_
   have HB := n1_
   clear n0_ n1_
   replace BK103 := Aside0.mk (blk_drew BK103.out)
   replace HB := Aside0.mk (below_drew1 HB.out)
   have p106 : 0 ≤ ((ji10) : Int) := of_decide_eq_true q5y5
   have q106 : (ji10) < (l0.length : Int) := of_decide_eq_true q5y5
   obtain ⟨ad106, e106, hx106_0, hx106_1, hx106_2, hx106_3, hx106_4⟩ := at_T53 HR0.out (ji10) p106 q106
   have hw106_4 := hx106_4
   have hw106_3 := hx106_3
   have hw106_2 := hx106_2
   have hw106_1 := hx106_1
   have hw106_0 := hx106_0
   obtain rfl : ad102 = ad106 := (by injection e106)
   replace hx106_0 := (HB.out.cell (World.block_lt_of_cell? w _ hx106_0)).trans hx106_0
   replace hx106_1 := (HB.out.cell (World.block_lt_of_cell? w _ hx106_1)).trans hx106_1
   replace hx106_2 := (HB.out.cell (World.block_lt_of_cell? w _ hx106_2)).trans hx106_2
   replace hx106_3 := (HB.out.cell (World.block_lt_of_cell? w _ hx106_3)).trans hx106_3
   replace hx106_4 := (HB.out.cell (World.block_lt_of_cell? w _ hx106_4)).trans hx106_4
   replace p106 := eq_true p106
   replace q106 := eq_true q106
   as_aux_lemma =>
    refine start_ (n := 25) (S := fun w' => w'.cell? ⟨gb103, 0, none⟩ = some (.string ((rd_T53 l0 x7_1).f0)) ∧ w'.cell? ⟨gb103, 1, none⟩ = some (.int .i64 ((rd_T53 l0 x7_1).f1.f0)) ∧ w'.cell? ⟨gb103, 2, none⟩ = some (.string ((rd_T53 l0 x7_1).f1.f1)) ∧ w'.cell? ⟨gb103, 3, none⟩ = some (.int .i64 ((rd_T53 l0 x7_1).f1.f2)) ∧ w'.cell? ⟨gb103, 4, none⟩ = some (.bool ((rd_T53 l0 x7_1).f1.f3)) ∧ w'.cell? (ad102.add (((ji10)).toNat * 5)) = some (.string ((rd_T53 l0 (ji10)).f0)) ∧ w'.cell? ⟨(ad102.add (((ji10)).toNat * 5)).block, (ad102.add (((ji10)).toNat * 5)).off + 1, none⟩ = some (.int .i64 ((rd_T53 l0 (ji10)).f1.f0)) ∧ w'.cell? ⟨(ad102.add (((ji10)).toNat * 5)).block, (ad102.add (((ji10)).toNat * 5)).off + 2, none⟩ = some (.string ((rd_T53 l0 (ji10)).f1.f1)) ∧ w'.cell? ⟨(ad102.add (((ji10)).toNat * 5)).block, (ad102.add (((ji10)).toNat * 5)).off + 3, none⟩ = some (.int .i64 ((rd_T53 l0 (ji10)).f1.f2)) ∧ w'.cell? ⟨(ad102.add (((ji10)).toNat * 5)).block, (ad102.add (((ji10)).toNat * 5)).off + 4, none⟩ = some (.bool ((rd_T53 l0 (ji10)).f1.f3))) (ds := []) #[false, false, false, false, false, false, false, false, false, false, false, false, false, false, false, false, false, false, false, false, false, false, false, false, false] (by kernel_rfl) rfl rfl ⟨q5k BK103.out 0, q5k BK103.out 1, q5k BK103.out 2, q5k BK103.out 3, q5k BK103.out 4, (q5h HB.out hw106_0:), (q5h HB.out hw106_1:), (q5h HB.out hw106_2:), (q5h HB.out hw106_3:), (q5h HB.out hw106_4:)⟩ (fun hHeld => ?_); refine with_tabW span_mayAttrs.tab4 span_mayAttrs.bits4 (fun HT_ HW_ => ?_)
    generalize w16.drew = w17 at BK103 HB hx106_0 hx106_1 hx106_2 hx106_3 hx106_4 hHeld ⊢
    refine q5p (i := 0) (N := some 12) (q5m 25 1) HT_.out ?_
    refine take_ (i := 1) (N := some 13) (v := ?_) (a' := ?_) (q5m 25 3) rfl rfl (take_ofW HT_.out HW_.out (by kernel_rfl)) (fun _ _ _ h => h) (Or.inl ⟨by rfl, ?_⟩) hHeld ?_ ?_; rotate_left; (rintro w' ⟨s0, s1, s2, s3, s4, s5, s6, s7, s8, s9⟩; go_simp; with_reducible rfl); rotate_left; (simp only [Act.put, q5a, q5b, q5c, i64_w, i32_w]; rfl)
    refine one_ (i := 2) (N := some 14) (q5m 25 7) rfl rfl (one_of HT_.out (by kernel_rfl)) (by decide) (fun K hK => ?_)
    refine goes_ Tryd.func56 (by kernel_rfl) rfl #[.string ((rd_T53 l0 x7_1).f0)] (by rfl) rfl rfl q5y3 ?_
    with_reducible refine (span_mayName.calls ((rd_T53 l0 x7_1).f0) true _ A5.out q5y0).mono ?_
    rintro e w18 ⟨rfl, hb⟩
    refine ⟨_, rfl, ?_⟩
    replace BK103 := Aside0.mk (blk_below q5y4 hb)
    replace HB := Aside0.mk (below_step q5y2 hb)
    (try clear hb)
    (try clear hb2)
    (try clear hk)
    (try clear hi)
    refine hK.out _ _ ⟨q5k BK103.out 0, q5k BK103.out 1, q5k BK103.out 2, q5k BK103.out 3, q5k BK103.out 4, (q5h HB.out hw106_0:), (q5h HB.out hw106_1:), (q5h HB.out hw106_2:), (q5h HB.out hw106_3:), (q5h HB.out hw106_4:)⟩ (fun hHeld => ?_)
    clear hK K
    refine norm_ (a' := ?_) ?_ ?_
    rotate_left
    ·show Act.put _ (some 14) _ = _
     simp only [Act.put, q5a, q5b, q5c, i64_w, i32_w]
     rfl
    refine q5p (i := 3) (N := some 15) (q5m 25 15) HT_.out ?_
    refine q5p (i := 4) (N := some 16) (q5m 25 31) HT_.out ?_
    refine q5p (i := 5) (N := some 17) (q5m 25 63) HT_.out ?_
    refine take_ (i := 6) (N := some 18) (v := ?_) (a' := ?_) (q5m 25 127) rfl rfl (take_ofW HT_.out HW_.out (by kernel_rfl)) (fun _ _ _ h => h) (Or.inl ⟨by rfl, ?_⟩) hHeld ?_ ?_; rotate_left; (rintro w' ⟨s0, s1, s2, s3, s4, s5, s6, s7, s8, s9⟩; go_simp; with_reducible rfl); rotate_left; (simp only [Act.put, q5a, q5b, q5c, i64_w, i32_w]; rfl)
    refine one_ (i := 7) (N := some 19) (q5m 25 255) rfl rfl (one_of HT_.out (by kernel_rfl)) (by decide) (fun K hK => ?_)
    refine goes_ Tryd.func72 (by kernel_rfl) rfl #[.agg #[.int .i64 ((rd_T53 l0 x7_1).f1.f0), .string ((rd_T53 l0 x7_1).f1.f1), .int .i64 ((rd_T53 l0 x7_1).f1.f2), .bool ((rd_T53 l0 x7_1).f1.f3)]] (by rfl) rfl rfl q5y3 ?_
    with_reducible refine (span_MayValue.calls ((rd_T53 l0 x7_1).f1.f0) ((rd_T53 l0 x7_1).f1.f1) ((rd_T53 l0 x7_1).f1.f2) ((rd_T53 l0 x7_1).f1.f3) true _ A7.out q5y0).mono ?_
    rintro e w19 ⟨rfl, hb⟩
    refine ⟨_, rfl, ?_⟩
    replace BK103 := Aside0.mk (blk_below q5y4 hb)
    replace HB := Aside0.mk (below_step q5y2 hb)
    (try clear hb)
    (try clear hb2)
    (try clear hk)
    (try clear hi)
    refine hK.out _ _ ⟨q5k BK103.out 0, q5k BK103.out 1, q5k BK103.out 2, q5k BK103.out 3, q5k BK103.out 4, (q5h HB.out hw106_0:), (q5h HB.out hw106_1:), (q5h HB.out hw106_2:), (q5h HB.out hw106_3:), (q5h HB.out hw106_4:)⟩ (fun hHeld => ?_)
    clear hK K
    refine norm_ (a' := ?_) ?_ ?_
    rotate_left
    ·show Act.put _ (some 19) _ = _
     simp only [Act.put, q5a, q5b, q5c, i64_w, i32_w]
     rfl
    refine q5p (i := 8) (N := some 20) (q5m 25 511) HT_.out ?_
    refine q5p (i := 9) (N := some 21) (q5m 25 1023) HT_.out ?_
    refine q5p (i := 10) (N := some 22) (q5m 25 2047) HT_.out ?_
    refine q5p (i := 11) (N := some 23) (q5m 25 4095) HT_.out ?_
    refine q5p (i := 12) (N := some 24) (q5m 25 8191) HT_.out ?_
    refine q5p (i := 13) (N := some 25) (q5m 25 16383) HT_.out ?_
    refine q5p (i := 14) (N := some 26) (q5m 25 32767) HT_.out ?_
    refine q5p (i := 15) (N := some 27) (q5m 25 65535) HT_.out ?_
    refine q5p (i := 16) (N := some 28) (q5m 25 131071) HT_.out ?_
    refine q5p (i := 17) (N := some 29) (q5m 25 262143) HT_.out ?_
    refine q5p (i := 18) (N := some 30) (q5m 25 524287) HT_.out ?_
    refine q5p (i := 20) (N := some 32) (q5m 25 1572863) HT_.out ?_
    refine take_ (i := 19) (N := some 31) (v := ?_) (a' := ?_) (q5m 25 2097151) rfl rfl (take_ofW HT_.out HW_.out (by kernel_rfl)) (fun _ _ _ h => h) (Or.inl ⟨by rfl, ?_⟩) hHeld ?_ ?_; rotate_left; (rintro w' ⟨s0, s1, s2, s3, s4, s5, s6, s7, s8, s9⟩; go_simp; with_reducible rfl); rotate_left; (simp only [Act.put, q5a, q5b, q5c, i64_w, i32_w]; rfl)
    refine take_ (i := 21) (N := some 33) (v := ?_) (a' := ?_) (q5m 25 4194303) rfl rfl (take_ofW HT_.out HW_.out (by kernel_rfl)) (fun _ _ _ h => h) (Or.inl ⟨by rfl, ?_⟩) hHeld ?_ ?_; rotate_left; (rintro w' ⟨s0, s1, s2, s3, s4, s5, s6, s7, s8, s9⟩; go_simp; with_reducible rfl); rotate_left; (simp only [Act.put, q5a, q5b, q5c, i64_w, i32_w]; rfl)
    refine q5p (i := 22) (N := some 34) (q5m 25 8388607) HT_.out ?_
    refine q5p (i := 23) (N := some 35) (q5m 25 16777215) HT_.out ?_
    refine q5p (i := 24) (N := some 36) (q5m 25 33554431) HT_.out ?_
    refine done_ (done_of HT_.out (by kernel_rfl)) ?_
    try go_wp2
    go_roundg k1
    case measure => have := HK1.out; omega
    case rel => exact ⟨(wrap64 (x7_1 + 1)), (by first | rfl | (simp; done) | (simp [*]; done)), H', ⟨by have := HK1.out; omega⟩, ⟨by repeat (first | (with_reducible first | exact HB.out | apply below_alloc | apply pw_below_drewN | apply below_drew1 | refine below_set ?_ GE103.out) | exact HB.out)⟩⟩
end Go.Proofs.YtkgpnfjmahjlcaaDoor.PAll
