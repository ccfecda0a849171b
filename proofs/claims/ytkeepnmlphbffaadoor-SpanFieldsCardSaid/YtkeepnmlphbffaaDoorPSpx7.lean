-- Written by a program: the kit's print.py, driven for several laws at once. Not trusted: Lean checks it.
import Derived.Test.YtkeepnmlphbffaaDoorPSpx0
import Derived.Test.YtkeepnmlphbffaaDoorPSpx5
import Derived.Test.YtkeepnmlphbffaaDoorPSpx6
import Derived.Test.YtkeepnmlphbffaaDoorExtRight
import Derived.Test.YtkeepnmlphbffaaDoorExtSpan
namespace Go.Proofs.YtkeepnmlphbffaaDoor.PSp
open Go.Proofs.YtkeepnmlphbffaaDoor.Text
open Go.RowKit Go.Proofs.YtkeepnmlphbffaaDoorW.PrintWords Go.Proofs.YtkeepnmlphbffaaDoorW.PrintLast Go.Proofs.YtkeepnmlphbffaaDoorW.PrintMore
attribute [local go_sem] max2_int min2_int max_two min_two max_three min_three max_four min_four   -- for this text's walks alone
set_option linter.unusedVariables false
set_option linter.unusedSimpArgs false

/-! ### span_May: function 15 -/
def q7m (n m : Nat) : Array Bool := ((List.range n).map (Nat.testBit m)).toArray
theorem q7a {α : Type} (xs : List α) (i : Nat) (x : α) : xs.toArray.setIfInBounds i x = (xs.set i x).toArray := List.setIfInBounds_toArray ..
theorem q7b {α : Type} (x y : α) (xs : List α) : (x :: xs).set 0 y = y :: xs := List.set_cons_zero ..
theorem q7c {α : Type} (x y : α) (xs : List α) (n : Nat) : (x :: xs).set (n + 1) y = x :: xs.set n y := List.set_cons_succ ..
theorem q7h {w w' : World} {p : Addr} {v : Value} (h : Below w.heap.size w w') (x : w.cell? p = some v) : w'.cell? p = some v := (h.cell (World.block_lt_of_cell? w _ x)).trans x
theorem q7p {P : Program} {md : Region.Mode} {ops : Array Oper} {Q : Exit → Act → World → Prop} {S : World → Prop} {ds : List Nat} {T : Bool × List (List Nat × List Nat)} {i : Nat} {N : Option Tmp} {oi : Oper} {v : Value} {fuel : Nat} {l : Array Bool} {a : Act} {w : World} (l' : Array Bool) (hT : rtab md ops = T) {a' : Act}
    (h : wpAnyLast P md ops Q S ds fuel l' a' w) (hi : ops[i]? = some oi := by rfl) (hN : oi.dst = N := by rfl) (hc : anyT T l.toList l'.toList i = true := by kernel_rfl) (hQ : ∀ c a w, Q (.panic c) (a.put oi.dst v) w → Q (.panic c) a w := by exact fun _ _ _ h => h)
    (hw : Region.wanted oi (yielded ops a.tmps) = true := by rfl) (hy : ∀ w', (execOp a.eval oi).run P w' = .ok (.value v) w' := by intro w'; go_simp; with_reducible rfl) (ha : a.put N v = a' := by simp only [Act.put, q7a, q7b, q7c, i64_w, i32_w]; rfl) :
    wpAnyLast P md ops Q S ds (fuel + 1) l a w := pure_ l' hi hN (any_of hT hc) hQ (Or.inl ⟨hw, hy⟩) ha h
theorem q7u {P : Program} {md : Region.Mode} {ops : Array Oper} {Q : Exit → Act → World → Prop} {S : World → Prop} {ds : List Nat} {T : Bool × List (List Nat × List Nat)} {i : Nat} {N : Option Tmp} {oi : Oper} {fuel : Nat} {l : Array Bool} {a : Act} {w : World} (l' : Array Bool) (hT : rtab md ops = T) {a' : Act}
    (h : wpAnyLast P md ops Q S ds fuel l' a' w) (hi : ops[i]? = some oi := by rfl) (hN : oi.dst = N := by rfl) (hc : anyT T l.toList l'.toList i = true := by kernel_rfl) (hQ : ∀ c a w, Q (.panic c) (a.put oi.dst undef) w → Q (.panic c) a w := by exact fun _ _ _ h => h)
    (hw : Region.wanted oi (yielded ops a.tmps) = false := by rfl) (ha : a.put N undef = a' := by simp only [Act.put, q7a, q7b, q7c, i64_w, i32_w]; rfl) :
    wpAnyLast P md ops Q S ds (fuel + 1) l a w := pure_ l' hi hN (any_of hT hc) hQ (Or.inr ⟨hw, rfl⟩) ha h
theorem q7k {w : World} {g : Nat} {cs : Array Value} {t : TypeId} (h : w.heap[g]? = some (.cells cs t (0, 0))) (i : Nat) {v : Value} (e : cs[i]? = some v := by rfl) : w.cell? ⟨g, i, none⟩ = some v := (blk_cell h i).trans e
theorem q7y0 {P : Prop} (h : P := by first | (with_reducible exact HTab_.out) | (with_reducible exact tabs_below HTab_.out HB.out) | exact tabs_below HTab_.out (by repeat (first | (with_reducible first | exact HB.out | apply below_alloc | apply pw_below_drewN | apply below_drew1 | refine below_set ?_ (Aside0.out (by assumption))) | exact HB.out))) : P := h
theorem q7y1 {P : Prop} (h : P := by repeat (first | (with_reducible first | exact HB.out | apply below_alloc | apply pw_below_drewN | apply below_drew1 | refine below_set ?_ GE107.out) | exact HB.out)) : P := h
theorem q7y2 {P : Prop} (h : P := by (try simp only [List.map_toArray, List.map_cons, List.map_nil]); first | done | rfl | (simp only [List.length_drop, List.length_take]; rfl)) : P := h
theorem q7y3 {P : Prop} (h : P := by (with_reducible repeat (first | refine blk_drewN ?_ _ | refine blk_drew ?_ | refine blk_alloc ?_ _)); exact BK107.out) : P := h
theorem q7y4 {P : Prop} (h : P := by repeat (first | (with_reducible first | exact HB.out | apply below_alloc | apply pw_below_drewN | apply below_drew1) | exact HB.out)) : P := h

def span_May.j0 : Nat → Bool → Int → Int → Int → ByteArray → ByteArray → Int → Int → Int → List (S43) → List (S59) → List (S62) → Option (Bool)
 | 0, _, _, _, _, _, _, _, _, _, _, _, _ => none
 | k + 1, x3, x108000, x108001, x108002, x108003, x108004, x108005, x108006, x108007, x108008, x108009, x108010 => (span_mayTime.f x108005).bind fun t110 => (if t110 = true then ((span_mayTime.f x108006).bind fun t111 => (if t111 = true then (if x108007 ≥ 0 then (if x3 = true then (if x108007 ≤ 2 then ((span_mayAttrs.f k x108008).bind fun t112 => (if t112 = true then ((span_mayEvents.f x108009).bind fun t113 => (if t113 = true then ((span_mayLinks.f x108010).bind fun t114 => (some t114)) else (some false))) else (some false))) else (some false)) else (some false)) else (if x3 = true then (some false) else (some false))) else (if x3 = true then (some false) else (some false)))) else (if x3 = true then (some false) else (some false)))
def span_May.f (k : Nat) (a0_0 : Int) (a0_1 : Int) (a0_2 : Int) (a0_3 : ByteArray) (a0_4 : ByteArray) (a0_5 : Int) (a0_6 : Int) (a0_7 : Int) (l0_8 : List (S43)) (l0_9 : List (S59)) (l0_10 : List (S62)) : Option (Bool) := if a0_0 = 0 then (span_May.j0 k false a0_0 a0_1 a0_2 a0_3 a0_4 a0_5 a0_6 a0_7 l0_8 l0_9 l0_10) else (if a0_1 = 0 then (span_May.j0 k false a0_0 a0_1 a0_2 a0_3 a0_4 a0_5 a0_6 a0_7 l0_8 l0_9 l0_10) else (if a0_2 = a0_1 then (span_May.j0 k false a0_0 a0_1 a0_2 a0_3 a0_4 a0_5 a0_6 a0_7 l0_8 l0_9 l0_10) else ((span_mayName.f a0_3).bind fun t108 => (if t108 = true then ((span_mayName.f a0_4).bind fun t109 => (span_May.j0 k t109 a0_0 a0_1 a0_2 a0_3 a0_4 a0_5 a0_6 a0_7 l0_8 l0_9 l0_10)) else (span_May.j0 k false a0_0 a0_1 a0_2 a0_3 a0_4 a0_5 a0_6 a0_7 l0_8 l0_9 l0_10)))))
theorem span_May.mono_l : ∀ k, (∀ y0 y1 y2 y3 y4 y5 y6 y7 y8 y9 y10 y11, LeO (span_May.j0 k y0 y1 y2 y3 y4 y5 y6 y7 y8 y9 y10 y11) (span_May.j0 (k + 1) y0 y1 y2 y3 y4 y5 y6 y7 y8 y9 y10 y11))
 | 0 => fun _ _ _ _ _ _ _ _ _ _ _ _ r h => by simp [span_May.j0] at h
 | k + 1 => by
  have ih0 := span_May.mono_l k
  ·intro y0 y1 y2 y3 y4 y5 y6 y7 y8 y9 y10 y11
   unfold span_May.j0
   repeat' first
   | (with_reducible exact ih0 _ _ _ _ _ _ _ _ _ _ _ _)
   | (with_reducible exact span_mayAttrs.mono _ _)
   | (with_reducible exact LeO.refl _)
   | (with_reducible exact LeO.none _)
   | (with_reducible refine LeO.ite ?_ ?_)
   | (with_reducible refine LeO.bind ?_ (fun _ => ?_))
   | exact ih0 _ _ _ _ _ _ _ _ _ _ _ _
   | exact span_mayAttrs.mono _ _
   | exact LeO.none _
   | refine LeO.ite ?_ ?_
   | refine LeO.bind ?_ (fun _ => ?_)
theorem span_May.mono : ∀ a0 a1 a2 a3 a4 a5 a6 a7 a8 a9 a10 k, LeO (span_May.f k a0 a1 a2 a3 a4 a5 a6 a7 a8 a9 a10) (span_May.f (k + 1) a0 a1 a2 a3 a4 a5 a6 a7 a8 a9 a10) := by
 intro a0 a1 a2 a3 a4 a5 a6 a7 a8 a9 a10 k
 have ih0 := span_May.mono_l k
 unfold span_May.f
 repeat' first
   | (with_reducible exact ih0 _ _ _ _ _ _ _ _ _ _ _ _)
   | (with_reducible exact span_mayAttrs.mono _ _)
   | (with_reducible exact LeO.refl _)
   | (with_reducible exact LeO.none _)
   | (with_reducible refine LeO.ite ?_ ?_)
   | (with_reducible refine LeO.bind ?_ (fun _ => ?_))
   | exact ih0 _ _ _ _ _ _ _ _ _ _ _ _
   | exact span_mayAttrs.mono _ _
   | exact LeO.none _
   | refine LeO.ite ?_ ?_
   | refine LeO.bind ?_ (fun _ => ?_)
set_option maxHeartbeats 8000000 in
set_option maxRecDepth 100000 in
theorem span_May.calls (k : Nat) (a0_0 : Int) (a0_1 : Int) (a0_2 : Int) (a0_3 : ByteArray) (a0_4 : ByteArray) (a0_5 : Int) (a0_6 : Int) (a0_7 : Int) (A0_8 : Option Addr) (c0_8 : Nat) (l0_8 : List (S43)) (A0_9 : Option Addr) (c0_9 : Nat) (l0_9 : List (S59)) (A0_10 : Option Addr) (c0_10 : Nat) (l0_10 : List (S62)) (r : Bool) (w : World) (hr0_8 : Kd.C k43 w A0_8 l0_8.length l0_8) (hc0_8 : l0_8.length ≤ c0_8) (hr0_9 : Kd.C k59 w A0_9 l0_9.length l0_9) (hc0_9 : l0_9.length ≤ c0_9) (hr0_10 : Kd.C k62 w A0_10 l0_10.length l0_10) (hc0_10 : l0_10.length ≤ c0_10) (h : span_May.f k a0_0 a0_1 a0_2 a0_3 a0_4 a0_5 a0_6 a0_7 l0_8 l0_9 l0_10 = some r) (hT_ : Tabs w) :
  Calls Tryd.prog 15 #[.agg #[.int .u64 a0_0, .int .u64 a0_1, .int .u64 a0_2, .string a0_3, .string a0_4, .int .i64 a0_5, .int .i64 a0_6, .int .i64 a0_7, .slice A0_8 l0_8.length c0_8, .slice A0_9 l0_9.length c0_9, .slice A0_10 l0_10.length c0_10]] w fun e w' => e = .returned (.bool r) ∧ Below w.heap.size w w' := by
 have HTab_ := Aside0.mk hT_
 clear hT_
 have hu36 := Tryd.underlying36
 have HR0_8 := Aside0.mk hr0_8
 have HC0_8 := Aside0.mk hc0_8
 clear hr0_8 hc0_8
 have HR0_9 := Aside0.mk hr0_9
 have HC0_9 := Aside0.mk hc0_9
 clear hr0_9 hc0_9
 have HR0_10 := Aside0.mk hr0_10
 have HC0_10 := Aside0.mk hc0_10
 clear hr0_10 hc0_10
 have HB := Aside0.mk (Below.refl w.heap.size w)
 have H : (if a0_0 = 0 then (span_May.j0 k false a0_0 a0_1 a0_2 a0_3 a0_4 a0_5 a0_6 a0_7 l0_8 l0_9 l0_10) else (if a0_1 = 0 then (span_May.j0 k false a0_0 a0_1 a0_2 a0_3 a0_4 a0_5 a0_6 a0_7 l0_8 l0_9 l0_10) else (if a0_2 = a0_1 then (span_May.j0 k false a0_0 a0_1 a0_2 a0_3 a0_4 a0_5 a0_6 a0_7 l0_8 l0_9 l0_10) else ((span_mayName.f a0_3).bind fun t108 => (if t108 = true then ((span_mayName.f a0_4).bind fun t109 => (span_May.j0 k t109 a0_0 a0_1 a0_2 a0_3 a0_4 a0_5 a0_6 a0_7 l0_8 l0_9 l0_10)) else (span_May.j0 k false a0_0 a0_1 a0_2 a0_3 a0_4 a0_5 a0_6 a0_7 l0_8 l0_9 l0_10)))))) = some r := h
 clear h
 have HC2 := Aside0.mk H
 clear H
 go_enter Tryd.func15, Tryd.ntmps15
 go_upto_region 1 with (first | ((with_reducible refine gate_dst (N := 1) rfl ?_); refine box_event ?hg (N := 1) ?hd (cs := #[.int .u64 a0_0, .int .u64 a0_1, .int .u64 a0_2, .string a0_3, .string a0_4, .int .i64 a0_5, .int .i64 a0_6, .int .i64 a0_7, .slice A0_8 l0_8.length c0_8, .slice A0_9 l0_9.length c0_9, .slice A0_10 l0_10.length c0_10]) (t := 36) ?hr ?_; (case hd => rfl); (case hg => rfl); (case hr => first | (go_simp; done) | (go_simp; rfl)); intro gb107 hg w3 hbox hb; have n0_ := Aside0.mk (below_step q7y4 hb); have n1_ := Aside0.mk (hbox); have n2_ := Aside0.mk ((by rw [hg]; exact (below_size q7y4) : w.heap.size ≤ gb107)); have n3_ := Aside0.mk ((by rw [hg]; exact (below_size q7y4) : w.heap.size ≤ gb107)); clear HB; have HB := n0_; have BK107 := n1_; have GW107 := n2_; have GE107 := n3_; clear n0_ n1_ n2_ n3_; clear hb hbox hg))
 (try simp only [Act.put, q7a, q7b, q7c])
 go_cut [3] (fun v3 wc => ∃ (kq : Nat) (x3_1 : Bool), v3 = .bool x3_1 ∧ Aside0 (span_May.j0 kq x3_1 a0_0 a0_1 a0_2 a0_3 a0_4 a0_5 a0_6 a0_7 l0_8 l0_9 l0_10 = some r) ∧ Aside0 (kq ≤ k) ∧ Aside0 (wc.heap[gb107]? = some (.cells #[.int .u64 a0_0, .int .u64 a0_1, .int .u64 a0_2, .string a0_3, .string a0_4, .int .i64 a0_5, .int .i64 a0_6, .int .i64 a0_7, (.slice A0_8 l0_8.length c0_8), (.slice A0_9 l0_9.length c0_9), (.slice A0_10 l0_10.length c0_10)] 36 (0, 0))) ∧ Aside0 (Below w.heap.size w wc))
 case first =>
  have H := HC2.out
  clear HC2
  by_cases c4 : a0_0 = 0
  ·rw [if_pos c4] at H
   have c4b0 : (a0_0 == 0) = true := beq_iff_eq.mpr c4
   have c4b1 : (a0_0 != 0) = false := bne_eq_false_iff_eq.mpr c4
   clear c4
   (first | rw [c4b0] | (simp only [i64_w, i32_w]; rw [c4b0]) | skip)
   have H' := Aside0.mk H
   clear H
   have hcz5_0 : w3.cell? ⟨gb107, 0, none⟩ = some (.int .u64 a0_0) := (blk_cell BK107.out 0).trans rfl
   have hcz5_1 : w3.cell? ⟨gb107, 1, none⟩ = some (.int .u64 a0_1) := (blk_cell BK107.out 1).trans rfl
   have hcz5_2 : w3.cell? ⟨gb107, 2, none⟩ = some (.int .u64 a0_2) := (blk_cell BK107.out 2).trans rfl
   have hcz5_3 : w3.cell? ⟨gb107, 3, none⟩ = some (.string a0_3) := (blk_cell BK107.out 3).trans rfl
   have hcz5_4 : w3.cell? ⟨gb107, 4, none⟩ = some (.string a0_4) := (blk_cell BK107.out 4).trans rfl
   have hcz5_5 : w3.cell? ⟨gb107, 5, none⟩ = some (.int .i64 a0_5) := (blk_cell BK107.out 5).trans rfl
   have hcz5_6 : w3.cell? ⟨gb107, 6, none⟩ = some (.int .i64 a0_6) := (blk_cell BK107.out 6).trans rfl
   have hcz5_7 : w3.cell? ⟨gb107, 7, none⟩ = some (.int .i64 a0_7) := (blk_cell BK107.out 7).trans rfl
   have hcz5_8 : w3.cell? ⟨gb107, 8, none⟩ = some (.slice A0_8 l0_8.length c0_8) := (blk_cell BK107.out 8).trans rfl
   have hcz5_9 : w3.cell? ⟨gb107, 9, none⟩ = some (.slice A0_9 l0_9.length c0_9) := (blk_cell BK107.out 9).trans rfl
   have hcz5_10 : w3.cell? ⟨gb107, 10, none⟩ = some (.slice A0_10 l0_10.length c0_10) := (blk_cell BK107.out 10).trans rfl
   have hfz5_0 := blk_frozen BK107.out 0
   have hfz5_1 := blk_frozen BK107.out 1
   have hfz5_2 := blk_frozen BK107.out 2
   have hfz5_3 := blk_frozen BK107.out 3
   have hfz5_4 := blk_frozen BK107.out 4
   have hfz5_5 := blk_frozen BK107.out 5
   have hfz5_6 := blk_frozen BK107.out 6
   have hfz5_7 := blk_frozen BK107.out 7
   have hfz5_8 := blk_frozen BK107.out 8
   have hfz5_9 := blk_frozen BK107.out 9
   have hfz5_10 := blk_frozen BK107.out 10
   go_wp2
   go_meet
   case rel => exact ⟨_, (false), (by first | rfl | (simp; done) | (simp [*]; done)), H', ⟨by first | omega | exact Nat.le_refl _⟩, ⟨by (with_reducible repeat (first | refine blk_drewN ?_ _ | refine blk_drew ?_ | refine blk_alloc ?_ _)); exact BK107.out⟩, ⟨by repeat (first | (with_reducible first | exact HB.out | apply below_alloc | apply pw_below_drewN | apply below_drew1 | refine below_set ?_ GE107.out) | exact HB.out)⟩⟩
  rw [if_neg c4] at H
  have c4b0 : (a0_0 == 0) = false := beq_eq_false_iff_ne.mpr c4
  have c4b1 : (a0_0 != 0) = true := bne_iff_ne.mpr c4
  (first | rw [c4b0] | (simp only [i64_w, i32_w]; rw [c4b0]) | skip)
  by_cases c6 : a0_1 = 0
  ·rw [if_pos c6] at H
   have c6b0 : (a0_1 == 0) = true := beq_iff_eq.mpr c6
   have c6b1 : (a0_1 != 0) = false := bne_eq_false_iff_eq.mpr c6
   clear c6
   have H' := Aside0.mk H
   clear H
   have hcz7_0 : w3.cell? ⟨gb107, 0, none⟩ = some (.int .u64 a0_0) := (blk_cell BK107.out 0).trans rfl
   have hcz7_1 : w3.cell? ⟨gb107, 1, none⟩ = some (.int .u64 a0_1) := (blk_cell BK107.out 1).trans rfl
   have hcz7_2 : w3.cell? ⟨gb107, 2, none⟩ = some (.int .u64 a0_2) := (blk_cell BK107.out 2).trans rfl
   have hcz7_3 : w3.cell? ⟨gb107, 3, none⟩ = some (.string a0_3) := (blk_cell BK107.out 3).trans rfl
   have hcz7_4 : w3.cell? ⟨gb107, 4, none⟩ = some (.string a0_4) := (blk_cell BK107.out 4).trans rfl
   have hcz7_5 : w3.cell? ⟨gb107, 5, none⟩ = some (.int .i64 a0_5) := (blk_cell BK107.out 5).trans rfl
   have hcz7_6 : w3.cell? ⟨gb107, 6, none⟩ = some (.int .i64 a0_6) := (blk_cell BK107.out 6).trans rfl
   have hcz7_7 : w3.cell? ⟨gb107, 7, none⟩ = some (.int .i64 a0_7) := (blk_cell BK107.out 7).trans rfl
   have hcz7_8 : w3.cell? ⟨gb107, 8, none⟩ = some (.slice A0_8 l0_8.length c0_8) := (blk_cell BK107.out 8).trans rfl
   have hcz7_9 : w3.cell? ⟨gb107, 9, none⟩ = some (.slice A0_9 l0_9.length c0_9) := (blk_cell BK107.out 9).trans rfl
   have hcz7_10 : w3.cell? ⟨gb107, 10, none⟩ = some (.slice A0_10 l0_10.length c0_10) := (blk_cell BK107.out 10).trans rfl
   have hfz7_0 := blk_frozen BK107.out 0
   have hfz7_1 := blk_frozen BK107.out 1
   have hfz7_2 := blk_frozen BK107.out 2
   have hfz7_3 := blk_frozen BK107.out 3
   have hfz7_4 := blk_frozen BK107.out 4
   have hfz7_5 := blk_frozen BK107.out 5
   have hfz7_6 := blk_frozen BK107.out 6
   have hfz7_7 := blk_frozen BK107.out 7
   have hfz7_8 := blk_frozen BK107.out 8
   have hfz7_9 := blk_frozen BK107.out 9
   have hfz7_10 := blk_frozen BK107.out 10
   go_wp2
   go_meet
   case rel => exact ⟨_, (false), (by first | rfl | (simp; done) | (simp [*]; done)), H', ⟨by first | omega | exact Nat.le_refl _⟩, ⟨by (with_reducible repeat (first | refine blk_drewN ?_ _ | refine blk_drew ?_ | refine blk_alloc ?_ _)); exact BK107.out⟩, ⟨by repeat (first | (with_reducible first | exact HB.out | apply below_alloc | apply pw_below_drewN | apply below_drew1 | refine below_set ?_ GE107.out) | exact HB.out)⟩⟩
  rw [if_neg c6] at H
  have c6b0 : (a0_1 == 0) = false := beq_eq_false_iff_ne.mpr c6
  have c6b1 : (a0_1 != 0) = true := bne_iff_ne.mpr c6
  by_cases c8 : a0_2 = a0_1
  ·rw [if_pos c8] at H
   have c8b0 : (a0_2 == a0_1) = true := beq_iff_eq.mpr c8
   have c8b1 : (a0_2 != a0_1) = false := bne_eq_false_iff_eq.mpr c8
   clear c8
   have H' := Aside0.mk H
   clear H
   have hcz9_0 : w3.cell? ⟨gb107, 0, none⟩ = some (.int .u64 a0_0) := (blk_cell BK107.out 0).trans rfl
   have hcz9_1 : w3.cell? ⟨gb107, 1, none⟩ = some (.int .u64 a0_1) := (blk_cell BK107.out 1).trans rfl
   have hcz9_2 : w3.cell? ⟨gb107, 2, none⟩ = some (.int .u64 a0_2) := (blk_cell BK107.out 2).trans rfl
   have hcz9_3 : w3.cell? ⟨gb107, 3, none⟩ = some (.string a0_3) := (blk_cell BK107.out 3).trans rfl
   have hcz9_4 : w3.cell? ⟨gb107, 4, none⟩ = some (.string a0_4) := (blk_cell BK107.out 4).trans rfl
   have hcz9_5 : w3.cell? ⟨gb107, 5, none⟩ = some (.int .i64 a0_5) := (blk_cell BK107.out 5).trans rfl
   have hcz9_6 : w3.cell? ⟨gb107, 6, none⟩ = some (.int .i64 a0_6) := (blk_cell BK107.out 6).trans rfl
   have hcz9_7 : w3.cell? ⟨gb107, 7, none⟩ = some (.int .i64 a0_7) := (blk_cell BK107.out 7).trans rfl
   have hcz9_8 : w3.cell? ⟨gb107, 8, none⟩ = some (.slice A0_8 l0_8.length c0_8) := (blk_cell BK107.out 8).trans rfl
   have hcz9_9 : w3.cell? ⟨gb107, 9, none⟩ = some (.slice A0_9 l0_9.length c0_9) := (blk_cell BK107.out 9).trans rfl
   have hcz9_10 : w3.cell? ⟨gb107, 10, none⟩ = some (.slice A0_10 l0_10.length c0_10) := (blk_cell BK107.out 10).trans rfl
   have hfz9_0 := blk_frozen BK107.out 0
   have hfz9_1 := blk_frozen BK107.out 1
   have hfz9_2 := blk_frozen BK107.out 2
   have hfz9_3 := blk_frozen BK107.out 3
   have hfz9_4 := blk_frozen BK107.out 4
   have hfz9_5 := blk_frozen BK107.out 5
   have hfz9_6 := blk_frozen BK107.out 6
   have hfz9_7 := blk_frozen BK107.out 7
   have hfz9_8 := blk_frozen BK107.out 8
   have hfz9_9 := blk_frozen BK107.out 9
   have hfz9_10 := blk_frozen BK107.out 10
   go_wp2
   go_meet
   case rel => exact ⟨_, (false), (by first | rfl | (simp; done) | (simp [*]; done)), H', ⟨by first | omega | exact Nat.le_refl _⟩, ⟨by (with_reducible repeat (first | refine blk_drewN ?_ _ | refine blk_drew ?_ | refine blk_alloc ?_ _)); exact BK107.out⟩, ⟨by repeat (first | (with_reducible first | exact HB.out | apply below_alloc | apply pw_below_drewN | apply below_drew1 | refine below_set ?_ GE107.out) | exact HB.out)⟩⟩
  rw [if_neg c8] at H
  have c8b0 : (a0_2 == a0_1) = false := beq_eq_false_iff_ne.mpr c8
  have c8b1 : (a0_2 != a0_1) = true := bne_iff_ne.mpr c8
  replace H := Option.bind_eq_some_iff.mp H
  obtain ⟨t108, A100, H⟩ := H
  replace H : (if t108 = true then ((span_mayName.f a0_4).bind fun t109 => (span_May.j0 k t109 a0_0 a0_1 a0_2 a0_3 a0_4 a0_5 a0_6 a0_7 l0_8 l0_9 l0_10)) else (span_May.j0 k false a0_0 a0_1 a0_2 a0_3 a0_4 a0_5 a0_6 a0_7 l0_8 l0_9 l0_10)) = some r := H
  have A10 := Aside0.mk A100
  clear A100
  by_cases c11 : t108 = true
  rotate_left
  ·replace c11 := Bool.eq_false_iff.mpr c11
   subst c11
   have H1 : (span_May.j0 k false a0_0 a0_1 a0_2 a0_3 a0_4 a0_5 a0_6 a0_7 l0_8 l0_9 l0_10) = some r := by rw [if_neg (show ¬ (false = true) by decide)] at H; exact H
   clear H
   have H := H1
   clear H1
   have H' := Aside0.mk H
   clear H
   have hcz17_0 : w3.cell? ⟨gb107, 0, none⟩ = some (.int .u64 a0_0) := (blk_cell BK107.out 0).trans rfl
   have hcz17_1 : w3.cell? ⟨gb107, 1, none⟩ = some (.int .u64 a0_1) := (blk_cell BK107.out 1).trans rfl
   have hcz17_2 : w3.cell? ⟨gb107, 2, none⟩ = some (.int .u64 a0_2) := (blk_cell BK107.out 2).trans rfl
   have hcz17_3 : w3.cell? ⟨gb107, 3, none⟩ = some (.string a0_3) := (blk_cell BK107.out 3).trans rfl
   have hcz17_4 : w3.cell? ⟨gb107, 4, none⟩ = some (.string a0_4) := (blk_cell BK107.out 4).trans rfl
   have hcz17_5 : w3.cell? ⟨gb107, 5, none⟩ = some (.int .i64 a0_5) := (blk_cell BK107.out 5).trans rfl
   have hcz17_6 : w3.cell? ⟨gb107, 6, none⟩ = some (.int .i64 a0_6) := (blk_cell BK107.out 6).trans rfl
   have hcz17_7 : w3.cell? ⟨gb107, 7, none⟩ = some (.int .i64 a0_7) := (blk_cell BK107.out 7).trans rfl
   have hcz17_8 : w3.cell? ⟨gb107, 8, none⟩ = some (.slice A0_8 l0_8.length c0_8) := (blk_cell BK107.out 8).trans rfl
   have hcz17_9 : w3.cell? ⟨gb107, 9, none⟩ = some (.slice A0_9 l0_9.length c0_9) := (blk_cell BK107.out 9).trans rfl
   have hcz17_10 : w3.cell? ⟨gb107, 10, none⟩ = some (.slice A0_10 l0_10.length c0_10) := (blk_cell BK107.out 10).trans rfl
   have hfz17_0 := blk_frozen BK107.out 0
   have hfz17_1 := blk_frozen BK107.out 1
   have hfz17_2 := blk_frozen BK107.out 2
   have hfz17_3 := blk_frozen BK107.out 3
   have hfz17_4 := blk_frozen BK107.out 4
   have hfz17_5 := blk_frozen BK107.out 5
   have hfz17_6 := blk_frozen BK107.out 6
   have hfz17_7 := blk_frozen BK107.out 7
   have hfz17_8 := blk_frozen BK107.out 8
   have hfz17_9 := blk_frozen BK107.out 9
   have hfz17_10 := blk_frozen BK107.out 10
   go_wp2_with (first | (go_at_call 30; (with_reducible refine (span_mayName.calls a0_3 false _ A10.out q7y0).mono ?_); rintro e w18 ⟨rfl, hb⟩; have n0_ := Aside0.mk (blk_below (g := gb107) (o := .cells #[.int .u64 a0_0, .int .u64 a0_1, .int .u64 a0_2, .string a0_3, .string a0_4, .int .i64 a0_5, .int .i64 a0_6, .int .i64 a0_7, .slice A0_8 l0_8.length c0_8, .slice A0_9 l0_9.length c0_9, .slice A0_10 l0_10.length c0_10] 36 (0, 0)) q7y3 hb); have n1_ := Aside0.mk (below_step q7y1 hb); clear BK107; clear HB; have BK107 := n0_; have HB := n1_; clear n0_ n1_; (try clear hb); (try clear hb2); (try clear hk); (try clear hi)))
   go_meet
   case rel => exact ⟨_, (false), (by first | rfl | (simp; done) | (simp [*]; done)), H', ⟨by first | omega | exact Nat.le_refl _⟩, ⟨by (with_reducible repeat (first | refine blk_drewN ?_ _ | refine blk_drew ?_ | refine blk_alloc ?_ _)); exact BK107.out⟩, ⟨by repeat (first | (with_reducible first | exact HB.out | apply below_alloc | apply pw_below_drewN | apply below_drew1 | refine below_set ?_ GE107.out) | exact HB.out)⟩⟩
  subst c11
  have H1 : ((span_mayName.f a0_4).bind fun t109 => (span_May.j0 k t109 a0_0 a0_1 a0_2 a0_3 a0_4 a0_5 a0_6 a0_7 l0_8 l0_9 l0_10)) = some r := by rw [if_pos rfl] at H; exact H
  clear H
  have H := H1
  clear H1
  replace H := Option.bind_eq_some_iff.mp H
  obtain ⟨t109, A120, H⟩ := H
  replace H : (span_May.j0 k t109 a0_0 a0_1 a0_2 a0_3 a0_4 a0_5 a0_6 a0_7 l0_8 l0_9 l0_10) = some r := H
  have A12 := Aside0.mk A120
  clear A120
  have H' := Aside0.mk H
  clear H
  have hcz13_0 : w3.cell? ⟨gb107, 0, none⟩ = some (.int .u64 a0_0) := (blk_cell BK107.out 0).trans rfl
  have hcz13_1 : w3.cell? ⟨gb107, 1, none⟩ = some (.int .u64 a0_1) := (blk_cell BK107.out 1).trans rfl
  have hcz13_2 : w3.cell? ⟨gb107, 2, none⟩ = some (.int .u64 a0_2) := (blk_cell BK107.out 2).trans rfl
  have hcz13_3 : w3.cell? ⟨gb107, 3, none⟩ = some (.string a0_3) := (blk_cell BK107.out 3).trans rfl
  have hcz13_4 : w3.cell? ⟨gb107, 4, none⟩ = some (.string a0_4) := (blk_cell BK107.out 4).trans rfl
  have hcz13_5 : w3.cell? ⟨gb107, 5, none⟩ = some (.int .i64 a0_5) := (blk_cell BK107.out 5).trans rfl
  have hcz13_6 : w3.cell? ⟨gb107, 6, none⟩ = some (.int .i64 a0_6) := (blk_cell BK107.out 6).trans rfl
  have hcz13_7 : w3.cell? ⟨gb107, 7, none⟩ = some (.int .i64 a0_7) := (blk_cell BK107.out 7).trans rfl
  have hcz13_8 : w3.cell? ⟨gb107, 8, none⟩ = some (.slice A0_8 l0_8.length c0_8) := (blk_cell BK107.out 8).trans rfl
  have hcz13_9 : w3.cell? ⟨gb107, 9, none⟩ = some (.slice A0_9 l0_9.length c0_9) := (blk_cell BK107.out 9).trans rfl
  have hcz13_10 : w3.cell? ⟨gb107, 10, none⟩ = some (.slice A0_10 l0_10.length c0_10) := (blk_cell BK107.out 10).trans rfl
  have hfz13_0 := blk_frozen BK107.out 0
  have hfz13_1 := blk_frozen BK107.out 1
  have hfz13_2 := blk_frozen BK107.out 2
  have hfz13_3 := blk_frozen BK107.out 3
  have hfz13_4 := blk_frozen BK107.out 4
  have hfz13_5 := blk_frozen BK107.out 5
  have hfz13_6 := blk_frozen BK107.out 6
  have hfz13_7 := blk_frozen BK107.out 7
  have hfz13_8 := blk_frozen BK107.out 8
  have hfz13_9 := blk_frozen BK107.out 9
  have hfz13_10 := blk_frozen BK107.out 10
  go_wp2_with (first | (go_at_call 30; (with_reducible refine (span_mayName.calls a0_3 true _ A10.out q7y0).mono ?_); rintro e w14 ⟨rfl, hb⟩; have n0_ := Aside0.mk (blk_below (g := gb107) (o := .cells #[.int .u64 a0_0, .int .u64 a0_1, .int .u64 a0_2, .string a0_3, .string a0_4, .int .i64 a0_5, .int .i64 a0_6, .int .i64 a0_7, .slice A0_8 l0_8.length c0_8, .slice A0_9 l0_9.length c0_9, .slice A0_10 l0_10.length c0_10] 36 (0, 0)) q7y3 hb); have n1_ := Aside0.mk (below_step q7y1 hb); clear BK107; clear HB; have BK107 := n0_; have HB := n1_; clear n0_ n1_; (try clear hb); (try clear hb2); (try clear hk); (try clear hi); have hcz15_0 : w14.cell? ⟨gb107, 0, none⟩ = some (.int .u64 a0_0) := (blk_cell BK107.out 0).trans rfl; have hcz15_1 : w14.cell? ⟨gb107, 1, none⟩ = some (.int .u64 a0_1) := (blk_cell BK107.out 1).trans rfl; have hcz15_2 : w14.cell? ⟨gb107, 2, none⟩ = some (.int .u64 a0_2) := (blk_cell BK107.out 2).trans rfl; have hcz15_3 : w14.cell? ⟨gb107, 3, none⟩ = some (.string a0_3) := (blk_cell BK107.out 3).trans rfl; have hcz15_4 : w14.cell? ⟨gb107, 4, none⟩ = some (.string a0_4) := (blk_cell BK107.out 4).trans rfl; have hcz15_5 : w14.cell? ⟨gb107, 5, none⟩ = some (.int .i64 a0_5) := (blk_cell BK107.out 5).trans rfl; have hcz15_6 : w14.cell? ⟨gb107, 6, none⟩ = some (.int .i64 a0_6) := (blk_cell BK107.out 6).trans rfl; have hcz15_7 : w14.cell? ⟨gb107, 7, none⟩ = some (.int .i64 a0_7) := (blk_cell BK107.out 7).trans rfl; have hcz15_8 : w14.cell? ⟨gb107, 8, none⟩ = some (.slice A0_8 l0_8.length c0_8) := (blk_cell BK107.out 8).trans rfl; have hcz15_9 : w14.cell? ⟨gb107, 9, none⟩ = some (.slice A0_9 l0_9.length c0_9) := (blk_cell BK107.out 9).trans rfl; have hcz15_10 : w14.cell? ⟨gb107, 10, none⟩ = some (.slice A0_10 l0_10.length c0_10) := (blk_cell BK107.out 10).trans rfl; have hfz15_0 := blk_frozen BK107.out 0; have hfz15_1 := blk_frozen BK107.out 1; have hfz15_2 := blk_frozen BK107.out 2; have hfz15_3 := blk_frozen BK107.out 3; have hfz15_4 := blk_frozen BK107.out 4; have hfz15_5 := blk_frozen BK107.out 5; have hfz15_6 := blk_frozen BK107.out 6; have hfz15_7 := blk_frozen BK107.out 7; have hfz15_8 := blk_frozen BK107.out 8; have hfz15_9 := blk_frozen BK107.out 9; have hfz15_10 := blk_frozen BK107.out 10) | (go_at_call 30; (with_reducible refine (span_mayName.calls a0_4 t109 _ A12.out q7y0).mono ?_); rintro e w16 ⟨rfl, hb⟩; have n0_ := Aside0.mk (blk_below (g := gb107) (o := .cells #[.int .u64 a0_0, .int .u64 a0_1, .int .u64 a0_2, .string a0_3, .string a0_4, .int .i64 a0_5, .int .i64 a0_6, .int .i64 a0_7, .slice A0_8 l0_8.length c0_8, .slice A0_9 l0_9.length c0_9, .slice A0_10 l0_10.length c0_10] 36 (0, 0)) q7y3 hb); have n1_ := Aside0.mk (below_step q7y1 hb); clear BK107; clear HB; have BK107 := n0_; have HB := n1_; clear n0_ n1_; (try clear hb); (try clear hb2); (try clear hk); (try clear hi)))
  go_meet
  case rel => exact ⟨_, (t109), (by first | rfl | (simp; done) | (simp [*]; done)), H', ⟨by first | omega | exact Nat.le_refl _⟩, ⟨by (with_reducible repeat (first | refine blk_drewN ?_ _ | refine blk_drew ?_ | refine blk_alloc ?_ _)); exact BK107.out⟩, ⟨by repeat (first | (with_reducible first | exact HB.out | apply below_alloc | apply pw_below_drewN | apply below_drew1 | refine below_set ?_ GE107.out) | exact HB.out)⟩⟩
 case rest =>
  clear HC2
  try clear c1
  try clear p2
  try clear c4
  try clear c4b0
  try clear c4b1
  try clear c6
  try clear c6b0
  try clear c6b1
  try clear c8
  try clear c8b0
  try clear c8b1
  try clear c11
  try clear c15
  try clear hcz13_0 hcz13_1 hcz13_10 hcz13_2 hcz13_3 hcz13_4 hcz13_5 hcz13_6 hcz13_7 hcz13_8 hcz13_9
  try clear hcz15_0 hcz15_1 hcz15_10 hcz15_2 hcz15_3 hcz15_4 hcz15_5 hcz15_6 hcz15_7 hcz15_8 hcz15_9
  try clear hcz17_0 hcz17_1 hcz17_10 hcz17_2 hcz17_3 hcz17_4 hcz17_5 hcz17_6 hcz17_7 hcz17_8 hcz17_9
  try clear hcz5_0 hcz5_1 hcz5_10 hcz5_2 hcz5_3 hcz5_4 hcz5_5 hcz5_6 hcz5_7 hcz5_8 hcz5_9
  try clear hcz7_0 hcz7_1 hcz7_10 hcz7_2 hcz7_3 hcz7_4 hcz7_5 hcz7_6 hcz7_7 hcz7_8 hcz7_9
  try clear hcz9_0 hcz9_1 hcz9_10 hcz9_2 hcz9_3 hcz9_4 hcz9_5 hcz9_6 hcz9_7 hcz9_8 hcz9_9
  try clear hfz13_0 hfz13_1 hfz13_10 hfz13_2 hfz13_3 hfz13_4 hfz13_5 hfz13_6 hfz13_7 hfz13_8 hfz13_9
  try clear hfz15_0 hfz15_1 hfz15_10 hfz15_2 hfz15_3 hfz15_4 hfz15_5 hfz15_6 hfz15_7 hfz15_8 hfz15_9
  try clear hfz17_0 hfz17_1 hfz17_10 hfz17_2 hfz17_3 hfz17_4 hfz17_5 hfz17_6 hfz17_7 hfz17_8 hfz17_9
  try clear hfz5_0 hfz5_1 hfz5_10 hfz5_2 hfz5_3 hfz5_4 hfz5_5 hfz5_6 hfz5_7 hfz5_8 hfz5_9
  try clear hfz7_0 hfz7_1 hfz7_10 hfz7_2 hfz7_3 hfz7_4 hfz7_5 hfz7_6 hfz7_7 hfz7_8 hfz7_9
  try clear hfz9_0 hfz9_1 hfz9_10 hfz9_2 hfz9_3 hfz9_4 hfz9_5 hfz9_6 hfz9_7 hfz9_8 hfz9_9
  obtain ⟨kq, x3_1, rfl, HA, HJ1, BK107, HB⟩ := hcut
  cases kq with
  | zero => exact absurd HA.out (by simp [span_May.j0])
  | succ kj1 =>
   have H := HA.out
   clear HA
   simp only [span_May.j0] at H
   replace H := Option.bind_eq_some_iff.mp H
   obtain ⟨t110, A190, H⟩ := H
   replace H : (if t110 = true then ((span_mayTime.f a0_6).bind fun t111 => (if t111 = true then (if a0_7 ≥ 0 then (if x3_1 = true then (if a0_7 ≤ 2 then ((span_mayAttrs.f kj1 l0_8).bind fun t112 => (if t112 = true then ((span_mayEvents.f l0_9).bind fun t113 => (if t113 = true then ((span_mayLinks.f l0_10).bind fun t114 => (some t114)) else (some false))) else (some false))) else (some false)) else (some false)) else (if x3_1 = true then (some false) else (some false))) else (if x3_1 = true then (some false) else (some false)))) else (if x3_1 = true then (some false) else (some false))) = some r := H
   have A19 := Aside0.mk A190
   clear A190
   by_cases c20 : t110 = true
   rotate_left
   ·replace c20 := Bool.eq_false_iff.mpr c20
    subst c20
    have H1 : (if x3_1 = true then (some false) else (some false)) = some r := by rw [if_neg (show ¬ (false = true) by decide)] at H; exact H
    clear H
    have H := H1
    clear H1
    by_cases c51 : x3_1 = true
    ·subst c51
     have H1 : (some false) = some r := by rw [if_pos rfl] at H; exact H
     clear H
     have H := H1
     clear H1
     obtain rfl := Option.some.inj H
     have hcz52_0 : wc.cell? ⟨gb107, 0, none⟩ = some (.int .u64 a0_0) := (blk_cell BK107.out 0).trans rfl
     have hcz52_1 : wc.cell? ⟨gb107, 1, none⟩ = some (.int .u64 a0_1) := (blk_cell BK107.out 1).trans rfl
     have hcz52_2 : wc.cell? ⟨gb107, 2, none⟩ = some (.int .u64 a0_2) := (blk_cell BK107.out 2).trans rfl
     have hcz52_3 : wc.cell? ⟨gb107, 3, none⟩ = some (.string a0_3) := (blk_cell BK107.out 3).trans rfl
     have hcz52_4 : wc.cell? ⟨gb107, 4, none⟩ = some (.string a0_4) := (blk_cell BK107.out 4).trans rfl
     have hcz52_5 : wc.cell? ⟨gb107, 5, none⟩ = some (.int .i64 a0_5) := (blk_cell BK107.out 5).trans rfl
     have hcz52_6 : wc.cell? ⟨gb107, 6, none⟩ = some (.int .i64 a0_6) := (blk_cell BK107.out 6).trans rfl
     have hcz52_7 : wc.cell? ⟨gb107, 7, none⟩ = some (.int .i64 a0_7) := (blk_cell BK107.out 7).trans rfl
     have hcz52_8 : wc.cell? ⟨gb107, 8, none⟩ = some (.slice A0_8 l0_8.length c0_8) := (blk_cell BK107.out 8).trans rfl
     have hcz52_9 : wc.cell? ⟨gb107, 9, none⟩ = some (.slice A0_9 l0_9.length c0_9) := (blk_cell BK107.out 9).trans rfl
     have hcz52_10 : wc.cell? ⟨gb107, 10, none⟩ = some (.slice A0_10 l0_10.length c0_10) := (blk_cell BK107.out 10).trans rfl
     have hfz52_0 := blk_frozen BK107.out 0
     have hfz52_1 := blk_frozen BK107.out 1
     have hfz52_2 := blk_frozen BK107.out 2
     have hfz52_3 := blk_frozen BK107.out 3
     have hfz52_4 := blk_frozen BK107.out 4
     have hfz52_5 := blk_frozen BK107.out 5
     have hfz52_6 := blk_frozen BK107.out 6
     have hfz52_7 := blk_frozen BK107.out 7
     have hfz52_8 := blk_frozen BK107.out 8
     have hfz52_9 := blk_frozen BK107.out 9
     have hfz52_10 := blk_frozen BK107.out 10
     go_wp2_with (first | ((with_reducible refine gate_callee (f := 31) rfl ?_); refine goesL_ (some 32) rfl rfl Tryd.func31 (by kernel_rfl) rfl #[.int .i64 a0_5] rfl q7y2 ?_; (with_reducible refine (span_mayTime.calls a0_5 false _ A19.out).mono ?_); rintro e w' ⟨rfl, ⟨nd, rfl⟩⟩; refine ⟨_, rfl, ?_⟩))
     go_ret
     exact ⟨by first | rfl | (simp [errW_none, errW_some] <;> rfl) | (simp [*, errW_none, errW_some] <;> rfl), by repeat (first | (with_reducible first | exact HB.out | apply below_alloc | apply pw_below_drewN | apply below_drew1 | refine below_set ?_ GE107.out) | exact HB.out)⟩
    replace c51 := Bool.eq_false_iff.mpr c51
    subst c51
    have H1 : (some false) = some r := by rw [if_neg (show ¬ (false = true) by decide)] at H; exact H
    clear H
    have H := H1
    clear H1
    obtain rfl := Option.some.inj H
    have hcz53_0 : wc.cell? ⟨gb107, 0, none⟩ = some (.int .u64 a0_0) := (blk_cell BK107.out 0).trans rfl
    have hcz53_1 : wc.cell? ⟨gb107, 1, none⟩ = some (.int .u64 a0_1) := (blk_cell BK107.out 1).trans rfl
    have hcz53_2 : wc.cell? ⟨gb107, 2, none⟩ = some (.int .u64 a0_2) := (blk_cell BK107.out 2).trans rfl
    have hcz53_3 : wc.cell? ⟨gb107, 3, none⟩ = some (.string a0_3) := (blk_cell BK107.out 3).trans rfl
    have hcz53_4 : wc.cell? ⟨gb107, 4, none⟩ = some (.string a0_4) := (blk_cell BK107.out 4).trans rfl
    have hcz53_5 : wc.cell? ⟨gb107, 5, none⟩ = some (.int .i64 a0_5) := (blk_cell BK107.out 5).trans rfl
    have hcz53_6 : wc.cell? ⟨gb107, 6, none⟩ = some (.int .i64 a0_6) := (blk_cell BK107.out 6).trans rfl
    have hcz53_7 : wc.cell? ⟨gb107, 7, none⟩ = some (.int .i64 a0_7) := (blk_cell BK107.out 7).trans rfl
    have hcz53_8 : wc.cell? ⟨gb107, 8, none⟩ = some (.slice A0_8 l0_8.length c0_8) := (blk_cell BK107.out 8).trans rfl
    have hcz53_9 : wc.cell? ⟨gb107, 9, none⟩ = some (.slice A0_9 l0_9.length c0_9) := (blk_cell BK107.out 9).trans rfl
    have hcz53_10 : wc.cell? ⟨gb107, 10, none⟩ = some (.slice A0_10 l0_10.length c0_10) := (blk_cell BK107.out 10).trans rfl
    have hfz53_0 := blk_frozen BK107.out 0
    have hfz53_1 := blk_frozen BK107.out 1
    have hfz53_2 := blk_frozen BK107.out 2
    have hfz53_3 := blk_frozen BK107.out 3
    have hfz53_4 := blk_frozen BK107.out 4
    have hfz53_5 := blk_frozen BK107.out 5
    have hfz53_6 := blk_frozen BK107.out 6
    have hfz53_7 := blk_frozen BK107.out 7
    have hfz53_8 := blk_frozen BK107.out 8
    have hfz53_9 := blk_frozen BK107.out 9
    have hfz53_10 := blk_frozen BK107.out 10
    go_wp2_with (first | ((with_reducible refine gate_callee (f := 31) rfl ?_); refine goesL_ (some 32) rfl rfl Tryd.func31 (by kernel_rfl) rfl #[.int .i64 a0_5] rfl q7y2 ?_; (with_reducible refine (span_mayTime.calls a0_5 false _ A19.out).mono ?_); rintro e w' ⟨rfl, ⟨nd, rfl⟩⟩; refine ⟨_, rfl, ?_⟩))
    go_ret
    exact ⟨by first | rfl | (simp [errW_none, errW_some] <;> rfl) | (simp [*, errW_none, errW_some] <;> rfl), by repeat (first | (with_reducible first | exact HB.out | apply below_alloc | apply pw_below_drewN | apply below_drew1 | refine below_set ?_ GE107.out) | exact HB.out)⟩

   subst c20
   have H1 : ((span_mayTime.f a0_6).bind fun t111 => (if t111 = true then (if a0_7 ≥ 0 then (if x3_1 = true then (if a0_7 ≤ 2 then ((span_mayAttrs.f kj1 l0_8).bind fun t112 => (if t112 = true then ((span_mayEvents.f l0_9).bind fun t113 => (if t113 = true then ((span_mayLinks.f l0_10).bind fun t114 => (some t114)) else (some false))) else (some false))) else (some false)) else (some false)) else (if x3_1 = true then (some false) else (some false))) else (if x3_1 = true then (some false) else (some false)))) = some r := by rw [if_pos rfl] at H; exact H
   clear H
   have H := H1
   clear H1
   replace H := Option.bind_eq_some_iff.mp H
   obtain ⟨t111, A210, H⟩ := H
   replace H : (if t111 = true then (if a0_7 ≥ 0 then (if x3_1 = true then (if a0_7 ≤ 2 then ((span_mayAttrs.f kj1 l0_8).bind fun t112 => (if t112 = true then ((span_mayEvents.f l0_9).bind fun t113 => (if t113 = true then ((span_mayLinks.f l0_10).bind fun t114 => (some t114)) else (some false))) else (some false))) else (some false)) else (some false)) else (if x3_1 = true then (some false) else (some false))) else (if x3_1 = true then (some false) else (some false))) = some r := H
   have A21 := Aside0.mk A210
   clear A210
   by_cases c22 : t111 = true
   rotate_left
   ·replace c22 := Bool.eq_false_iff.mpr c22
    subst c22
    have H1 : (if x3_1 = true then (some false) else (some false)) = some r := by rw [if_neg (show ¬ (false = true) by decide)] at H; exact H
    clear H
    have H := H1
    clear H1
    by_cases c48 : x3_1 = true
    ·subst c48
     have H1 : (some false) = some r := by rw [if_pos rfl] at H; exact H
     clear H
     have H := H1
     clear H1
     obtain rfl := Option.some.inj H
     have hcz49_0 : wc.cell? ⟨gb107, 0, none⟩ = some (.int .u64 a0_0) := (blk_cell BK107.out 0).trans rfl
     have hcz49_1 : wc.cell? ⟨gb107, 1, none⟩ = some (.int .u64 a0_1) := (blk_cell BK107.out 1).trans rfl
     have hcz49_2 : wc.cell? ⟨gb107, 2, none⟩ = some (.int .u64 a0_2) := (blk_cell BK107.out 2).trans rfl
     have hcz49_3 : wc.cell? ⟨gb107, 3, none⟩ = some (.string a0_3) := (blk_cell BK107.out 3).trans rfl
     have hcz49_4 : wc.cell? ⟨gb107, 4, none⟩ = some (.string a0_4) := (blk_cell BK107.out 4).trans rfl
     have hcz49_5 : wc.cell? ⟨gb107, 5, none⟩ = some (.int .i64 a0_5) := (blk_cell BK107.out 5).trans rfl
     have hcz49_6 : wc.cell? ⟨gb107, 6, none⟩ = some (.int .i64 a0_6) := (blk_cell BK107.out 6).trans rfl
     have hcz49_7 : wc.cell? ⟨gb107, 7, none⟩ = some (.int .i64 a0_7) := (blk_cell BK107.out 7).trans rfl
     have hcz49_8 : wc.cell? ⟨gb107, 8, none⟩ = some (.slice A0_8 l0_8.length c0_8) := (blk_cell BK107.out 8).trans rfl
     have hcz49_9 : wc.cell? ⟨gb107, 9, none⟩ = some (.slice A0_9 l0_9.length c0_9) := (blk_cell BK107.out 9).trans rfl
     have hcz49_10 : wc.cell? ⟨gb107, 10, none⟩ = some (.slice A0_10 l0_10.length c0_10) := (blk_cell BK107.out 10).trans rfl
     have hfz49_0 := blk_frozen BK107.out 0
     have hfz49_1 := blk_frozen BK107.out 1
     have hfz49_2 := blk_frozen BK107.out 2
     have hfz49_3 := blk_frozen BK107.out 3
     have hfz49_4 := blk_frozen BK107.out 4
     have hfz49_5 := blk_frozen BK107.out 5
     have hfz49_6 := blk_frozen BK107.out 6
     have hfz49_7 := blk_frozen BK107.out 7
     have hfz49_8 := blk_frozen BK107.out 8
     have hfz49_9 := blk_frozen BK107.out 9
     have hfz49_10 := blk_frozen BK107.out 10
     go_wp2_with (first | ((with_reducible refine gate_callee (f := 31) rfl ?_); refine goesL_ (some 32) rfl rfl Tryd.func31 (by kernel_rfl) rfl #[.int .i64 a0_5] rfl q7y2 ?_; (with_reducible refine (span_mayTime.calls a0_5 true _ A19.out).mono ?_); rintro e w' ⟨rfl, ⟨nd, rfl⟩⟩; refine ⟨_, rfl, ?_⟩) | (go_at_call 31; (with_reducible refine (span_mayTime.calls a0_6 false _ A21.out).mono ?_); rintro e w' ⟨rfl, ⟨nd, rfl⟩⟩))
     go_ret
     exact ⟨by first | rfl | (simp [errW_none, errW_some] <;> rfl) | (simp [*, errW_none, errW_some] <;> rfl), by repeat (first | (with_reducible first | exact HB.out | apply below_alloc | apply pw_below_drewN | apply below_drew1 | refine below_set ?_ GE107.out) | exact HB.out)⟩
    replace c48 := Bool.eq_false_iff.mpr c48
    subst c48
    have H1 : (some false) = some r := by rw [if_neg (show ¬ (false = true) by decide)] at H; exact H
    clear H
    have H := H1
    clear H1
    obtain rfl := Option.some.inj H
    have hcz50_0 : wc.cell? ⟨gb107, 0, none⟩ = some (.int .u64 a0_0) := (blk_cell BK107.out 0).trans rfl
    have hcz50_1 : wc.cell? ⟨gb107, 1, none⟩ = some (.int .u64 a0_1) := (blk_cell BK107.out 1).trans rfl
    have hcz50_2 : wc.cell? ⟨gb107, 2, none⟩ = some (.int .u64 a0_2) := (blk_cell BK107.out 2).trans rfl
    have hcz50_3 : wc.cell? ⟨gb107, 3, none⟩ = some (.string a0_3) := (blk_cell BK107.out 3).trans rfl
    have hcz50_4 : wc.cell? ⟨gb107, 4, none⟩ = some (.string a0_4) := (blk_cell BK107.out 4).trans rfl
    have hcz50_5 : wc.cell? ⟨gb107, 5, none⟩ = some (.int .i64 a0_5) := (blk_cell BK107.out 5).trans rfl
    have hcz50_6 : wc.cell? ⟨gb107, 6, none⟩ = some (.int .i64 a0_6) := (blk_cell BK107.out 6).trans rfl
    have hcz50_7 : wc.cell? ⟨gb107, 7, none⟩ = some (.int .i64 a0_7) := (blk_cell BK107.out 7).trans rfl
    have hcz50_8 : wc.cell? ⟨gb107, 8, none⟩ = some (.slice A0_8 l0_8.length c0_8) := (blk_cell BK107.out 8).trans rfl
    have hcz50_9 : wc.cell? ⟨gb107, 9, none⟩ = some (.slice A0_9 l0_9.length c0_9) := (blk_cell BK107.out 9).trans rfl
    have hcz50_10 : wc.cell? ⟨gb107, 10, none⟩ = some (.slice A0_10 l0_10.length c0_10) := (blk_cell BK107.out 10).trans rfl
    have hfz50_0 := blk_frozen BK107.out 0
    have hfz50_1 := blk_frozen BK107.out 1
    have hfz50_2 := blk_frozen BK107.out 2
    have hfz50_3 := blk_frozen BK107.out 3
    have hfz50_4 := blk_frozen BK107.out 4
    have hfz50_5 := blk_frozen BK107.out 5
    have hfz50_6 := blk_frozen BK107.out 6
    have hfz50_7 := blk_frozen BK107.out 7
    have hfz50_8 := blk_frozen BK107.out 8
    have hfz50_9 := blk_frozen BK107.out 9
    have hfz50_10 := blk_frozen BK107.out 10
    go_wp2_with (first | ((with_reducible refine gate_callee (f := 31) rfl ?_); refine goesL_ (some 32) rfl rfl Tryd.func31 (by kernel_rfl) rfl #[.int .i64 a0_5] rfl q7y2 ?_; (with_reducible refine (span_mayTime.calls a0_5 true _ A19.out).mono ?_); rintro e w' ⟨rfl, ⟨nd, rfl⟩⟩; refine ⟨_, rfl, ?_⟩) | (go_at_call 31; (with_reducible refine (span_mayTime.calls a0_6 false _ A21.out).mono ?_); rintro e w' ⟨rfl, ⟨nd, rfl⟩⟩))
    go_ret
    exact ⟨by first | rfl | (simp [errW_none, errW_some] <;> rfl) | (simp [*, errW_none, errW_some] <;> rfl), by repeat (first | (with_reducible first | exact HB.out | apply below_alloc | apply pw_below_drewN | apply below_drew1 | refine below_set ?_ GE107.out) | exact HB.out)⟩
   subst c22
   have H1 : (if a0_7 ≥ 0 then (if x3_1 = true then (if a0_7 ≤ 2 then ((span_mayAttrs.f kj1 l0_8).bind fun t112 => (if t112 = true then ((span_mayEvents.f l0_9).bind fun t113 => (if t113 = true then ((span_mayLinks.f l0_10).bind fun t114 => (some t114)) else (some false))) else (some false))) else (some false)) else (some false)) else (if x3_1 = true then (some false) else (some false))) = some r := by rw [if_pos rfl] at H; exact H
   clear H
   have H := H1
   clear H1
   by_cases c23 : a0_7 ≥ 0
   rotate_left
   ·rw [if_neg c23] at H
    have c23b0 : decide (0 ≤ a0_7) = false := decide_eq_false c23
    clear c23
    by_cases c45 : x3_1 = true
    ·subst c45
     have H1 : (some false) = some r := by rw [if_pos rfl] at H; exact H
     clear H
     have H := H1
     clear H1
     obtain rfl := Option.some.inj H
     have hcz46_0 : wc.cell? ⟨gb107, 0, none⟩ = some (.int .u64 a0_0) := (blk_cell BK107.out 0).trans rfl
     have hcz46_1 : wc.cell? ⟨gb107, 1, none⟩ = some (.int .u64 a0_1) := (blk_cell BK107.out 1).trans rfl
     have hcz46_2 : wc.cell? ⟨gb107, 2, none⟩ = some (.int .u64 a0_2) := (blk_cell BK107.out 2).trans rfl
     have hcz46_3 : wc.cell? ⟨gb107, 3, none⟩ = some (.string a0_3) := (blk_cell BK107.out 3).trans rfl
     have hcz46_4 : wc.cell? ⟨gb107, 4, none⟩ = some (.string a0_4) := (blk_cell BK107.out 4).trans rfl
     have hcz46_5 : wc.cell? ⟨gb107, 5, none⟩ = some (.int .i64 a0_5) := (blk_cell BK107.out 5).trans rfl
     have hcz46_6 : wc.cell? ⟨gb107, 6, none⟩ = some (.int .i64 a0_6) := (blk_cell BK107.out 6).trans rfl
     have hcz46_7 : wc.cell? ⟨gb107, 7, none⟩ = some (.int .i64 a0_7) := (blk_cell BK107.out 7).trans rfl
     have hcz46_8 : wc.cell? ⟨gb107, 8, none⟩ = some (.slice A0_8 l0_8.length c0_8) := (blk_cell BK107.out 8).trans rfl
     have hcz46_9 : wc.cell? ⟨gb107, 9, none⟩ = some (.slice A0_9 l0_9.length c0_9) := (blk_cell BK107.out 9).trans rfl
     have hcz46_10 : wc.cell? ⟨gb107, 10, none⟩ = some (.slice A0_10 l0_10.length c0_10) := (blk_cell BK107.out 10).trans rfl
     have hfz46_0 := blk_frozen BK107.out 0
     have hfz46_1 := blk_frozen BK107.out 1
     have hfz46_2 := blk_frozen BK107.out 2
     have hfz46_3 := blk_frozen BK107.out 3
     have hfz46_4 := blk_frozen BK107.out 4
     have hfz46_5 := blk_frozen BK107.out 5
     have hfz46_6 := blk_frozen BK107.out 6
     have hfz46_7 := blk_frozen BK107.out 7
     have hfz46_8 := blk_frozen BK107.out 8
     have hfz46_9 := blk_frozen BK107.out 9
     have hfz46_10 := blk_frozen BK107.out 10
     go_wp2_with (first | ((with_reducible refine gate_callee (f := 31) rfl ?_); refine goesL_ (some 32) rfl rfl Tryd.func31 (by kernel_rfl) rfl #[.int .i64 a0_5] rfl q7y2 ?_; (with_reducible refine (span_mayTime.calls a0_5 true _ A19.out).mono ?_); rintro e w' ⟨rfl, ⟨nd, rfl⟩⟩; refine ⟨_, rfl, ?_⟩) | (go_at_call 31; (with_reducible refine (span_mayTime.calls a0_6 true _ A21.out).mono ?_); rintro e w' ⟨rfl, ⟨nd, rfl⟩⟩))
     go_ret
     exact ⟨by first | rfl | (simp [errW_none, errW_some] <;> rfl) | (simp [*, errW_none, errW_some] <;> rfl), by repeat (first | (with_reducible first | exact HB.out | apply below_alloc | apply pw_below_drewN | apply below_drew1 | refine below_set ?_ GE107.out) | exact HB.out)⟩
    replace c45 := Bool.eq_false_iff.mpr c45
    subst c45
    have H1 : (some false) = some r := by rw [if_neg (show ¬ (false = true) by decide)] at H; exact H
    clear H
    have H := H1
    clear H1
    obtain rfl := Option.some.inj H
    have hcz47_0 : wc.cell? ⟨gb107, 0, none⟩ = some (.int .u64 a0_0) := (blk_cell BK107.out 0).trans rfl
    have hcz47_1 : wc.cell? ⟨gb107, 1, none⟩ = some (.int .u64 a0_1) := (blk_cell BK107.out 1).trans rfl
    have hcz47_2 : wc.cell? ⟨gb107, 2, none⟩ = some (.int .u64 a0_2) := (blk_cell BK107.out 2).trans rfl
    have hcz47_3 : wc.cell? ⟨gb107, 3, none⟩ = some (.string a0_3) := (blk_cell BK107.out 3).trans rfl
    have hcz47_4 : wc.cell? ⟨gb107, 4, none⟩ = some (.string a0_4) := (blk_cell BK107.out 4).trans rfl
    have hcz47_5 : wc.cell? ⟨gb107, 5, none⟩ = some (.int .i64 a0_5) := (blk_cell BK107.out 5).trans rfl
    have hcz47_6 : wc.cell? ⟨gb107, 6, none⟩ = some (.int .i64 a0_6) := (blk_cell BK107.out 6).trans rfl
    have hcz47_7 : wc.cell? ⟨gb107, 7, none⟩ = some (.int .i64 a0_7) := (blk_cell BK107.out 7).trans rfl
    have hcz47_8 : wc.cell? ⟨gb107, 8, none⟩ = some (.slice A0_8 l0_8.length c0_8) := (blk_cell BK107.out 8).trans rfl
    have hcz47_9 : wc.cell? ⟨gb107, 9, none⟩ = some (.slice A0_9 l0_9.length c0_9) := (blk_cell BK107.out 9).trans rfl
    have hcz47_10 : wc.cell? ⟨gb107, 10, none⟩ = some (.slice A0_10 l0_10.length c0_10) := (blk_cell BK107.out 10).trans rfl
    have hfz47_0 := blk_frozen BK107.out 0
    have hfz47_1 := blk_frozen BK107.out 1
    have hfz47_2 := blk_frozen BK107.out 2
    have hfz47_3 := blk_frozen BK107.out 3
    have hfz47_4 := blk_frozen BK107.out 4
    have hfz47_5 := blk_frozen BK107.out 5
    have hfz47_6 := blk_frozen BK107.out 6
    have hfz47_7 := blk_frozen BK107.out 7
    have hfz47_8 := blk_frozen BK107.out 8
    have hfz47_9 := blk_frozen BK107.out 9
    have hfz47_10 := blk_frozen BK107.out 10
    go_wp2_with (first | ((with_reducible refine gate_callee (f := 31) rfl ?_); refine goesL_ (some 32) rfl rfl Tryd.func31 (by kernel_rfl) rfl #[.int .i64 a0_5] rfl q7y2 ?_; (with_reducible refine (span_mayTime.calls a0_5 true _ A19.out).mono ?_); rintro e w' ⟨rfl, ⟨nd, rfl⟩⟩; refine ⟨_, rfl, ?_⟩) | (go_at_call 31; (with_reducible refine (span_mayTime.calls a0_6 true _ A21.out).mono ?_); rintro e w' ⟨rfl, ⟨nd, rfl⟩⟩))
    go_ret
    exact ⟨by first | rfl | (simp [errW_none, errW_some] <;> rfl) | (simp [*, errW_none, errW_some] <;> rfl), by repeat (first | (with_reducible first | exact HB.out | apply below_alloc | apply pw_below_drewN | apply below_drew1 | refine below_set ?_ GE107.out) | exact HB.out)⟩
   rw [if_pos c23] at H
   have c23b0 : decide (0 ≤ a0_7) = true := decide_eq_true c23
   clear c23
   by_cases c24 : x3_1 = true
   rotate_left
   ·replace c24 := Bool.eq_false_iff.mpr c24
    subst c24
    have H1 : (some false) = some r := by rw [if_neg (show ¬ (false = true) by decide)] at H; exact H
    clear H
    have H := H1
    clear H1
    obtain rfl := Option.some.inj H
    have hcz44_0 : wc.cell? ⟨gb107, 0, none⟩ = some (.int .u64 a0_0) := (blk_cell BK107.out 0).trans rfl
    have hcz44_1 : wc.cell? ⟨gb107, 1, none⟩ = some (.int .u64 a0_1) := (blk_cell BK107.out 1).trans rfl
    have hcz44_2 : wc.cell? ⟨gb107, 2, none⟩ = some (.int .u64 a0_2) := (blk_cell BK107.out 2).trans rfl
    have hcz44_3 : wc.cell? ⟨gb107, 3, none⟩ = some (.string a0_3) := (blk_cell BK107.out 3).trans rfl
    have hcz44_4 : wc.cell? ⟨gb107, 4, none⟩ = some (.string a0_4) := (blk_cell BK107.out 4).trans rfl
    have hcz44_5 : wc.cell? ⟨gb107, 5, none⟩ = some (.int .i64 a0_5) := (blk_cell BK107.out 5).trans rfl
    have hcz44_6 : wc.cell? ⟨gb107, 6, none⟩ = some (.int .i64 a0_6) := (blk_cell BK107.out 6).trans rfl
    have hcz44_7 : wc.cell? ⟨gb107, 7, none⟩ = some (.int .i64 a0_7) := (blk_cell BK107.out 7).trans rfl
    have hcz44_8 : wc.cell? ⟨gb107, 8, none⟩ = some (.slice A0_8 l0_8.length c0_8) := (blk_cell BK107.out 8).trans rfl
    have hcz44_9 : wc.cell? ⟨gb107, 9, none⟩ = some (.slice A0_9 l0_9.length c0_9) := (blk_cell BK107.out 9).trans rfl
    have hcz44_10 : wc.cell? ⟨gb107, 10, none⟩ = some (.slice A0_10 l0_10.length c0_10) := (blk_cell BK107.out 10).trans rfl
    have hfz44_0 := blk_frozen BK107.out 0
    have hfz44_1 := blk_frozen BK107.out 1
    have hfz44_2 := blk_frozen BK107.out 2
    have hfz44_3 := blk_frozen BK107.out 3
    have hfz44_4 := blk_frozen BK107.out 4
    have hfz44_5 := blk_frozen BK107.out 5
    have hfz44_6 := blk_frozen BK107.out 6
    have hfz44_7 := blk_frozen BK107.out 7
    have hfz44_8 := blk_frozen BK107.out 8
    have hfz44_9 := blk_frozen BK107.out 9
    have hfz44_10 := blk_frozen BK107.out 10
    go_wp2_with (first | ((with_reducible refine gate_callee (f := 31) rfl ?_); refine goesL_ (some 32) rfl rfl Tryd.func31 (by kernel_rfl) rfl #[.int .i64 a0_5] rfl q7y2 ?_; (with_reducible refine (span_mayTime.calls a0_5 true _ A19.out).mono ?_); rintro e w' ⟨rfl, ⟨nd, rfl⟩⟩; refine ⟨_, rfl, ?_⟩) | (go_at_call 31; (with_reducible refine (span_mayTime.calls a0_6 true _ A21.out).mono ?_); rintro e w' ⟨rfl, ⟨nd, rfl⟩⟩))
    go_ret
    exact ⟨by first | rfl | (simp [errW_none, errW_some] <;> rfl) | (simp [*, errW_none, errW_some] <;> rfl), by repeat (first | (with_reducible first | exact HB.out | apply below_alloc | apply pw_below_drewN | apply below_drew1 | refine below_set ?_ GE107.out) | exact HB.out)⟩
   subst c24
   have H1 : (if a0_7 ≤ 2 then ((span_mayAttrs.f kj1 l0_8).bind fun t112 => (if t112 = true then ((span_mayEvents.f l0_9).bind fun t113 => (if t113 = true then ((span_mayLinks.f l0_10).bind fun t114 => (some t114)) else (some false))) else (some false))) else (some false)) = some r := by rw [if_pos rfl] at H; exact H
   clear H
   have H := H1
   clear H1
   by_cases c25 : a0_7 ≤ 2
   rotate_left
   ·rw [if_neg c25] at H
    have c25b0 : decide (a0_7 ≤ 2) = false := decide_eq_false c25
    clear c25
    obtain rfl := Option.some.inj H
    have hcz43_0 : wc.cell? ⟨gb107, 0, none⟩ = some (.int .u64 a0_0) := (blk_cell BK107.out 0).trans rfl
    have hcz43_1 : wc.cell? ⟨gb107, 1, none⟩ = some (.int .u64 a0_1) := (blk_cell BK107.out 1).trans rfl
    have hcz43_2 : wc.cell? ⟨gb107, 2, none⟩ = some (.int .u64 a0_2) := (blk_cell BK107.out 2).trans rfl
    have hcz43_3 : wc.cell? ⟨gb107, 3, none⟩ = some (.string a0_3) := (blk_cell BK107.out 3).trans rfl
    have hcz43_4 : wc.cell? ⟨gb107, 4, none⟩ = some (.string a0_4) := (blk_cell BK107.out 4).trans rfl
    have hcz43_5 : wc.cell? ⟨gb107, 5, none⟩ = some (.int .i64 a0_5) := (blk_cell BK107.out 5).trans rfl
    have hcz43_6 : wc.cell? ⟨gb107, 6, none⟩ = some (.int .i64 a0_6) := (blk_cell BK107.out 6).trans rfl
    have hcz43_7 : wc.cell? ⟨gb107, 7, none⟩ = some (.int .i64 a0_7) := (blk_cell BK107.out 7).trans rfl
    have hcz43_8 : wc.cell? ⟨gb107, 8, none⟩ = some (.slice A0_8 l0_8.length c0_8) := (blk_cell BK107.out 8).trans rfl
    have hcz43_9 : wc.cell? ⟨gb107, 9, none⟩ = some (.slice A0_9 l0_9.length c0_9) := (blk_cell BK107.out 9).trans rfl
    have hcz43_10 : wc.cell? ⟨gb107, 10, none⟩ = some (.slice A0_10 l0_10.length c0_10) := (blk_cell BK107.out 10).trans rfl
    have hfz43_0 := blk_frozen BK107.out 0
    have hfz43_1 := blk_frozen BK107.out 1
    have hfz43_2 := blk_frozen BK107.out 2
    have hfz43_3 := blk_frozen BK107.out 3
    have hfz43_4 := blk_frozen BK107.out 4
    have hfz43_5 := blk_frozen BK107.out 5
    have hfz43_6 := blk_frozen BK107.out 6
    have hfz43_7 := blk_frozen BK107.out 7
    have hfz43_8 := blk_frozen BK107.out 8
    have hfz43_9 := blk_frozen BK107.out 9
    have hfz43_10 := blk_frozen BK107.out 10
    go_wp2_with (first | ((with_reducible refine gate_callee (f := 31) rfl ?_); refine goesL_ (some 32) rfl rfl Tryd.func31 (by kernel_rfl) rfl #[.int .i64 a0_5] rfl q7y2 ?_; (with_reducible refine (span_mayTime.calls a0_5 true _ A19.out).mono ?_); rintro e w' ⟨rfl, ⟨nd, rfl⟩⟩; refine ⟨_, rfl, ?_⟩) | (go_at_call 31; (with_reducible refine (span_mayTime.calls a0_6 true _ A21.out).mono ?_); rintro e w' ⟨rfl, ⟨nd, rfl⟩⟩))
    go_ret
    exact ⟨by first | rfl | (simp [errW_none, errW_some] <;> rfl) | (simp [*, errW_none, errW_some] <;> rfl), by repeat (first | (with_reducible first | exact HB.out | apply below_alloc | apply pw_below_drewN | apply below_drew1 | refine below_set ?_ GE107.out) | exact HB.out)⟩
   rw [if_pos c25] at H
   have c25b0 : decide (a0_7 ≤ 2) = true := decide_eq_true c25
   clear c25
   replace H := Option.bind_eq_some_iff.mp H
   obtain ⟨t112, A260, H⟩ := H
   replace H : (if t112 = true then ((span_mayEvents.f l0_9).bind fun t113 => (if t113 = true then ((span_mayLinks.f l0_10).bind fun t114 => (some t114)) else (some false))) else (some false)) = some r := H
   have A26 := Aside0.mk A260
   clear A260
   by_cases c27 : t112 = true
   rotate_left
   ·replace c27 := Bool.eq_false_iff.mpr c27
    subst c27
    have H1 : (some false) = some r := by rw [if_neg (show ¬ (false = true) by decide)] at H; exact H
    clear H
    have H := H1
    clear H1
    obtain rfl := Option.some.inj H
    have hcz41_0 : wc.cell? ⟨gb107, 0, none⟩ = some (.int .u64 a0_0) := (blk_cell BK107.out 0).trans rfl
    have hcz41_1 : wc.cell? ⟨gb107, 1, none⟩ = some (.int .u64 a0_1) := (blk_cell BK107.out 1).trans rfl
    have hcz41_2 : wc.cell? ⟨gb107, 2, none⟩ = some (.int .u64 a0_2) := (blk_cell BK107.out 2).trans rfl
    have hcz41_3 : wc.cell? ⟨gb107, 3, none⟩ = some (.string a0_3) := (blk_cell BK107.out 3).trans rfl
    have hcz41_4 : wc.cell? ⟨gb107, 4, none⟩ = some (.string a0_4) := (blk_cell BK107.out 4).trans rfl
    have hcz41_5 : wc.cell? ⟨gb107, 5, none⟩ = some (.int .i64 a0_5) := (blk_cell BK107.out 5).trans rfl
    have hcz41_6 : wc.cell? ⟨gb107, 6, none⟩ = some (.int .i64 a0_6) := (blk_cell BK107.out 6).trans rfl
    have hcz41_7 : wc.cell? ⟨gb107, 7, none⟩ = some (.int .i64 a0_7) := (blk_cell BK107.out 7).trans rfl
    have hcz41_8 : wc.cell? ⟨gb107, 8, none⟩ = some (.slice A0_8 l0_8.length c0_8) := (blk_cell BK107.out 8).trans rfl
    have hcz41_9 : wc.cell? ⟨gb107, 9, none⟩ = some (.slice A0_9 l0_9.length c0_9) := (blk_cell BK107.out 9).trans rfl
    have hcz41_10 : wc.cell? ⟨gb107, 10, none⟩ = some (.slice A0_10 l0_10.length c0_10) := (blk_cell BK107.out 10).trans rfl
    have hfz41_0 := blk_frozen BK107.out 0
    have hfz41_1 := blk_frozen BK107.out 1
    have hfz41_2 := blk_frozen BK107.out 2
    have hfz41_3 := blk_frozen BK107.out 3
    have hfz41_4 := blk_frozen BK107.out 4
    have hfz41_5 := blk_frozen BK107.out 5
    have hfz41_6 := blk_frozen BK107.out 6
    have hfz41_7 := blk_frozen BK107.out 7
    have hfz41_8 := blk_frozen BK107.out 8
    have hfz41_9 := blk_frozen BK107.out 9
    have hfz41_10 := blk_frozen BK107.out 10
    go_wp2_with (first | ((with_reducible refine gate_callee (f := 31) rfl ?_); refine goesL_ (some 32) rfl rfl Tryd.func31 (by kernel_rfl) rfl #[.int .i64 a0_5] rfl q7y2 ?_; (with_reducible refine (span_mayTime.calls a0_5 true _ A19.out).mono ?_); rintro e w' ⟨rfl, ⟨nd, rfl⟩⟩; refine ⟨_, rfl, ?_⟩) | (go_at_call 31; (with_reducible refine (span_mayTime.calls a0_6 true _ A21.out).mono ?_); rintro e w' ⟨rfl, ⟨nd, rfl⟩⟩) | (go_at_call 32; (with_reducible refine (span_mayAttrs.calls kj1 _ _ l0_8 false _ ?side1 ?side2 A26.out q7y0).mono ?_); (case side1 => repeat (first | exact (Kd.C_below HR0_8.out q7y1) | (with_reducible refine Kd.C_alloc ?_ _) | (with_reducible refine Kd.C_drewN ?_ _) | (with_reducible refine Kd.C_drew ?_))); (case side2 => exact HC0_8.out); rintro e w42 ⟨rfl, hb⟩; have n0_ := Aside0.mk (blk_below (g := gb107) (o := .cells #[.int .u64 a0_0, .int .u64 a0_1, .int .u64 a0_2, .string a0_3, .string a0_4, .int .i64 a0_5, .int .i64 a0_6, .int .i64 a0_7, .slice A0_8 l0_8.length c0_8, .slice A0_9 l0_9.length c0_9, .slice A0_10 l0_10.length c0_10] 36 (0, 0)) q7y3 hb); have n1_ := Aside0.mk (below_step q7y1 hb); clear BK107; clear HB; have BK107 := n0_; have HB := n1_; clear n0_ n1_; (try clear hb); (try clear hb2); (try clear hk); (try clear hi)))
    go_ret
    exact ⟨by first | rfl | (simp [errW_none, errW_some] <;> rfl) | (simp [*, errW_none, errW_some] <;> rfl), by repeat (first | (with_reducible first | exact HB.out | apply below_alloc | apply pw_below_drewN | apply below_drew1 | refine below_set ?_ GE107.out) | exact HB.out)⟩
   subst c27
   have H1 : ((span_mayEvents.f l0_9).bind fun t113 => (if t113 = true then ((span_mayLinks.f l0_10).bind fun t114 => (some t114)) else (some false))) = some r := by rw [if_pos rfl] at H; exact H
   clear H
   have H := H1
   clear H1
   replace H := Option.bind_eq_some_iff.mp H
   obtain ⟨t113, A280, H⟩ := H
   replace H : (if t113 = true then ((span_mayLinks.f l0_10).bind fun t114 => (some t114)) else (some false)) = some r := H
   have A28 := Aside0.mk A280
   clear A280
   by_cases c29 : t113 = true
   rotate_left
   ·replace c29 := Bool.eq_false_iff.mpr c29
    subst c29
    have H1 : (some false) = some r := by rw [if_neg (show ¬ (false = true) by decide)] at H; exact H
    clear H
    have H := H1
    clear H1
    obtain rfl := Option.some.inj H
    have hcz37_0 : wc.cell? ⟨gb107, 0, none⟩ = some (.int .u64 a0_0) := (blk_cell BK107.out 0).trans rfl
    have hcz37_1 : wc.cell? ⟨gb107, 1, none⟩ = some (.int .u64 a0_1) := (blk_cell BK107.out 1).trans rfl
    have hcz37_2 : wc.cell? ⟨gb107, 2, none⟩ = some (.int .u64 a0_2) := (blk_cell BK107.out 2).trans rfl
    have hcz37_3 : wc.cell? ⟨gb107, 3, none⟩ = some (.string a0_3) := (blk_cell BK107.out 3).trans rfl
    have hcz37_4 : wc.cell? ⟨gb107, 4, none⟩ = some (.string a0_4) := (blk_cell BK107.out 4).trans rfl
    have hcz37_5 : wc.cell? ⟨gb107, 5, none⟩ = some (.int .i64 a0_5) := (blk_cell BK107.out 5).trans rfl
    have hcz37_6 : wc.cell? ⟨gb107, 6, none⟩ = some (.int .i64 a0_6) := (blk_cell BK107.out 6).trans rfl
    have hcz37_7 : wc.cell? ⟨gb107, 7, none⟩ = some (.int .i64 a0_7) := (blk_cell BK107.out 7).trans rfl
    have hcz37_8 : wc.cell? ⟨gb107, 8, none⟩ = some (.slice A0_8 l0_8.length c0_8) := (blk_cell BK107.out 8).trans rfl
    have hcz37_9 : wc.cell? ⟨gb107, 9, none⟩ = some (.slice A0_9 l0_9.length c0_9) := (blk_cell BK107.out 9).trans rfl
    have hcz37_10 : wc.cell? ⟨gb107, 10, none⟩ = some (.slice A0_10 l0_10.length c0_10) := (blk_cell BK107.out 10).trans rfl
    have hfz37_0 := blk_frozen BK107.out 0
    have hfz37_1 := blk_frozen BK107.out 1
    have hfz37_2 := blk_frozen BK107.out 2
    have hfz37_3 := blk_frozen BK107.out 3
    have hfz37_4 := blk_frozen BK107.out 4
    have hfz37_5 := blk_frozen BK107.out 5
    have hfz37_6 := blk_frozen BK107.out 6
    have hfz37_7 := blk_frozen BK107.out 7
    have hfz37_8 := blk_frozen BK107.out 8
    have hfz37_9 := blk_frozen BK107.out 9
    have hfz37_10 := blk_frozen BK107.out 10
    go_wp2_with (first | ((with_reducible refine gate_callee (f := 31) rfl ?_); refine goesL_ (some 32) rfl rfl Tryd.func31 (by kernel_rfl) rfl #[.int .i64 a0_5] rfl q7y2 ?_; (with_reducible refine (span_mayTime.calls a0_5 true _ A19.out).mono ?_); rintro e w' ⟨rfl, ⟨nd, rfl⟩⟩; refine ⟨_, rfl, ?_⟩) | (go_at_call 31; (with_reducible refine (span_mayTime.calls a0_6 true _ A21.out).mono ?_); rintro e w' ⟨rfl, ⟨nd, rfl⟩⟩) | (go_at_call 32; (with_reducible refine (span_mayAttrs.calls kj1 _ _ l0_8 true _ ?side1 ?side2 A26.out q7y0).mono ?_); (case side1 => repeat (first | exact (Kd.C_below HR0_8.out q7y1) | (with_reducible refine Kd.C_alloc ?_ _) | (with_reducible refine Kd.C_drewN ?_ _) | (with_reducible refine Kd.C_drew ?_))); (case side2 => exact HC0_8.out); rintro e w38 ⟨rfl, hb⟩; have n0_ := Aside0.mk (blk_below (g := gb107) (o := .cells #[.int .u64 a0_0, .int .u64 a0_1, .int .u64 a0_2, .string a0_3, .string a0_4, .int .i64 a0_5, .int .i64 a0_6, .int .i64 a0_7, .slice A0_8 l0_8.length c0_8, .slice A0_9 l0_9.length c0_9, .slice A0_10 l0_10.length c0_10] 36 (0, 0)) q7y3 hb); have n1_ := Aside0.mk (below_step q7y1 hb); clear BK107; clear HB; have BK107 := n0_; have HB := n1_; clear n0_ n1_; (try clear hb); (try clear hb2); (try clear hk); (try clear hi); have hcz39_0 : w38.cell? ⟨gb107, 0, none⟩ = some (.int .u64 a0_0) := (blk_cell BK107.out 0).trans rfl; have hcz39_1 : w38.cell? ⟨gb107, 1, none⟩ = some (.int .u64 a0_1) := (blk_cell BK107.out 1).trans rfl; have hcz39_2 : w38.cell? ⟨gb107, 2, none⟩ = some (.int .u64 a0_2) := (blk_cell BK107.out 2).trans rfl; have hcz39_3 : w38.cell? ⟨gb107, 3, none⟩ = some (.string a0_3) := (blk_cell BK107.out 3).trans rfl; have hcz39_4 : w38.cell? ⟨gb107, 4, none⟩ = some (.string a0_4) := (blk_cell BK107.out 4).trans rfl; have hcz39_5 : w38.cell? ⟨gb107, 5, none⟩ = some (.int .i64 a0_5) := (blk_cell BK107.out 5).trans rfl; have hcz39_6 : w38.cell? ⟨gb107, 6, none⟩ = some (.int .i64 a0_6) := (blk_cell BK107.out 6).trans rfl; have hcz39_7 : w38.cell? ⟨gb107, 7, none⟩ = some (.int .i64 a0_7) := (blk_cell BK107.out 7).trans rfl; have hcz39_8 : w38.cell? ⟨gb107, 8, none⟩ = some (.slice A0_8 l0_8.length c0_8) := (blk_cell BK107.out 8).trans rfl; have hcz39_9 : w38.cell? ⟨gb107, 9, none⟩ = some (.slice A0_9 l0_9.length c0_9) := (blk_cell BK107.out 9).trans rfl; have hcz39_10 : w38.cell? ⟨gb107, 10, none⟩ = some (.slice A0_10 l0_10.length c0_10) := (blk_cell BK107.out 10).trans rfl; have hfz39_0 := blk_frozen BK107.out 0; have hfz39_1 := blk_frozen BK107.out 1; have hfz39_2 := blk_frozen BK107.out 2; have hfz39_3 := blk_frozen BK107.out 3; have hfz39_4 := blk_frozen BK107.out 4; have hfz39_5 := blk_frozen BK107.out 5; have hfz39_6 := blk_frozen BK107.out 6; have hfz39_7 := blk_frozen BK107.out 7; have hfz39_8 := blk_frozen BK107.out 8; have hfz39_9 := blk_frozen BK107.out 9; have hfz39_10 := blk_frozen BK107.out 10) | (go_at_call 33; (with_reducible refine (span_mayEvents.calls _ _ l0_9 false _ ?side1 ?side2 A28.out q7y0).mono ?_); (case side1 => repeat (first | exact (Kd.C_below HR0_9.out HB.out) | (with_reducible refine Kd.C_alloc ?_ _) | (with_reducible refine Kd.C_drewN ?_ _) | (with_reducible refine Kd.C_drew ?_))); (case side2 => exact HC0_9.out); rintro e w40 ⟨rfl, hb⟩; have n0_ := Aside0.mk (blk_below (g := gb107) (o := .cells #[.int .u64 a0_0, .int .u64 a0_1, .int .u64 a0_2, .string a0_3, .string a0_4, .int .i64 a0_5, .int .i64 a0_6, .int .i64 a0_7, .slice A0_8 l0_8.length c0_8, .slice A0_9 l0_9.length c0_9, .slice A0_10 l0_10.length c0_10] 36 (0, 0)) q7y3 hb); have n1_ := Aside0.mk (below_step q7y1 hb); clear BK107; clear HB; have BK107 := n0_; have HB := n1_; clear n0_ n1_; (try clear hb); (try clear hb2); (try clear hk); (try clear hi)))
    go_ret
    exact ⟨by first | rfl | (simp [errW_none, errW_some] <;> rfl) | (simp [*, errW_none, errW_some] <;> rfl), by repeat (first | (with_reducible first | exact HB.out | apply below_alloc | apply pw_below_drewN | apply below_drew1 | refine below_set ?_ GE107.out) | exact HB.out)⟩
   subst c29
   have H1 : ((span_mayLinks.f l0_10).bind fun t114 => (some t114)) = some r := by rw [if_pos rfl] at H; exact H
   clear H
   have H := H1
   clear H1
   replace H := Option.bind_eq_some_iff.mp H
   obtain ⟨t114, A300, H⟩ := H
   replace H : (some t114) = some r := H
   have A30 := Aside0.mk A300
   clear A300
   obtain rfl := Option.some.inj H
   have hcz31_0 : wc.cell? ⟨gb107, 0, none⟩ = some (.int .u64 a0_0) := (blk_cell BK107.out 0).trans rfl
   have hcz31_1 : wc.cell? ⟨gb107, 1, none⟩ = some (.int .u64 a0_1) := (blk_cell BK107.out 1).trans rfl
   have hcz31_2 : wc.cell? ⟨gb107, 2, none⟩ = some (.int .u64 a0_2) := (blk_cell BK107.out 2).trans rfl
   have hcz31_3 : wc.cell? ⟨gb107, 3, none⟩ = some (.string a0_3) := (blk_cell BK107.out 3).trans rfl
   have hcz31_4 : wc.cell? ⟨gb107, 4, none⟩ = some (.string a0_4) := (blk_cell BK107.out 4).trans rfl
   have hcz31_5 : wc.cell? ⟨gb107, 5, none⟩ = some (.int .i64 a0_5) := (blk_cell BK107.out 5).trans rfl
   have hcz31_6 : wc.cell? ⟨gb107, 6, none⟩ = some (.int .i64 a0_6) := (blk_cell BK107.out 6).trans rfl
   have hcz31_7 : wc.cell? ⟨gb107, 7, none⟩ = some (.int .i64 a0_7) := (blk_cell BK107.out 7).trans rfl
   have hcz31_8 : wc.cell? ⟨gb107, 8, none⟩ = some (.slice A0_8 l0_8.length c0_8) := (blk_cell BK107.out 8).trans rfl
   have hcz31_9 : wc.cell? ⟨gb107, 9, none⟩ = some (.slice A0_9 l0_9.length c0_9) := (blk_cell BK107.out 9).trans rfl
   have hcz31_10 : wc.cell? ⟨gb107, 10, none⟩ = some (.slice A0_10 l0_10.length c0_10) := (blk_cell BK107.out 10).trans rfl
   have hfz31_0 := blk_frozen BK107.out 0
   have hfz31_1 := blk_frozen BK107.out 1
   have hfz31_2 := blk_frozen BK107.out 2
   have hfz31_3 := blk_frozen BK107.out 3
   have hfz31_4 := blk_frozen BK107.out 4
   have hfz31_5 := blk_frozen BK107.out 5
   have hfz31_6 := blk_frozen BK107.out 6
   have hfz31_7 := blk_frozen BK107.out 7
   have hfz31_8 := blk_frozen BK107.out 8
   have hfz31_9 := blk_frozen BK107.out 9
   have hfz31_10 := blk_frozen BK107.out 10
   go_wp2_with (first | ((with_reducible refine gate_callee (f := 31) rfl ?_); refine goesL_ (some 32) rfl rfl Tryd.func31 (by kernel_rfl) rfl #[.int .i64 a0_5] rfl q7y2 ?_; (with_reducible refine (span_mayTime.calls a0_5 true _ A19.out).mono ?_); rintro e w' ⟨rfl, ⟨nd, rfl⟩⟩; refine ⟨_, rfl, ?_⟩) | (go_at_call 31; (with_reducible refine (span_mayTime.calls a0_6 true _ A21.out).mono ?_); rintro e w' ⟨rfl, ⟨nd, rfl⟩⟩) | (go_at_call 32; (with_reducible refine (span_mayAttrs.calls kj1 _ _ l0_8 true _ ?side1 ?side2 A26.out q7y0).mono ?_); (case side1 => repeat (first | exact (Kd.C_below HR0_8.out q7y1) | (with_reducible refine Kd.C_alloc ?_ _) | (with_reducible refine Kd.C_drewN ?_ _) | (with_reducible refine Kd.C_drew ?_))); (case side2 => exact HC0_8.out); rintro e w32 ⟨rfl, hb⟩; have n0_ := Aside0.mk (blk_below (g := gb107) (o := .cells #[.int .u64 a0_0, .int .u64 a0_1, .int .u64 a0_2, .string a0_3, .string a0_4, .int .i64 a0_5, .int .i64 a0_6, .int .i64 a0_7, .slice A0_8 l0_8.length c0_8, .slice A0_9 l0_9.length c0_9, .slice A0_10 l0_10.length c0_10] 36 (0, 0)) q7y3 hb); have n1_ := Aside0.mk (below_step q7y1 hb); clear BK107; clear HB; have BK107 := n0_; have HB := n1_; clear n0_ n1_; (try clear hb); (try clear hb2); (try clear hk); (try clear hi); have hcz33_0 : w32.cell? ⟨gb107, 0, none⟩ = some (.int .u64 a0_0) := (blk_cell BK107.out 0).trans rfl; have hcz33_1 : w32.cell? ⟨gb107, 1, none⟩ = some (.int .u64 a0_1) := (blk_cell BK107.out 1).trans rfl; have hcz33_2 : w32.cell? ⟨gb107, 2, none⟩ = some (.int .u64 a0_2) := (blk_cell BK107.out 2).trans rfl; have hcz33_3 : w32.cell? ⟨gb107, 3, none⟩ = some (.string a0_3) := (blk_cell BK107.out 3).trans rfl; have hcz33_4 : w32.cell? ⟨gb107, 4, none⟩ = some (.string a0_4) := (blk_cell BK107.out 4).trans rfl; have hcz33_5 : w32.cell? ⟨gb107, 5, none⟩ = some (.int .i64 a0_5) := (blk_cell BK107.out 5).trans rfl; have hcz33_6 : w32.cell? ⟨gb107, 6, none⟩ = some (.int .i64 a0_6) := (blk_cell BK107.out 6).trans rfl; have hcz33_7 : w32.cell? ⟨gb107, 7, none⟩ = some (.int .i64 a0_7) := (blk_cell BK107.out 7).trans rfl; have hcz33_8 : w32.cell? ⟨gb107, 8, none⟩ = some (.slice A0_8 l0_8.length c0_8) := (blk_cell BK107.out 8).trans rfl; have hcz33_9 : w32.cell? ⟨gb107, 9, none⟩ = some (.slice A0_9 l0_9.length c0_9) := (blk_cell BK107.out 9).trans rfl; have hcz33_10 : w32.cell? ⟨gb107, 10, none⟩ = some (.slice A0_10 l0_10.length c0_10) := (blk_cell BK107.out 10).trans rfl; have hfz33_0 := blk_frozen BK107.out 0; have hfz33_1 := blk_frozen BK107.out 1; have hfz33_2 := blk_frozen BK107.out 2; have hfz33_3 := blk_frozen BK107.out 3; have hfz33_4 := blk_frozen BK107.out 4; have hfz33_5 := blk_frozen BK107.out 5; have hfz33_6 := blk_frozen BK107.out 6; have hfz33_7 := blk_frozen BK107.out 7; have hfz33_8 := blk_frozen BK107.out 8; have hfz33_9 := blk_frozen BK107.out 9; have hfz33_10 := blk_frozen BK107.out 10) | (go_at_call 33; (with_reducible refine (span_mayEvents.calls _ _ l0_9 true _ ?side1 ?side2 A28.out q7y0).mono ?_); (case side1 => repeat (first | exact (Kd.C_below HR0_9.out HB.out) | (with_reducible refine Kd.C_alloc ?_ _) | (with_reducible refine Kd.C_drewN ?_ _) | (with_reducible refine Kd.C_drew ?_))); (case side2 => exact HC0_9.out); rintro e w34 ⟨rfl, hb⟩; have n0_ := Aside0.mk (blk_below (g := gb107) (o := .cells #[.int .u64 a0_0, .int .u64 a0_1, .int .u64 a0_2, .string a0_3, .string a0_4, .int .i64 a0_5, .int .i64 a0_6, .int .i64 a0_7, .slice A0_8 l0_8.length c0_8, .slice A0_9 l0_9.length c0_9, .slice A0_10 l0_10.length c0_10] 36 (0, 0)) q7y3 hb); have n1_ := Aside0.mk (below_step q7y1 hb); clear BK107; clear HB; have BK107 := n0_; have HB := n1_; clear n0_ n1_; (try clear hb); (try clear hb2); (try clear hk); (try clear hi); have hcz35_0 : w34.cell? ⟨gb107, 0, none⟩ = some (.int .u64 a0_0) := (blk_cell BK107.out 0).trans rfl; have hcz35_1 : w34.cell? ⟨gb107, 1, none⟩ = some (.int .u64 a0_1) := (blk_cell BK107.out 1).trans rfl; have hcz35_2 : w34.cell? ⟨gb107, 2, none⟩ = some (.int .u64 a0_2) := (blk_cell BK107.out 2).trans rfl; have hcz35_3 : w34.cell? ⟨gb107, 3, none⟩ = some (.string a0_3) := (blk_cell BK107.out 3).trans rfl; have hcz35_4 : w34.cell? ⟨gb107, 4, none⟩ = some (.string a0_4) := (blk_cell BK107.out 4).trans rfl; have hcz35_5 : w34.cell? ⟨gb107, 5, none⟩ = some (.int .i64 a0_5) := (blk_cell BK107.out 5).trans rfl; have hcz35_6 : w34.cell? ⟨gb107, 6, none⟩ = some (.int .i64 a0_6) := (blk_cell BK107.out 6).trans rfl; have hcz35_7 : w34.cell? ⟨gb107, 7, none⟩ = some (.int .i64 a0_7) := (blk_cell BK107.out 7).trans rfl; have hcz35_8 : w34.cell? ⟨gb107, 8, none⟩ = some (.slice A0_8 l0_8.length c0_8) := (blk_cell BK107.out 8).trans rfl; have hcz35_9 : w34.cell? ⟨gb107, 9, none⟩ = some (.slice A0_9 l0_9.length c0_9) := (blk_cell BK107.out 9).trans rfl; have hcz35_10 : w34.cell? ⟨gb107, 10, none⟩ = some (.slice A0_10 l0_10.length c0_10) := (blk_cell BK107.out 10).trans rfl; have hfz35_0 := blk_frozen BK107.out 0; have hfz35_1 := blk_frozen BK107.out 1; have hfz35_2 := blk_frozen BK107.out 2; have hfz35_3 := blk_frozen BK107.out 3; have hfz35_4 := blk_frozen BK107.out 4; have hfz35_5 := blk_frozen BK107.out 5; have hfz35_6 := blk_frozen BK107.out 6; have hfz35_7 := blk_frozen BK107.out 7; have hfz35_8 := blk_frozen BK107.out 8; have hfz35_9 := blk_frozen BK107.out 9; have hfz35_10 := blk_frozen BK107.out 10) | (go_at_call 34; (with_reducible refine (span_mayLinks.calls _ _ l0_10 t114 _ ?side1 ?side2 A30.out).mono ?_); (case side1 => repeat (first | exact (Kd.C_below HR0_10.out HB.out) | (with_reducible refine Kd.C_alloc ?_ _) | (with_reducible refine Kd.C_drewN ?_ _) | (with_reducible refine Kd.C_drew ?_))); (case side2 => exact HC0_10.out); rintro e w36 ⟨rfl, hb⟩; have n0_ := Aside0.mk (blk_below (g := gb107) (o := .cells #[.int .u64 a0_0, .int .u64 a0_1, .int .u64 a0_2, .string a0_3, .string a0_4, .int .i64 a0_5, .int .i64 a0_6, .int .i64 a0_7, .slice A0_8 l0_8.length c0_8, .slice A0_9 l0_9.length c0_9, .slice A0_10 l0_10.length c0_10] 36 (0, 0)) q7y3 hb); have n1_ := Aside0.mk (below_step q7y1 hb); clear BK107; clear HB; have BK107 := n0_; have HB := n1_; clear n0_ n1_; (try clear hb); (try clear hb2); (try clear hk); (try clear hi)))
   go_ret
   exact ⟨by first | rfl | (simp [errW_none, errW_some] <;> rfl) | (simp [*, errW_none, errW_some] <;> rfl), by repeat (first | (with_reducible first | exact HB.out | apply below_alloc | apply pw_below_drewN | apply below_drew1 | refine below_set ?_ GE107.out) | exact HB.out)⟩
end Go.Proofs.YtkeepnmlphbffaaDoor.PSp
