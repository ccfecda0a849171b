-- Written by a program: the kit's print.py, driven for several laws at once. Not trusted: Lean checks it.
import Derived.Test.YtkeepnmlphbffaaDoorPSpx0
import Derived.Test.YtkeepnmlphbffaaDoorPSpx8
import Derived.Test.YtkeepnmlphbffaaDoorPSpx11
import Derived.Test.YtkeepnmlphbffaaDoorPSpx19
import Derived.Test.YtkeepnmlphbffaaDoorExtRight
import Derived.Test.YtkeepnmlphbffaaDoorExtSpan
namespace Go.Proofs.YtkeepnmlphbffaaDoor.PSp
open Go.Proofs.YtkeepnmlphbffaaDoor.Text
open Go.RowKit Go.Proofs.YtkeepnmlphbffaaDoorW.PrintWords Go.Proofs.YtkeepnmlphbffaaDoorW.PrintLast Go.Proofs.YtkeepnmlphbffaaDoorW.PrintMore
attribute [local go_sem] max2_int min2_int max_two min_two max_three min_three max_four min_four   -- for this text's walks alone
set_option linter.unusedVariables false
set_option linter.unusedSimpArgs false

/-! ### cambiumlaw16_SpanValues: function 3 -/
def q20m (n m : Nat) : Array Bool := ((List.range n).map (Nat.testBit m)).toArray
theorem q20a {α : Type} (xs : List α) (i : Nat) (x : α) : xs.toArray.setIfInBounds i x = (xs.set i x).toArray := List.setIfInBounds_toArray ..
theorem q20b {α : Type} (x y : α) (xs : List α) : (x :: xs).set 0 y = y :: xs := List.set_cons_zero ..
theorem q20c {α : Type} (x y : α) (xs : List α) (n : Nat) : (x :: xs).set (n + 1) y = x :: xs.set n y := List.set_cons_succ ..
theorem q20h {w w' : World} {p : Addr} {v : Value} (h : Below w.heap.size w w') (x : w.cell? p = some v) : w'.cell? p = some v := (h.cell (World.block_lt_of_cell? w _ x)).trans x
theorem q20p {P : Program} {md : Region.Mode} {ops : Array Oper} {Q : Exit → Act → World → Prop} {S : World → Prop} {ds : List Nat} {T : Bool × List (List Nat × List Nat)} {i : Nat} {N : Option Tmp} {oi : Oper} {v : Value} {fuel : Nat} {l : Array Bool} {a : Act} {w : World} (l' : Array Bool) (hT : rtab md ops = T) {a' : Act}
    (h : wpAnyLast P md ops Q S ds fuel l' a' w) (hi : ops[i]? = some oi := by rfl) (hN : oi.dst = N := by rfl) (hc : anyT T l.toList l'.toList i = true := by kernel_rfl) (hQ : ∀ c a w, Q (.panic c) (a.put oi.dst v) w → Q (.panic c) a w := by exact fun _ _ _ h => h)
    (hw : Region.wanted oi (yielded ops a.tmps) = true := by rfl) (hy : ∀ w', (execOp a.eval oi).run P w' = .ok (.value v) w' := by intro w'; go_simp; with_reducible rfl) (ha : a.put N v = a' := by simp only [Act.put, q20a, q20b, q20c, i64_w, i32_w]; rfl) :
    wpAnyLast P md ops Q S ds (fuel + 1) l a w := pure_ l' hi hN (any_of hT hc) hQ (Or.inl ⟨hw, hy⟩) ha h
theorem q20u {P : Program} {md : Region.Mode} {ops : Array Oper} {Q : Exit → Act → World → Prop} {S : World → Prop} {ds : List Nat} {T : Bool × List (List Nat × List Nat)} {i : Nat} {N : Option Tmp} {oi : Oper} {fuel : Nat} {l : Array Bool} {a : Act} {w : World} (l' : Array Bool) (hT : rtab md ops = T) {a' : Act}
    (h : wpAnyLast P md ops Q S ds fuel l' a' w) (hi : ops[i]? = some oi := by rfl) (hN : oi.dst = N := by rfl) (hc : anyT T l.toList l'.toList i = true := by kernel_rfl) (hQ : ∀ c a w, Q (.panic c) (a.put oi.dst undef) w → Q (.panic c) a w := by exact fun _ _ _ h => h)
    (hw : Region.wanted oi (yielded ops a.tmps) = false := by rfl) (ha : a.put N undef = a' := by simp only [Act.put, q20a, q20b, q20c, i64_w, i32_w]; rfl) :
    wpAnyLast P md ops Q S ds (fuel + 1) l a w := pure_ l' hi hN (any_of hT hc) hQ (Or.inr ⟨hw, rfl⟩) ha h
theorem q20k {w : World} {g : Nat} {cs : Array Value} {t : TypeId} (h : w.heap[g]? = some (.cells cs t (0, 0))) (i : Nat) {v : Value} (e : cs[i]? = some v := by rfl) : w.cell? ⟨g, i, none⟩ = some v := (blk_cell h i).trans e
theorem q20y0 {P : Prop} (h : P := by repeat (first | (with_reducible first | exact HB.out | apply below_alloc | apply pw_below_drewN | apply below_drew1 | refine below_set ?_ GE250.out | refine below_set ?_ GE251.out) | exact HB.out)) : P := h
theorem q20y1 {P : Prop} (h : P := by (try simp only [List.map_toArray, List.map_cons, List.map_nil]); first | done | rfl | (simp only [List.length_drop, List.length_take]; rfl)) : P := h
theorem q20y2 {P : Prop} (h : P := by (with_reducible repeat (first | refine blk_drewN ?_ _ | refine blk_drew ?_ | refine blk_alloc ?_ _)); exact BK250.out) : P := h
theorem q20y3 {P : Prop} (h : P := by (with_reducible repeat (first | refine blk_drewN ?_ _ | refine blk_drew ?_ | refine blk_alloc ?_ _)); exact BK251.out) : P := h
theorem q20y4 {P : Prop} (h : P := by first | (with_reducible exact HTab_.out) | (with_reducible exact tabs_below HTab_.out HB.out) | exact tabs_below HTab_.out (by repeat (first | (with_reducible first | exact HB.out | apply below_alloc | apply pw_below_drewN | apply below_drew1 | refine below_set ?_ (Aside0.out (by assumption))) | exact HB.out))) : P := h
theorem q20y5 {P : Prop} (h : P := by repeat (first | (with_reducible first | exact HB.out | apply below_alloc | apply pw_below_drewN | apply below_drew1 | refine below_set ?_ GE250.out) | exact HB.out)) : P := h
theorem q20y6 {P : Prop} (h : P := by repeat (first | (with_reducible first | exact HB.out | apply below_alloc | apply pw_below_drewN | apply below_drew1) | exact HB.out)) : P := h

def cambiumlaw16_SpanValues.j0 : Nat → Bool → Int → ByteArray → Int → Bool → Int → ByteArray → Int → Bool → Option (Bool)
 | 0, _, _, _, _, _, _, _, _, _ => none
 | k + 1, x24, x251000, x251001, x251002, x251003, x252000, x252001, x252002, x252003 => if x24 = true then (some true) else ((span_Compare.f x251000 x251001 x251002 x251003 x252000 x252001 x252002 x252003).bind fun bt253 => ((cambiumref16_Compare.f k x251000 x251001 x251002 x251003 x252000 x252001 x252002 x252003).bind fun bt255 => ((span_Compare.f x252000 x252001 x252002 x252003 x251000 x251001 x251002 x251003).bind fun bt257 => ((span_Compare.f x251000 x251001 x251002 x251003 x251000 x251001 x251002 x251003).bind fun bt259 => (if bt253.1 = bt255.1 then (if (bt253.2 == bt255.2) = true then (if bt257.1 = (wrap64 (-bt253.1)) then (if (bt257.2 == bt253.2) = true then (if bt259.1 = 0 then (if x251000 ≥ 0 then (if (bt259.2 == (decide (x251000 ≤ 2))) = true then ((span_MayValue.f x251000 x251001 x251002 x251003).bind fun t261 => ((cambiumref16_Value.f k x251000 x251001 x251002 x251003).bind fun t262 => (some (t261 == t262)))) else (some false)) else (if (bt259.2 == false) = true then ((span_MayValue.f x251000 x251001 x251002 x251003).bind fun t263 => ((cambiumref16_Value.f k x251000 x251001 x251002 x251003).bind fun t264 => (some (t263 == t264)))) else (some false))) else (some false)) else (some false)) else (some false)) else (some false)) else (some false))))))
def cambiumlaw16_SpanValues.f (k : Nat) (a0_0 : Int) (a0_1 : ByteArray) (a0_2 : Int) (a0_3 : Bool) (a1_0 : Int) (a1_1 : ByteArray) (a1_2 : Int) (a1_3 : Bool) : Option (Bool) := (cambiumlaw16_awake.f k).bind fun t252 => (if t252 = true then (if (a0_1.size : Int) > 1000 then (cambiumlaw16_SpanValues.j0 k true a0_0 a0_1 a0_2 a0_3 a1_0 a1_1 a1_2 a1_3) else (cambiumlaw16_SpanValues.j0 k (decide ((a1_1.size : Int) > 1000)) a0_0 a0_1 a0_2 a0_3 a1_0 a1_1 a1_2 a1_3)) else (some false))
theorem cambiumlaw16_SpanValues.mono_l : ∀ k, (∀ y0 y1 y2 y3 y4 y5 y6 y7 y8, LeO (cambiumlaw16_SpanValues.j0 k y0 y1 y2 y3 y4 y5 y6 y7 y8) (cambiumlaw16_SpanValues.j0 (k + 1) y0 y1 y2 y3 y4 y5 y6 y7 y8))
 | 0 => fun _ _ _ _ _ _ _ _ _ r h => by simp [cambiumlaw16_SpanValues.j0] at h
 | k + 1 => by
  have ih0 := cambiumlaw16_SpanValues.mono_l k
  ·intro y0 y1 y2 y3 y4 y5 y6 y7 y8
   unfold cambiumlaw16_SpanValues.j0
   repeat' first
   | (with_reducible exact ih0 _ _ _ _ _ _ _ _ _)
   | (with_reducible exact cambiumlaw16_awake.mono _)
   | (with_reducible exact cambiumref16_Compare.mono _ _ _ _ _ _ _ _ _)
   | (with_reducible exact cambiumref16_Value.mono _ _ _ _ _)
   | (with_reducible exact LeO.refl _)
   | (with_reducible exact LeO.none _)
   | (with_reducible refine LeO.ite ?_ ?_)
   | (with_reducible refine LeO.bind ?_ (fun _ => ?_))
   | exact ih0 _ _ _ _ _ _ _ _ _
   | exact cambiumlaw16_awake.mono _
   | exact cambiumref16_Compare.mono _ _ _ _ _ _ _ _ _
   | exact cambiumref16_Value.mono _ _ _ _ _
   | exact LeO.none _
   | refine LeO.ite ?_ ?_
   | refine LeO.bind ?_ (fun _ => ?_)
theorem cambiumlaw16_SpanValues.mono : ∀ a0 a1 a2 a3 a4 a5 a6 a7 k, LeO (cambiumlaw16_SpanValues.f k a0 a1 a2 a3 a4 a5 a6 a7) (cambiumlaw16_SpanValues.f (k + 1) a0 a1 a2 a3 a4 a5 a6 a7) := by
 intro a0 a1 a2 a3 a4 a5 a6 a7 k
 have ih0 := cambiumlaw16_SpanValues.mono_l k
 unfold cambiumlaw16_SpanValues.f
 repeat' first
   | (with_reducible exact ih0 _ _ _ _ _ _ _ _ _)
   | (with_reducible exact cambiumlaw16_awake.mono _)
   | (with_reducible exact cambiumref16_Compare.mono _ _ _ _ _ _ _ _ _)
   | (with_reducible exact cambiumref16_Value.mono _ _ _ _ _)
   | (with_reducible exact LeO.refl _)
   | (with_reducible exact LeO.none _)
   | (with_reducible refine LeO.ite ?_ ?_)
   | (with_reducible refine LeO.bind ?_ (fun _ => ?_))
   | exact ih0 _ _ _ _ _ _ _ _ _
   | exact cambiumlaw16_awake.mono _
   | exact cambiumref16_Compare.mono _ _ _ _ _ _ _ _ _
   | exact cambiumref16_Value.mono _ _ _ _ _
   | exact LeO.none _
   | refine LeO.ite ?_ ?_
   | refine LeO.bind ?_ (fun _ => ?_)
def cambiumlaw16_SpanValues.T9 : Bool × List (List Nat × List Nat) := (true, [([], []), ([], []), ([0, 1], [0, 1]), ([2], [2]), ([3], [3]), ([3], [3]), ([4, 5, 3], [3, 4, 5]), ([3, 6], [3, 6]), ([7, 3], [7]), ([8], [8]), ([8], [8]), ([10, 8], [8, 10]), ([9, 11, 8], [8, 9, 11]), ([8, 12], [8, 12]), ([13, 8], [13]), ([14], [14]), ([14], [14]), ([15, 16, 14], [14, 15, 16]), ([14, 17], [14, 17]), ([18, 14], [18]), ([19], [19]), ([20, 19], [19, 20]), ([19, 21], [19, 21]), ([22, 19], [22]), ([23], [23]), ([23], [23]), ([25, 23], [23, 25]), ([26, 23], [23, 26]), ([27, 23, 23], [23, 27]), ([28], [28]), ([29, 28], [28, 29]), ([30, 28], [28, 30]), ([28, 31, 23], [23, 28, 31]), ([24, 32, 23], [23, 24, 32]), ([23, 33], [23, 33]), ([34, 28], [34]), ([35], [35]), ([36, 35, 35], [35, 36]), ([35], [35]), ([38, 37, 35], [35, 38]), ([37, 39, 35], [35, 37, 39]), ([35, 40], [35, 40]), ([41, 39, 0, 1, 2, 3, 4, 5, 6, 7, 8, 9, 10, 11, 12, 13, 14, 15, 16, 17, 18, 19, 20, 21, 22, 23, 24, 25, 26, 27, 28, 29, 30, 31, 32, 33, 34, 35, 36, 37, 38, 39, 40, 41], [41])])
def cambiumlaw16_SpanValues.B9 : List Nat := [0, 0, 3, 7, 15, 15, 63, 127, 255, 511, 511, 1535, 4095, 8191, 16383, 32767, 32767, 131071, 262143, 524287, 1048575, 2097151, 4194303, 8388607, 16777215, 16777215, 50331647, 117440511, 251658239, 520093695, 1056964607, 2130706431, 4278190079, 8589934591, 17179869183, 34359738367, 68719476735, 137438953471, 68719476735, 549755813887, 1099511627775, 2199023255551, 4398046511103]
theorem cambiumlaw16_SpanValues.tab9 : rtab .any (opsOf Tryd.f3 9) = cambiumlaw16_SpanValues.T9 := by kernel_rfl
theorem cambiumlaw16_SpanValues.bits9 : waitsOk cambiumlaw16_SpanValues.T9.2 cambiumlaw16_SpanValues.B9 = true := by kernel_rfl
set_option maxHeartbeats 8000000 in
set_option maxRecDepth 100000 in
theorem cambiumlaw16_SpanValues.calls (k : Nat) (a0_0 : Int) (a0_1 : ByteArray) (a0_2 : Int) (a0_3 : Bool) (a1_0 : Int) (a1_1 : ByteArray) (a1_2 : Int) (a1_3 : Bool) (r : Bool) (w : World) (h : cambiumlaw16_SpanValues.f k a0_0 a0_1 a0_2 a0_3 a1_0 a1_1 a1_2 a1_3 = some r) (hT_ : Tabs w) :
  Calls Tryd.prog 3 #[.agg #[.int .i64 a0_0, .string a0_1, .int .i64 a0_2, .bool a0_3], .agg #[.int .i64 a1_0, .string a1_1, .int .i64 a1_2, .bool a1_3]] w fun e w' => e = .returned (.bool r) ∧ Below w.heap.size w w' := by
 have HTab_ := Aside0.mk hT_
 clear hT_
 have hu23 := Tryd.underlying23
 have HB := Aside0.mk (Below.refl w.heap.size w)
 have H : ((cambiumlaw16_awake.f k).bind fun t252 => (if t252 = true then (if (a0_1.size : Int) > 1000 then (cambiumlaw16_SpanValues.j0 k true a0_0 a0_1 a0_2 a0_3 a1_0 a1_1 a1_2 a1_3) else (cambiumlaw16_SpanValues.j0 k (decide ((a1_1.size : Int) > 1000)) a0_0 a0_1 a0_2 a0_3 a1_0 a1_1 a1_2 a1_3)) else (some false))) = some r := h
 clear h
 replace H := Option.bind_eq_some_iff.mp H
 obtain ⟨t252, A30, H⟩ := H
 replace H : (if t252 = true then (if (a0_1.size : Int) > 1000 then (cambiumlaw16_SpanValues.j0 k true a0_0 a0_1 a0_2 a0_3 a1_0 a1_1 a1_2 a1_3) else (cambiumlaw16_SpanValues.j0 k (decide ((a1_1.size : Int) > 1000)) a0_0 a0_1 a0_2 a0_3 a1_0 a1_1 a1_2 a1_3)) else (some false)) = some r := H
 have A3 := Aside0.mk A30
 clear A30
 by_cases c4 : t252 = true
 rotate_left
 ·replace c4 := Bool.eq_false_iff.mpr c4
  subst c4
  have H1 : (some false) = some r := by rw [if_neg (show ¬ (false = true) by decide)] at H; exact H
  clear H
  have H := H1
  clear H1
  obtain rfl := Option.some.inj H
  go_enter Tryd.func3, Tryd.ntmps3
  go_wp2_with (first | ((with_reducible refine gate_dst (N := 2) rfl ?_); (try (refine gate_guard (by rfl) ?_; dsimp only)); refine box_event ?hg (N := 2) ?hd (cs := #[.int .i64 a0_0, .string a0_1, .int .i64 a0_2, .bool a0_3]) (t := 23) ?hr ?_; (case hd => rfl); (case hg => rfl); (case hr => first | (go_simp; done) | (go_simp; rfl)); intro gb250 hg w153 hbox hb; have n0_ := Aside0.mk (below_step q20y6 hb); have n1_ := Aside0.mk (hbox); have n2_ := Aside0.mk ((by rw [hg]; exact (below_size q20y6) : w.heap.size ≤ gb250)); have n3_ := Aside0.mk ((by rw [hg]; exact (below_size q20y6) : w.heap.size ≤ gb250)); clear HB; have HB := n0_; have BK250 := n1_; have GW250 := n2_; have GE250 := n3_; clear n0_ n1_ n2_ n3_; clear hb hbox hg) | ((with_reducible refine gate_dst (N := 3) rfl ?_); (try (refine gate_guard (by rfl) ?_; dsimp only)); refine box_event ?hg (N := 3) ?hd (cs := #[.int .i64 a1_0, .string a1_1, .int .i64 a1_2, .bool a1_3]) (t := 23) ?hr ?_; (case hd => rfl); (case hg => rfl); (case hr => first | (go_simp; done) | (go_simp; rfl)); intro gb251 hg w154 hbox hb; have n0_ := Aside0.mk (blk_below (g := gb250) (o := .cells #[.int .i64 a0_0, .string a0_1, .int .i64 a0_2, .bool a0_3] 23 (0, 0)) q20y2 hb); have n1_ := Aside0.mk (below_step q20y5 hb); have n2_ := Aside0.mk (hbox); have n3_ := Aside0.mk ((by rw [hg]; exact (below_size q20y5) : w.heap.size ≤ gb251)); have n4_ := Aside0.mk ((by rw [hg]; exact (below_size q20y5) : w.heap.size ≤ gb251)); have n5_ := Aside0.mk ((by rw [hg]; exact Nat.ne_of_lt (blk_lt (g := gb250) (o := .cells #[.int .i64 a0_0, .string a0_1, .int .i64 a0_2, .bool a0_3] 23 (0, 0)) q20y2) : gb250 ≠ gb251)); have n6_ := Aside0.mk ((by rw [hg]; exact Nat.ne_of_gt (blk_lt (g := gb250) (o := .cells #[.int .i64 a0_0, .string a0_1, .int .i64 a0_2, .bool a0_3] 23 (0, 0)) q20y2) : gb251 ≠ gb250)); clear BK250; clear HB; have BK250 := n0_; have HB := n1_; have BK251 := n2_; have GW251 := n3_; have GE251 := n4_; have NB250_251 := n5_; have NB251_250 := n6_; clear n0_ n1_ n2_ n3_ n4_ n5_ n6_; clear hb hbox hg) | ((with_reducible refine gate_callee (f := 8) rfl ?_); refine goesL_ (some 13) rfl rfl Tryd.func8 (by kernel_rfl) rfl #[] rfl q20y1 ?_; (with_reducible refine (cambiumlaw16_awake.calls k  false _ A3.out q20y4).mono ?_); rintro e w155 ⟨rfl, hb⟩; refine ⟨_, rfl, ?_⟩; have n0_ := Aside0.mk (blk_below (g := gb250) (o := .cells #[.int .i64 a0_0, .string a0_1, .int .i64 a0_2, .bool a0_3] 23 (0, 0)) q20y2 hb); have n1_ := Aside0.mk (blk_below (g := gb251) (o := .cells #[.int .i64 a1_0, .string a1_1, .int .i64 a1_2, .bool a1_3] 23 (0, 0)) q20y3 hb); have n2_ := Aside0.mk (below_step q20y0 hb); clear BK250; clear BK251; clear HB; have BK250 := n0_; have BK251 := n1_; have HB := n2_; clear n0_ n1_ n2_; (try clear hb); (try clear hb2); (try clear hk); (try clear hi)))
  go_ret
  exact ⟨by first | rfl | (simp [errW_none, errW_some] <;> rfl) | (simp [*, errW_none, errW_some] <;> rfl), by repeat (first | (with_reducible first | exact HB.out | apply below_alloc | apply pw_below_drewN | apply below_drew1 | refine below_set ?_ GE250.out | refine below_set ?_ GE251.out) | exact HB.out)⟩

 subst c4
 have H1 : (if (a0_1.size : Int) > 1000 then (cambiumlaw16_SpanValues.j0 k true a0_0 a0_1 a0_2 a0_3 a1_0 a1_1 a1_2 a1_3) else (cambiumlaw16_SpanValues.j0 k (decide ((a1_1.size : Int) > 1000)) a0_0 a0_1 a0_2 a0_3 a1_0 a1_1 a1_2 a1_3)) = some r := by rw [if_pos rfl] at H; exact H
 clear H
 have H := H1
 clear H1
 have HC5 := Aside0.mk H
 clear H
 go_enter Tryd.func3, Tryd.ntmps3
 go_upto_region 3 with (first | ((with_reducible refine gate_dst (N := 2) rfl ?_); (try (refine gate_guard (by rfl) ?_; dsimp only)); refine box_event ?hg (N := 2) ?hd (cs := #[.int .i64 a0_0, .string a0_1, .int .i64 a0_2, .bool a0_3]) (t := 23) ?hr ?_; (case hd => rfl); (case hg => rfl); (case hr => first | (go_simp; done) | (go_simp; rfl)); intro gb250 hg w6 hbox hb; have n0_ := Aside0.mk (below_step q20y6 hb); have n1_ := Aside0.mk (hbox); have n2_ := Aside0.mk ((by rw [hg]; exact (below_size q20y6) : w.heap.size ≤ gb250)); have n3_ := Aside0.mk ((by rw [hg]; exact (below_size q20y6) : w.heap.size ≤ gb250)); clear HB; have HB := n0_; have BK250 := n1_; have GW250 := n2_; have GE250 := n3_; clear n0_ n1_ n2_ n3_; clear hb hbox hg) | ((with_reducible refine gate_dst (N := 3) rfl ?_); (try (refine gate_guard (by rfl) ?_; dsimp only)); refine box_event ?hg (N := 3) ?hd (cs := #[.int .i64 a1_0, .string a1_1, .int .i64 a1_2, .bool a1_3]) (t := 23) ?hr ?_; (case hd => rfl); (case hg => rfl); (case hr => first | (go_simp; done) | (go_simp; rfl)); intro gb251 hg w7 hbox hb; have n0_ := Aside0.mk (blk_below (g := gb250) (o := .cells #[.int .i64 a0_0, .string a0_1, .int .i64 a0_2, .bool a0_3] 23 (0, 0)) q20y2 hb); have n1_ := Aside0.mk (below_step q20y5 hb); have n2_ := Aside0.mk (hbox); have n3_ := Aside0.mk ((by rw [hg]; exact (below_size q20y5) : w.heap.size ≤ gb251)); have n4_ := Aside0.mk ((by rw [hg]; exact (below_size q20y5) : w.heap.size ≤ gb251)); have n5_ := Aside0.mk ((by rw [hg]; exact Nat.ne_of_lt (blk_lt (g := gb250) (o := .cells #[.int .i64 a0_0, .string a0_1, .int .i64 a0_2, .bool a0_3] 23 (0, 0)) q20y2) : gb250 ≠ gb251)); have n6_ := Aside0.mk ((by rw [hg]; exact Nat.ne_of_gt (blk_lt (g := gb250) (o := .cells #[.int .i64 a0_0, .string a0_1, .int .i64 a0_2, .bool a0_3] 23 (0, 0)) q20y2) : gb251 ≠ gb250)); clear BK250; clear HB; have BK250 := n0_; have HB := n1_; have BK251 := n2_; have GW251 := n3_; have GE251 := n4_; have NB250_251 := n5_; have NB251_250 := n6_; clear n0_ n1_ n2_ n3_ n4_ n5_ n6_; clear hb hbox hg) | ((with_reducible refine gate_callee (f := 8) rfl ?_); refine goesL_ (some 13) rfl rfl Tryd.func8 (by kernel_rfl) rfl #[] rfl q20y1 ?_; (with_reducible refine (cambiumlaw16_awake.calls k  true _ A3.out q20y4).mono ?_); rintro e w8 ⟨rfl, hb⟩; refine ⟨_, rfl, ?_⟩; have n0_ := Aside0.mk (blk_below (g := gb250) (o := .cells #[.int .i64 a0_0, .string a0_1, .int .i64 a0_2, .bool a0_3] 23 (0, 0)) q20y2 hb); have n1_ := Aside0.mk (blk_below (g := gb251) (o := .cells #[.int .i64 a1_0, .string a1_1, .int .i64 a1_2, .bool a1_3] 23 (0, 0)) q20y3 hb); have n2_ := Aside0.mk (below_step q20y0 hb); clear BK250; clear BK251; clear HB; have BK250 := n0_; have BK251 := n1_; have HB := n2_; clear n0_ n1_ n2_; (try clear hb); (try clear hb2); (try clear hk); (try clear hi)))
 (try simp only [Act.put, q20a, q20b, q20c])
 go_cut [24] (fun v24 wc => ∃ (kq : Nat) (x24_4 : Bool), v24 = .bool x24_4 ∧ Aside0 (cambiumlaw16_SpanValues.j0 kq x24_4 a0_0 a0_1 a0_2 a0_3 a1_0 a1_1 a1_2 a1_3 = some r) ∧ Aside0 (kq ≤ k) ∧ Aside0 (wc.heap[gb250]? = some (.cells #[.int .i64 a0_0, .string a0_1, .int .i64 a0_2, .bool a0_3] 23 (0, 0))) ∧ Aside0 (wc.heap[gb251]? = some (.cells #[.int .i64 a1_0, .string a1_1, .int .i64 a1_2, .bool a1_3] 23 (0, 0))) ∧ Aside0 (Below w.heap.size w wc))
 case first =>
  have H := HC5.out
  clear HC5
  by_cases c9 : (a0_1.size : Int) > 1000
  ·rw [if_pos c9] at H
   have c9b0 : decide (1000 < (a0_1.size : Int)) = true := decide_eq_true c9
   have c9b1 : decide (1000 < a0_1.size) = true := decide_eq_true (by omega)
   clear c9
   (first | rw [c9b0] | (simp only [i64_w, i32_w]; rw [c9b0]) | skip)
   have H' := Aside0.mk H
   clear H
   have hnb10 := NB250_251.out
   have hnc10 := NB251_250.out
   have hcz11_0 : w8.cell? ⟨gb250, 0, none⟩ = some (.int .i64 a0_0) := (blk_cell BK250.out 0).trans rfl
   have hcz11_1 : w8.cell? ⟨gb250, 1, none⟩ = some (.string a0_1) := (blk_cell BK250.out 1).trans rfl
   have hcz11_2 : w8.cell? ⟨gb250, 2, none⟩ = some (.int .i64 a0_2) := (blk_cell BK250.out 2).trans rfl
   have hcz11_3 : w8.cell? ⟨gb250, 3, none⟩ = some (.bool a0_3) := (blk_cell BK250.out 3).trans rfl
   have hfz11_0 := blk_frozen BK250.out 0
   have hfz11_1 := blk_frozen BK250.out 1
   have hfz11_2 := blk_frozen BK250.out 2
   have hfz11_3 := blk_frozen BK250.out 3
   go_wp2
   go_meet
   case rel => exact ⟨_, (true), (by first | rfl | (simp; done) | (simp [*]; done)), H', ⟨by first | omega | exact Nat.le_refl _⟩, ⟨by (with_reducible repeat (first | refine blk_drewN ?_ _ | refine blk_drew ?_ | refine blk_alloc ?_ _)); exact BK250.out⟩, ⟨by (with_reducible repeat (first | refine blk_drewN ?_ _ | refine blk_drew ?_ | refine blk_alloc ?_ _)); exact BK251.out⟩, ⟨by repeat (first | (with_reducible first | exact HB.out | apply below_alloc | apply pw_below_drewN | apply below_drew1 | refine below_set ?_ GE250.out | refine below_set ?_ GE251.out) | exact HB.out)⟩⟩
  rw [if_neg c9] at H
  have c9b0 : decide (1000 < (a0_1.size : Int)) = false := decide_eq_false c9
  have c9b1 : decide (1000 < a0_1.size) = false := decide_eq_false (by omega)
  clear c9
  (first | rw [c9b0] | (simp only [i64_w, i32_w]; rw [c9b0]) | skip)
  have H' := Aside0.mk H
  clear H
  have hnb12 := NB250_251.out
  have hnc12 := NB251_250.out
  have hcz13_0 : w8.cell? ⟨gb250, 0, none⟩ = some (.int .i64 a0_0) := (blk_cell BK250.out 0).trans rfl
  have hcz13_1 : w8.cell? ⟨gb250, 1, none⟩ = some (.string a0_1) := (blk_cell BK250.out 1).trans rfl
  have hcz13_2 : w8.cell? ⟨gb250, 2, none⟩ = some (.int .i64 a0_2) := (blk_cell BK250.out 2).trans rfl
  have hcz13_3 : w8.cell? ⟨gb250, 3, none⟩ = some (.bool a0_3) := (blk_cell BK250.out 3).trans rfl
  have hfz13_0 := blk_frozen BK250.out 0
  have hfz13_1 := blk_frozen BK250.out 1
  have hfz13_2 := blk_frozen BK250.out 2
  have hfz13_3 := blk_frozen BK250.out 3
  have hcz14_0 : w8.cell? ⟨gb251, 0, none⟩ = some (.int .i64 a1_0) := (blk_cell BK251.out 0).trans rfl
  have hcz14_1 : w8.cell? ⟨gb251, 1, none⟩ = some (.string a1_1) := (blk_cell BK251.out 1).trans rfl
  have hcz14_2 : w8.cell? ⟨gb251, 2, none⟩ = some (.int .i64 a1_2) := (blk_cell BK251.out 2).trans rfl
  have hcz14_3 : w8.cell? ⟨gb251, 3, none⟩ = some (.bool a1_3) := (blk_cell BK251.out 3).trans rfl
  have hfz14_0 := blk_frozen BK251.out 0
  have hfz14_1 := blk_frozen BK251.out 1
  have hfz14_2 := blk_frozen BK251.out 2
  have hfz14_3 := blk_frozen BK251.out 3
  go_wp2
  go_meet
  case rel => exact ⟨_, (decide ((a1_1.size : Int) > 1000)), (by first | rfl | (simp; done) | (simp [*]; done)), H', ⟨by first | omega | exact Nat.le_refl _⟩, ⟨by (with_reducible repeat (first | refine blk_drewN ?_ _ | refine blk_drew ?_ | refine blk_alloc ?_ _)); exact BK250.out⟩, ⟨by (with_reducible repeat (first | refine blk_drewN ?_ _ | refine blk_drew ?_ | refine blk_alloc ?_ _)); exact BK251.out⟩, ⟨by repeat (first | (with_reducible first | exact HB.out | apply below_alloc | apply pw_below_drewN | apply below_drew1 | refine below_set ?_ GE250.out | refine below_set ?_ GE251.out) | exact HB.out)⟩⟩
 case rest =>
  clear HC5
  try clear c1
  try clear p2
  try clear c3
  try clear c4
  try clear c8
  try clear c9
  try clear c9b0
  try clear c9b1
  try clear c10
  try clear c12
  try clear hcz11_0 hcz11_1 hcz11_2 hcz11_3
  try clear hcz13_0 hcz13_1 hcz13_2 hcz13_3
  try clear hcz14_0 hcz14_1 hcz14_2 hcz14_3
  try clear hfz11_0 hfz11_1 hfz11_2 hfz11_3
  try clear hfz13_0 hfz13_1 hfz13_2 hfz13_3
  try clear hfz14_0 hfz14_1 hfz14_2 hfz14_3
  obtain ⟨kq, x24_4, rfl, HA, HJ4, BK250, BK251, HB⟩ := hcut
  cases kq with
  | zero => exact absurd HA.out (by simp [cambiumlaw16_SpanValues.j0])
  | succ kj4 =>
   have H := HA.out
   clear HA
   simp only [cambiumlaw16_SpanValues.j0] at H
   by_cases c15 : x24_4 = true
   ·subst c15
    have H1 : (some true) = some r := by rw [if_pos rfl] at H; exact H
    clear H
    have H := H1
    clear H1
    obtain rfl := Option.some.inj H
    go_wp2
    go_ret
    exact ⟨by first | rfl | (simp [errW_none, errW_some] <;> rfl) | (simp [*, errW_none, errW_some] <;> rfl), by repeat (first | (with_reducible first | exact HB.out | apply below_alloc | apply pw_below_drewN | apply below_drew1 | refine below_set ?_ GE250.out | refine below_set ?_ GE251.out) | exact HB.out)⟩
   replace c15 := Bool.eq_false_iff.mpr c15
   subst c15
   have H1 : ((span_Compare.f a0_0 a0_1 a0_2 a0_3 a1_0 a1_1 a1_2 a1_3).bind fun bt253 => ((cambiumref16_Compare.f kj4 a0_0 a0_1 a0_2 a0_3 a1_0 a1_1 a1_2 a1_3).bind fun bt255 => ((span_Compare.f a1_0 a1_1 a1_2 a1_3 a0_0 a0_1 a0_2 a0_3).bind fun bt257 => ((span_Compare.f a0_0 a0_1 a0_2 a0_3 a0_0 a0_1 a0_2 a0_3).bind fun bt259 => (if bt253.1 = bt255.1 then (if (bt253.2 == bt255.2) = true then (if bt257.1 = (wrap64 (-bt253.1)) then (if (bt257.2 == bt253.2) = true then (if bt259.1 = 0 then (if a0_0 ≥ 0 then (if (bt259.2 == (decide (a0_0 ≤ 2))) = true then ((span_MayValue.f a0_0 a0_1 a0_2 a0_3).bind fun t261 => ((cambiumref16_Value.f kj4 a0_0 a0_1 a0_2 a0_3).bind fun t262 => (some (t261 == t262)))) else (some false)) else (if (bt259.2 == false) = true then ((span_MayValue.f a0_0 a0_1 a0_2 a0_3).bind fun t263 => ((cambiumref16_Value.f kj4 a0_0 a0_1 a0_2 a0_3).bind fun t264 => (some (t263 == t264)))) else (some false))) else (some false)) else (some false)) else (some false)) else (some false)) else (some false)))))) = some r := by rw [if_neg (show ¬ (false = true) by decide)] at H; exact H
   clear H
   have H := H1
   clear H1
   replace H := Option.bind_eq_some_iff.mp H
   obtain ⟨⟨t253, t254⟩, A160, H⟩ := H
   replace H : ((cambiumref16_Compare.f kj4 a0_0 a0_1 a0_2 a0_3 a1_0 a1_1 a1_2 a1_3).bind fun bt255 => ((span_Compare.f a1_0 a1_1 a1_2 a1_3 a0_0 a0_1 a0_2 a0_3).bind fun bt257 => ((span_Compare.f a0_0 a0_1 a0_2 a0_3 a0_0 a0_1 a0_2 a0_3).bind fun bt259 => (if t253 = bt255.1 then (if (t254 == bt255.2) = true then (if bt257.1 = (wrap64 (-t253)) then (if (bt257.2 == t254) = true then (if bt259.1 = 0 then (if a0_0 ≥ 0 then (if (bt259.2 == (decide (a0_0 ≤ 2))) = true then ((span_MayValue.f a0_0 a0_1 a0_2 a0_3).bind fun t261 => ((cambiumref16_Value.f kj4 a0_0 a0_1 a0_2 a0_3).bind fun t262 => (some (t261 == t262)))) else (some false)) else (if (bt259.2 == false) = true then ((span_MayValue.f a0_0 a0_1 a0_2 a0_3).bind fun t263 => ((cambiumref16_Value.f kj4 a0_0 a0_1 a0_2 a0_3).bind fun t264 => (some (t263 == t264)))) else (some false))) else (some false)) else (some false)) else (some false)) else (some false)) else (some false))))) = some r := H
   have A16 := Aside0.mk A160
   clear A160
   replace H := Option.bind_eq_some_iff.mp H
   obtain ⟨⟨t255, t256⟩, A170, H⟩ := H
   replace H : ((span_Compare.f a1_0 a1_1 a1_2 a1_3 a0_0 a0_1 a0_2 a0_3).bind fun bt257 => ((span_Compare.f a0_0 a0_1 a0_2 a0_3 a0_0 a0_1 a0_2 a0_3).bind fun bt259 => (if t253 = t255 then (if (t254 == t256) = true then (if bt257.1 = (wrap64 (-t253)) then (if (bt257.2 == t254) = true then (if bt259.1 = 0 then (if a0_0 ≥ 0 then (if (bt259.2 == (decide (a0_0 ≤ 2))) = true then ((span_MayValue.f a0_0 a0_1 a0_2 a0_3).bind fun t261 => ((cambiumref16_Value.f kj4 a0_0 a0_1 a0_2 a0_3).bind fun t262 => (some (t261 == t262)))) else (some false)) else (if (bt259.2 == false) = true then ((span_MayValue.f a0_0 a0_1 a0_2 a0_3).bind fun t263 => ((cambiumref16_Value.f kj4 a0_0 a0_1 a0_2 a0_3).bind fun t264 => (some (t263 == t264)))) else (some false))) else (some false)) else (some false)) else (some false)) else (some false)) else (some false)))) = some r := H
   have A17 := Aside0.mk A170
   clear A170
   replace H := Option.bind_eq_some_iff.mp H
   obtain ⟨⟨t257, t258⟩, A180, H⟩ := H
   replace H : ((span_Compare.f a0_0 a0_1 a0_2 a0_3 a0_0 a0_1 a0_2 a0_3).bind fun bt259 => (if t253 = t255 then (if (t254 == t256) = true then (if t257 = (wrap64 (-t253)) then (if (t258 == t254) = true then (if bt259.1 = 0 then (if a0_0 ≥ 0 then (if (bt259.2 == (decide (a0_0 ≤ 2))) = true then ((span_MayValue.f a0_0 a0_1 a0_2 a0_3).bind fun t261 => ((cambiumref16_Value.f kj4 a0_0 a0_1 a0_2 a0_3).bind fun t262 => (some (t261 == t262)))) else (some false)) else (if (bt259.2 == false) = true then ((span_MayValue.f a0_0 a0_1 a0_2 a0_3).bind fun t263 => ((cambiumref16_Value.f kj4 a0_0 a0_1 a0_2 a0_3).bind fun t264 => (some (t263 == t264)))) else (some false))) else (some false)) else (some false)) else (some false)) else (some false)) else (some false))) = some r := H
   have A18 := Aside0.mk A180
   clear A180
   replace H := Option.bind_eq_some_iff.mp H
   obtain ⟨⟨t259, t260⟩, A190, H⟩ := H
   replace H : (if t253 = t255 then (if (t254 == t256) = true then (if t257 = (wrap64 (-t253)) then (if (t258 == t254) = true then (if t259 = 0 then (if a0_0 ≥ 0 then (if (t260 == (decide (a0_0 ≤ 2))) = true then ((span_MayValue.f a0_0 a0_1 a0_2 a0_3).bind fun t261 => ((cambiumref16_Value.f kj4 a0_0 a0_1 a0_2 a0_3).bind fun t262 => (some (t261 == t262)))) else (some false)) else (if (t260 == false) = true then ((span_MayValue.f a0_0 a0_1 a0_2 a0_3).bind fun t263 => ((cambiumref16_Value.f kj4 a0_0 a0_1 a0_2 a0_3).bind fun t264 => (some (t263 == t264)))) else (some false))) else (some false)) else (some false)) else (some false)) else (some false)) else (some false)) = some r := H
   have A19 := Aside0.mk A190
   clear A190
   by_cases c20 : t253 = t255
   rotate_left
   ·rw [if_neg c20] at H
    have c20b0 : (t253 == t255) = false := beq_eq_false_iff_ne.mpr c20
    have c20b1 : (t253 != t255) = true := bne_iff_ne.mpr c20
    obtain rfl := Option.some.inj H
    have hnb140 := NB250_251.out
    have hnc140 := NB251_250.out
    have hcz141_0 : wc.cell? ⟨gb250, 0, none⟩ = some (.int .i64 a0_0) := (blk_cell BK250.out 0).trans rfl
    have hcz141_1 : wc.cell? ⟨gb250, 1, none⟩ = some (.string a0_1) := (blk_cell BK250.out 1).trans rfl
    have hcz141_2 : wc.cell? ⟨gb250, 2, none⟩ = some (.int .i64 a0_2) := (blk_cell BK250.out 2).trans rfl
    have hcz141_3 : wc.cell? ⟨gb250, 3, none⟩ = some (.bool a0_3) := (blk_cell BK250.out 3).trans rfl
    have hfz141_0 := blk_frozen BK250.out 0
    have hfz141_1 := blk_frozen BK250.out 1
    have hfz141_2 := blk_frozen BK250.out 2
    have hfz141_3 := blk_frozen BK250.out 3
    have hcz142_0 : wc.cell? ⟨gb251, 0, none⟩ = some (.int .i64 a1_0) := (blk_cell BK251.out 0).trans rfl
    have hcz142_1 : wc.cell? ⟨gb251, 1, none⟩ = some (.string a1_1) := (blk_cell BK251.out 1).trans rfl
    have hcz142_2 : wc.cell? ⟨gb251, 2, none⟩ = some (.int .i64 a1_2) := (blk_cell BK251.out 2).trans rfl
    have hcz142_3 : wc.cell? ⟨gb251, 3, none⟩ = some (.bool a1_3) := (blk_cell BK251.out 3).trans rfl
    have hfz142_0 := blk_frozen BK251.out 0
    have hfz142_1 := blk_frozen BK251.out 1
    have hfz142_2 := blk_frozen BK251.out 2
    have hfz142_3 := blk_frozen BK251.out 3
    try go_wp2_with (first | ((with_reducible refine gate_callee (f := 9) rfl ?_); refine goesL_ (some 28) rfl rfl Tryd.func9 (by kernel_rfl) rfl #[.agg #[.int .i64 a0_0, .string a0_1, .int .i64 a0_2, .bool a0_3], .agg #[.int .i64 a1_0, .string a1_1, .int .i64 a1_2, .bool a1_3]] rfl q20y1 ?_; (with_reducible refine (span_Compare.calls a0_0 a0_1 a0_2 a0_3 a1_0 a1_1 a1_2 a1_3 t253 t254 _ A16.out).mono ?_); rintro e w143 ⟨rfl, hb⟩; refine ⟨_, rfl, ?_⟩; have n0_ := Aside0.mk (blk_below (g := gb250) (o := .cells #[.int .i64 a0_0, .string a0_1, .int .i64 a0_2, .bool a0_3] 23 (0, 0)) q20y2 hb); have n1_ := Aside0.mk (blk_below (g := gb251) (o := .cells #[.int .i64 a1_0, .string a1_1, .int .i64 a1_2, .bool a1_3] 23 (0, 0)) q20y3 hb); have n2_ := Aside0.mk (below_step q20y0 hb); clear BK250; clear BK251; clear HB; have BK250 := n0_; have BK251 := n1_; have HB := n2_; clear n0_ n1_ n2_; (try clear hb); (try clear hb2); (try clear hk); (try clear hi); have hcz144_0 : w143.cell? ⟨gb250, 0, none⟩ = some (.int .i64 a0_0) := (blk_cell BK250.out 0).trans rfl; have hcz144_1 : w143.cell? ⟨gb250, 1, none⟩ = some (.string a0_1) := (blk_cell BK250.out 1).trans rfl; have hcz144_2 : w143.cell? ⟨gb250, 2, none⟩ = some (.int .i64 a0_2) := (blk_cell BK250.out 2).trans rfl; have hcz144_3 : w143.cell? ⟨gb250, 3, none⟩ = some (.bool a0_3) := (blk_cell BK250.out 3).trans rfl; have hfz144_0 := blk_frozen BK250.out 0; have hfz144_1 := blk_frozen BK250.out 1; have hfz144_2 := blk_frozen BK250.out 2; have hfz144_3 := blk_frozen BK250.out 3; have hcz145_0 : w143.cell? ⟨gb251, 0, none⟩ = some (.int .i64 a1_0) := (blk_cell BK251.out 0).trans rfl; have hcz145_1 : w143.cell? ⟨gb251, 1, none⟩ = some (.string a1_1) := (blk_cell BK251.out 1).trans rfl; have hcz145_2 : w143.cell? ⟨gb251, 2, none⟩ = some (.int .i64 a1_2) := (blk_cell BK251.out 2).trans rfl; have hcz145_3 : w143.cell? ⟨gb251, 3, none⟩ = some (.bool a1_3) := (blk_cell BK251.out 3).trans rfl; have hfz145_0 := blk_frozen BK251.out 0; have hfz145_1 := blk_frozen BK251.out 1; have hfz145_2 := blk_frozen BK251.out 2; have hfz145_3 := blk_frozen BK251.out 3) | ((with_reducible refine gate_callee (f := 10) rfl ?_); refine goesL_ (some 34) rfl rfl Tryd.func10 (by kernel_rfl) rfl #[.agg #[.int .i64 a0_0, .string a0_1, .int .i64 a0_2, .bool a0_3], .agg #[.int .i64 a1_0, .string a1_1, .int .i64 a1_2, .bool a1_3]] rfl q20y1 ?_; (with_reducible refine (cambiumref16_Compare.calls kj4 a0_0 a0_1 a0_2 a0_3 a1_0 a1_1 a1_2 a1_3 t255 t256 _ A17.out).mono ?_); rintro e w146 ⟨rfl, hb⟩; refine ⟨_, rfl, ?_⟩; have n0_ := Aside0.mk (blk_below (g := gb250) (o := .cells #[.int .i64 a0_0, .string a0_1, .int .i64 a0_2, .bool a0_3] 23 (0, 0)) q20y2 hb); have n1_ := Aside0.mk (blk_below (g := gb251) (o := .cells #[.int .i64 a1_0, .string a1_1, .int .i64 a1_2, .bool a1_3] 23 (0, 0)) q20y3 hb); have n2_ := Aside0.mk (below_step q20y0 hb); clear BK250; clear BK251; clear HB; have BK250 := n0_; have BK251 := n1_; have HB := n2_; clear n0_ n1_ n2_; (try clear hb); (try clear hb2); (try clear hk); (try clear hi); have hcz147_0 : w146.cell? ⟨gb251, 0, none⟩ = some (.int .i64 a1_0) := (blk_cell BK251.out 0).trans rfl; have hcz147_1 : w146.cell? ⟨gb251, 1, none⟩ = some (.string a1_1) := (blk_cell BK251.out 1).trans rfl; have hcz147_2 : w146.cell? ⟨gb251, 2, none⟩ = some (.int .i64 a1_2) := (blk_cell BK251.out 2).trans rfl; have hcz147_3 : w146.cell? ⟨gb251, 3, none⟩ = some (.bool a1_3) := (blk_cell BK251.out 3).trans rfl; have hfz147_0 := blk_frozen BK251.out 0; have hfz147_1 := blk_frozen BK251.out 1; have hfz147_2 := blk_frozen BK251.out 2; have hfz147_3 := blk_frozen BK251.out 3; have hcz148_0 : w146.cell? ⟨gb250, 0, none⟩ = some (.int .i64 a0_0) := (blk_cell BK250.out 0).trans rfl; have hcz148_1 : w146.cell? ⟨gb250, 1, none⟩ = some (.string a0_1) := (blk_cell BK250.out 1).trans rfl; have hcz148_2 : w146.cell? ⟨gb250, 2, none⟩ = some (.int .i64 a0_2) := (blk_cell BK250.out 2).trans rfl; have hcz148_3 : w146.cell? ⟨gb250, 3, none⟩ = some (.bool a0_3) := (blk_cell BK250.out 3).trans rfl; have hfz148_0 := blk_frozen BK250.out 0; have hfz148_1 := blk_frozen BK250.out 1; have hfz148_2 := blk_frozen BK250.out 2; have hfz148_3 := blk_frozen BK250.out 3) | ((with_reducible refine gate_callee (f := 9) rfl ?_); refine goesL_ (some 40) rfl rfl Tryd.func9 (by kernel_rfl) rfl #[.agg #[.int .i64 a1_0, .string a1_1, .int .i64 a1_2, .bool a1_3], .agg #[.int .i64 a0_0, .string a0_1, .int .i64 a0_2, .bool a0_3]] rfl q20y1 ?_; (with_reducible refine (span_Compare.calls a1_0 a1_1 a1_2 a1_3 a0_0 a0_1 a0_2 a0_3 t257 t258 _ A18.out).mono ?_); rintro e w149 ⟨rfl, hb⟩; refine ⟨_, rfl, ?_⟩; have n0_ := Aside0.mk (blk_below (g := gb250) (o := .cells #[.int .i64 a0_0, .string a0_1, .int .i64 a0_2, .bool a0_3] 23 (0, 0)) q20y2 hb); have n1_ := Aside0.mk (blk_below (g := gb251) (o := .cells #[.int .i64 a1_0, .string a1_1, .int .i64 a1_2, .bool a1_3] 23 (0, 0)) q20y3 hb); have n2_ := Aside0.mk (below_step q20y0 hb); clear BK250; clear BK251; clear HB; have BK250 := n0_; have BK251 := n1_; have HB := n2_; clear n0_ n1_ n2_; (try clear hb); (try clear hb2); (try clear hk); (try clear hi); have hcz150_0 : w149.cell? ⟨gb250, 0, none⟩ = some (.int .i64 a0_0) := (blk_cell BK250.out 0).trans rfl; have hcz150_1 : w149.cell? ⟨gb250, 1, none⟩ = some (.string a0_1) := (blk_cell BK250.out 1).trans rfl; have hcz150_2 : w149.cell? ⟨gb250, 2, none⟩ = some (.int .i64 a0_2) := (blk_cell BK250.out 2).trans rfl; have hcz150_3 : w149.cell? ⟨gb250, 3, none⟩ = some (.bool a0_3) := (blk_cell BK250.out 3).trans rfl; have hfz150_0 := blk_frozen BK250.out 0; have hfz150_1 := blk_frozen BK250.out 1; have hfz150_2 := blk_frozen BK250.out 2; have hfz150_3 := blk_frozen BK250.out 3) | ((with_reducible refine gate_callee (f := 9) rfl ?_); refine goesL_ (some 46) rfl rfl Tryd.func9 (by kernel_rfl) rfl #[.agg #[.int .i64 a0_0, .string a0_1, .int .i64 a0_2, .bool a0_3], .agg #[.int .i64 a0_0, .string a0_1, .int .i64 a0_2, .bool a0_3]] rfl q20y1 ?_; (with_reducible refine (span_Compare.calls a0_0 a0_1 a0_2 a0_3 a0_0 a0_1 a0_2 a0_3 t259 t260 _ A19.out).mono ?_); rintro e w151 ⟨rfl, hb⟩; refine ⟨_, rfl, ?_⟩; have n0_ := Aside0.mk (blk_below (g := gb250) (o := .cells #[.int .i64 a0_0, .string a0_1, .int .i64 a0_2, .bool a0_3] 23 (0, 0)) q20y2 hb); have n1_ := Aside0.mk (blk_below (g := gb251) (o := .cells #[.int .i64 a1_0, .string a1_1, .int .i64 a1_2, .bool a1_3] 23 (0, 0)) q20y3 hb); have n2_ := Aside0.mk (below_step q20y0 hb); clear BK250; clear BK251; clear HB; have BK250 := n0_; have BK251 := n1_; have HB := n2_; clear n0_ n1_ n2_; (try clear hb); (try clear hb2); (try clear hk); (try clear hi)))
    have n0_ := Aside0.mk (blk_drew BK250.out)
    have n1_ := Aside0.mk (blk_drew BK251.out)
    have n2_ := Aside0.mk (below_drew1 HB.out)
    clear BK250
    clear BK251
    clear HB
    have BK250 := n0_
    have BK251 := n1_
    have HB := n2_
    clear n0_ n1_ n2_
    as_aux_lemma =>
     refine start_ (n := 43) (S := fun w' => True) (ds := []) #[false, false, false, false, false, false, false, false, false, false, false, false, false, false, false, false, false, false, false, false, false, false, false, false, false, false, false, false, false, false, false, false, false, false, false, false, false, false, false, false, false, false, false] (by kernel_rfl) rfl rfl trivial (fun hHeld => ?_); refine with_tabW cambiumlaw16_SpanValues.tab9 cambiumlaw16_SpanValues.bits9 (fun HT_ HW_ => ?_)
     generalize w151.drew = w152 at BK250 BK251 HB hHeld ⊢
     refine q20p (i := 0) (N := some 49) (q20m 43 1) HT_.out ?_
     refine q20p (i := 1) (N := some 50) (q20m 43 3) HT_.out ?_
     refine q20p (i := 2) (N := some 51) (q20m 43 7) HT_.out ?_
     refine q20p (i := 3) (N := some 52) (q20m 43 15) HT_.out ?_
     refine q20u (i := 4) (N := some 53) (q20m 43 31) HT_.out ?_
     refine q20u (i := 5) (N := some 54) (q20m 43 63) HT_.out ?_
     refine q20u (i := 6) (N := some 55) (q20m 43 127) HT_.out ?_
     refine q20p (i := 7) (N := some 56) (q20m 43 255) HT_.out ?_
     refine q20p (i := 8) (N := some 57) (q20m 43 511) HT_.out ?_
     refine q20u (i := 9) (N := some 58) (q20m 43 1023) HT_.out ?_
     refine q20u (i := 10) (N := some 59) (q20m 43 2047) HT_.out ?_
     refine q20u (i := 11) (N := some 60) (q20m 43 4095) HT_.out ?_
     refine q20u (i := 12) (N := some 61) (q20m 43 8191) HT_.out ?_
     refine q20p (i := 13) (N := some 62) (q20m 43 16383) HT_.out ?_
     refine q20p (i := 14) (N := some 63) (q20m 43 32767) HT_.out ?_
     refine q20u (i := 15) (N := some 64) (q20m 43 65535) HT_.out ?_
     refine q20u (i := 16) (N := some 65) (q20m 43 131071) HT_.out ?_
     refine q20u (i := 17) (N := some 66) (q20m 43 262143) HT_.out ?_
     refine q20p (i := 18) (N := some 67) (q20m 43 524287) HT_.out ?_
     refine q20p (i := 19) (N := some 68) (q20m 43 1048575) HT_.out ?_
     refine q20u (i := 20) (N := some 69) (q20m 43 2097151) HT_.out ?_
     refine q20u (i := 21) (N := some 70) (q20m 43 4194303) HT_.out ?_
     refine q20p (i := 22) (N := some 71) (q20m 43 8388607) HT_.out ?_
     refine q20p (i := 23) (N := some 72) (q20m 43 16777215) HT_.out ?_
     refine q20u (i := 24) (N := some 73) (q20m 43 33554431) HT_.out ?_
     refine q20u (i := 25) (N := some 74) (q20m 43 67108863) HT_.out ?_
     refine q20u (i := 26) (N := some 75) (q20m 43 134217727) HT_.out ?_
     refine q20u (i := 27) (N := some 76) (q20m 43 268435455) HT_.out ?_
     refine q20u (i := 28) (N := some 77) (q20m 43 536870911) HT_.out ?_
     refine q20u (i := 29) (N := some 78) (q20m 43 1073741823) HT_.out ?_
     refine q20u (i := 30) (N := some 79) (q20m 43 2147483647) HT_.out ?_
     refine q20u (i := 31) (N := some 80) (q20m 43 4294967295) HT_.out ?_
     refine q20u (i := 32) (N := some 81) (q20m 43 8589934591) HT_.out ?_
     refine q20u (i := 33) (N := some 82) (q20m 43 17179869183) HT_.out ?_
     refine q20p (i := 34) (N := some 83) (q20m 43 34359738367) HT_.out ?_
     refine q20p (i := 35) (N := some 84) (q20m 43 68719476735) HT_.out ?_
     refine q20u (i := 36) (N := some 85) (q20m 43 137438953471) HT_.out ?_
     refine q20u (i := 37) (N := some 86) (q20m 43 274877906943) HT_.out ?_
     refine q20u (i := 38) (N := some 87) (q20m 43 549755813887) HT_.out ?_
     refine q20u (i := 39) (N := some 88) (q20m 43 1099511627775) HT_.out ?_
     refine q20u (i := 40) (N := some 89) (q20m 43 2199023255551) HT_.out ?_
     refine q20p (i := 41) (N := some 90) (q20m 43 4398046511103) HT_.out ?_
     refine q20p (i := 42) (N := some 4) (q20m 43 8796093022207) HT_.out ?_
     refine done_ (done_of HT_.out (by kernel_rfl)) ?_
     try go_wp2
     go_ret
     exact ⟨by first | rfl | (simp [errW_none, errW_some] <;> rfl) | (simp [*, errW_none, errW_some] <;> rfl), by repeat (first | (with_reducible first | exact HB.out | apply below_alloc | apply pw_below_drewN | apply below_drew1 | refine below_set ?_ GE250.out | refine below_set ?_ GE251.out) | exact HB.out)⟩
   rw [if_pos c20] at H
   have c20b0 : (t253 == t255) = true := beq_iff_eq.mpr c20
   have c20b1 : (t253 != t255) = false := bne_eq_false_iff_eq.mpr c20
   clear c20
   by_cases c21 : (t254 == t256) = true
   rotate_left
   ·rw [if_neg c21] at H
    have c21b0 : (t254 == t256) = false := by simpa using c21
    (try (have c21b1 : decide (t254 = t256) = false := by simpa using c21))
    (try (have c21b2 : (t254 == t256) = false := by simpa using c21))
    (try (have c21b3 : ¬ (t254 = t256) := by simpa using c21))
    clear c21
    obtain rfl := Option.some.inj H
    have hnb127 := NB250_251.out
    have hnc127 := NB251_250.out
    have hcz128_0 : wc.cell? ⟨gb250, 0, none⟩ = some (.int .i64 a0_0) := (blk_cell BK250.out 0).trans rfl
    have hcz128_1 : wc.cell? ⟨gb250, 1, none⟩ = some (.string a0_1) := (blk_cell BK250.out 1).trans rfl
    have hcz128_2 : wc.cell? ⟨gb250, 2, none⟩ = some (.int .i64 a0_2) := (blk_cell BK250.out 2).trans rfl
    have hcz128_3 : wc.cell? ⟨gb250, 3, none⟩ = some (.bool a0_3) := (blk_cell BK250.out 3).trans rfl
    have hfz128_0 := blk_frozen BK250.out 0
    have hfz128_1 := blk_frozen BK250.out 1
    have hfz128_2 := blk_frozen BK250.out 2
    have hfz128_3 := blk_frozen BK250.out 3
    have hcz129_0 : wc.cell? ⟨gb251, 0, none⟩ = some (.int .i64 a1_0) := (blk_cell BK251.out 0).trans rfl
    have hcz129_1 : wc.cell? ⟨gb251, 1, none⟩ = some (.string a1_1) := (blk_cell BK251.out 1).trans rfl
    have hcz129_2 : wc.cell? ⟨gb251, 2, none⟩ = some (.int .i64 a1_2) := (blk_cell BK251.out 2).trans rfl
    have hcz129_3 : wc.cell? ⟨gb251, 3, none⟩ = some (.bool a1_3) := (blk_cell BK251.out 3).trans rfl
    have hfz129_0 := blk_frozen BK251.out 0
    have hfz129_1 := blk_frozen BK251.out 1
    have hfz129_2 := blk_frozen BK251.out 2
    have hfz129_3 := blk_frozen BK251.out 3
    try go_wp2_with (first | ((with_reducible refine gate_callee (f := 9) rfl ?_); refine goesL_ (some 28) rfl rfl Tryd.func9 (by kernel_rfl) rfl #[.agg #[.int .i64 a0_0, .string a0_1, .int .i64 a0_2, .bool a0_3], .agg #[.int .i64 a1_0, .string a1_1, .int .i64 a1_2, .bool a1_3]] rfl q20y1 ?_; (with_reducible refine (span_Compare.calls a0_0 a0_1 a0_2 a0_3 a1_0 a1_1 a1_2 a1_3 t253 t254 _ A16.out).mono ?_); rintro e w130 ⟨rfl, hb⟩; refine ⟨_, rfl, ?_⟩; have n0_ := Aside0.mk (blk_below (g := gb250) (o := .cells #[.int .i64 a0_0, .string a0_1, .int .i64 a0_2, .bool a0_3] 23 (0, 0)) q20y2 hb); have n1_ := Aside0.mk (blk_below (g := gb251) (o := .cells #[.int .i64 a1_0, .string a1_1, .int .i64 a1_2, .bool a1_3] 23 (0, 0)) q20y3 hb); have n2_ := Aside0.mk (below_step q20y0 hb); clear BK250; clear BK251; clear HB; have BK250 := n0_; have BK251 := n1_; have HB := n2_; clear n0_ n1_ n2_; (try clear hb); (try clear hb2); (try clear hk); (try clear hi); have hcz131_0 : w130.cell? ⟨gb250, 0, none⟩ = some (.int .i64 a0_0) := (blk_cell BK250.out 0).trans rfl; have hcz131_1 : w130.cell? ⟨gb250, 1, none⟩ = some (.string a0_1) := (blk_cell BK250.out 1).trans rfl; have hcz131_2 : w130.cell? ⟨gb250, 2, none⟩ = some (.int .i64 a0_2) := (blk_cell BK250.out 2).trans rfl; have hcz131_3 : w130.cell? ⟨gb250, 3, none⟩ = some (.bool a0_3) := (blk_cell BK250.out 3).trans rfl; have hfz131_0 := blk_frozen BK250.out 0; have hfz131_1 := blk_frozen BK250.out 1; have hfz131_2 := blk_frozen BK250.out 2; have hfz131_3 := blk_frozen BK250.out 3; have hcz132_0 : w130.cell? ⟨gb251, 0, none⟩ = some (.int .i64 a1_0) := (blk_cell BK251.out 0).trans rfl; have hcz132_1 : w130.cell? ⟨gb251, 1, none⟩ = some (.string a1_1) := (blk_cell BK251.out 1).trans rfl; have hcz132_2 : w130.cell? ⟨gb251, 2, none⟩ = some (.int .i64 a1_2) := (blk_cell BK251.out 2).trans rfl; have hcz132_3 : w130.cell? ⟨gb251, 3, none⟩ = some (.bool a1_3) := (blk_cell BK251.out 3).trans rfl; have hfz132_0 := blk_frozen BK251.out 0; have hfz132_1 := blk_frozen BK251.out 1; have hfz132_2 := blk_frozen BK251.out 2; have hfz132_3 := blk_frozen BK251.out 3) | ((with_reducible refine gate_callee (f := 10) rfl ?_); refine goesL_ (some 34) rfl rfl Tryd.func10 (by kernel_rfl) rfl #[.agg #[.int .i64 a0_0, .string a0_1, .int .i64 a0_2, .bool a0_3], .agg #[.int .i64 a1_0, .string a1_1, .int .i64 a1_2, .bool a1_3]] rfl q20y1 ?_; (with_reducible refine (cambiumref16_Compare.calls kj4 a0_0 a0_1 a0_2 a0_3 a1_0 a1_1 a1_2 a1_3 t255 t256 _ A17.out).mono ?_); rintro e w133 ⟨rfl, hb⟩; refine ⟨_, rfl, ?_⟩; have n0_ := Aside0.mk (blk_below (g := gb250) (o := .cells #[.int .i64 a0_0, .string a0_1, .int .i64 a0_2, .bool a0_3] 23 (0, 0)) q20y2 hb); have n1_ := Aside0.mk (blk_below (g := gb251) (o := .cells #[.int .i64 a1_0, .string a1_1, .int .i64 a1_2, .bool a1_3] 23 (0, 0)) q20y3 hb); have n2_ := Aside0.mk (below_step q20y0 hb); clear BK250; clear BK251; clear HB; have BK250 := n0_; have BK251 := n1_; have HB := n2_; clear n0_ n1_ n2_; (try clear hb); (try clear hb2); (try clear hk); (try clear hi); have hcz134_0 : w133.cell? ⟨gb251, 0, none⟩ = some (.int .i64 a1_0) := (blk_cell BK251.out 0).trans rfl; have hcz134_1 : w133.cell? ⟨gb251, 1, none⟩ = some (.string a1_1) := (blk_cell BK251.out 1).trans rfl; have hcz134_2 : w133.cell? ⟨gb251, 2, none⟩ = some (.int .i64 a1_2) := (blk_cell BK251.out 2).trans rfl; have hcz134_3 : w133.cell? ⟨gb251, 3, none⟩ = some (.bool a1_3) := (blk_cell BK251.out 3).trans rfl; have hfz134_0 := blk_frozen BK251.out 0; have hfz134_1 := blk_frozen BK251.out 1; have hfz134_2 := blk_frozen BK251.out 2; have hfz134_3 := blk_frozen BK251.out 3; have hcz135_0 : w133.cell? ⟨gb250, 0, none⟩ = some (.int .i64 a0_0) := (blk_cell BK250.out 0).trans rfl; have hcz135_1 : w133.cell? ⟨gb250, 1, none⟩ = some (.string a0_1) := (blk_cell BK250.out 1).trans rfl; have hcz135_2 : w133.cell? ⟨gb250, 2, none⟩ = some (.int .i64 a0_2) := (blk_cell BK250.out 2).trans rfl; have hcz135_3 : w133.cell? ⟨gb250, 3, none⟩ = some (.bool a0_3) := (blk_cell BK250.out 3).trans rfl; have hfz135_0 := blk_frozen BK250.out 0; have hfz135_1 := blk_frozen BK250.out 1; have hfz135_2 := blk_frozen BK250.out 2; have hfz135_3 := blk_frozen BK250.out 3) | ((with_reducible refine gate_callee (f := 9) rfl ?_); refine goesL_ (some 40) rfl rfl Tryd.func9 (by kernel_rfl) rfl #[.agg #[.int .i64 a1_0, .string a1_1, .int .i64 a1_2, .bool a1_3], .agg #[.int .i64 a0_0, .string a0_1, .int .i64 a0_2, .bool a0_3]] rfl q20y1 ?_; (with_reducible refine (span_Compare.calls a1_0 a1_1 a1_2 a1_3 a0_0 a0_1 a0_2 a0_3 t257 t258 _ A18.out).mono ?_); rintro e w136 ⟨rfl, hb⟩; refine ⟨_, rfl, ?_⟩; have n0_ := Aside0.mk (blk_below (g := gb250) (o := .cells #[.int .i64 a0_0, .string a0_1, .int .i64 a0_2, .bool a0_3] 23 (0, 0)) q20y2 hb); have n1_ := Aside0.mk (blk_below (g := gb251) (o := .cells #[.int .i64 a1_0, .string a1_1, .int .i64 a1_2, .bool a1_3] 23 (0, 0)) q20y3 hb); have n2_ := Aside0.mk (below_step q20y0 hb); clear BK250; clear BK251; clear HB; have BK250 := n0_; have BK251 := n1_; have HB := n2_; clear n0_ n1_ n2_; (try clear hb); (try clear hb2); (try clear hk); (try clear hi); have hcz137_0 : w136.cell? ⟨gb250, 0, none⟩ = some (.int .i64 a0_0) := (blk_cell BK250.out 0).trans rfl; have hcz137_1 : w136.cell? ⟨gb250, 1, none⟩ = some (.string a0_1) := (blk_cell BK250.out 1).trans rfl; have hcz137_2 : w136.cell? ⟨gb250, 2, none⟩ = some (.int .i64 a0_2) := (blk_cell BK250.out 2).trans rfl; have hcz137_3 : w136.cell? ⟨gb250, 3, none⟩ = some (.bool a0_3) := (blk_cell BK250.out 3).trans rfl; have hfz137_0 := blk_frozen BK250.out 0; have hfz137_1 := blk_frozen BK250.out 1; have hfz137_2 := blk_frozen BK250.out 2; have hfz137_3 := blk_frozen BK250.out 3) | ((with_reducible refine gate_callee (f := 9) rfl ?_); refine goesL_ (some 46) rfl rfl Tryd.func9 (by kernel_rfl) rfl #[.agg #[.int .i64 a0_0, .string a0_1, .int .i64 a0_2, .bool a0_3], .agg #[.int .i64 a0_0, .string a0_1, .int .i64 a0_2, .bool a0_3]] rfl q20y1 ?_; (with_reducible refine (span_Compare.calls a0_0 a0_1 a0_2 a0_3 a0_0 a0_1 a0_2 a0_3 t259 t260 _ A19.out).mono ?_); rintro e w138 ⟨rfl, hb⟩; refine ⟨_, rfl, ?_⟩; have n0_ := Aside0.mk (blk_below (g := gb250) (o := .cells #[.int .i64 a0_0, .string a0_1, .int .i64 a0_2, .bool a0_3] 23 (0, 0)) q20y2 hb); have n1_ := Aside0.mk (blk_below (g := gb251) (o := .cells #[.int .i64 a1_0, .string a1_1, .int .i64 a1_2, .bool a1_3] 23 (0, 0)) q20y3 hb); have n2_ := Aside0.mk (below_step q20y0 hb); clear BK250; clear BK251; clear HB; have BK250 := n0_; have BK251 := n1_; have HB := n2_; clear n0_ n1_ n2_; (try clear hb); (try clear hb2); (try clear hk); (try clear hi)))
    have n0_ := Aside0.mk (blk_drew BK250.out)
    have n1_ := Aside0.mk (blk_drew BK251.out)
    have n2_ := Aside0.mk (below_drew1 HB.out)
    clear BK250
    clear BK251
    clear HB
    have BK250 := n0_
    have BK251 := n1_
    have HB := n2_
    clear n0_ n1_ n2_
    as_aux_lemma =>
     refine start_ (n := 43) (S := fun w' => True) (ds := []) #[false, false, false, false, false, false, false, false, false, false, false, false, false, false, false, false, false, false, false, false, false, false, false, false, false, false, false, false, false, false, false, false, false, false, false, false, false, false, false, false, false, false, false] (by kernel_rfl) rfl rfl trivial (fun hHeld => ?_); refine with_tabW cambiumlaw16_SpanValues.tab9 cambiumlaw16_SpanValues.bits9 (fun HT_ HW_ => ?_)
     generalize w138.drew = w139 at BK250 BK251 HB hHeld ⊢
     refine q20p (i := 0) (N := some 49) (q20m 43 1) HT_.out ?_
     refine q20p (i := 1) (N := some 50) (q20m 43 3) HT_.out ?_
     refine q20p (i := 2) (N := some 51) (q20m 43 7) HT_.out ?_
     refine q20p (i := 3) (N := some 52) (q20m 43 15) HT_.out ?_
     refine q20p (i := 4) (N := some 53) (q20m 43 31) HT_.out ?_
     refine q20p (i := 5) (N := some 54) (q20m 43 63) HT_.out ?_
     refine q20p (i := 6) (N := some 55) (q20m 43 127) HT_.out ?_
     refine q20p (i := 7) (N := some 56) (q20m 43 255) HT_.out ?_
     refine q20p (i := 8) (N := some 57) (q20m 43 511) HT_.out ?_
     refine q20u (i := 9) (N := some 58) (q20m 43 1023) HT_.out ?_
     refine q20u (i := 10) (N := some 59) (q20m 43 2047) HT_.out ?_
     refine q20u (i := 11) (N := some 60) (q20m 43 4095) HT_.out ?_
     refine q20u (i := 12) (N := some 61) (q20m 43 8191) HT_.out ?_
     refine q20p (i := 13) (N := some 62) (q20m 43 16383) HT_.out ?_
     refine q20p (i := 14) (N := some 63) (q20m 43 32767) HT_.out ?_
     refine q20u (i := 15) (N := some 64) (q20m 43 65535) HT_.out ?_
     refine q20u (i := 16) (N := some 65) (q20m 43 131071) HT_.out ?_
     refine q20u (i := 17) (N := some 66) (q20m 43 262143) HT_.out ?_
     refine q20p (i := 18) (N := some 67) (q20m 43 524287) HT_.out ?_
     refine q20p (i := 19) (N := some 68) (q20m 43 1048575) HT_.out ?_
     refine q20u (i := 20) (N := some 69) (q20m 43 2097151) HT_.out ?_
     refine q20u (i := 21) (N := some 70) (q20m 43 4194303) HT_.out ?_
     refine q20p (i := 22) (N := some 71) (q20m 43 8388607) HT_.out ?_
     refine q20p (i := 23) (N := some 72) (q20m 43 16777215) HT_.out ?_
     refine q20u (i := 24) (N := some 73) (q20m 43 33554431) HT_.out ?_
     refine q20u (i := 25) (N := some 74) (q20m 43 67108863) HT_.out ?_
     refine q20u (i := 26) (N := some 75) (q20m 43 134217727) HT_.out ?_
     refine q20u (i := 27) (N := some 76) (q20m 43 268435455) HT_.out ?_
     refine q20u (i := 28) (N := some 77) (q20m 43 536870911) HT_.out ?_
     refine q20u (i := 29) (N := some 78) (q20m 43 1073741823) HT_.out ?_
     refine q20u (i := 30) (N := some 79) (q20m 43 2147483647) HT_.out ?_
     refine q20u (i := 31) (N := some 80) (q20m 43 4294967295) HT_.out ?_
     refine q20u (i := 32) (N := some 81) (q20m 43 8589934591) HT_.out ?_
     refine q20u (i := 33) (N := some 82) (q20m 43 17179869183) HT_.out ?_
     refine q20p (i := 34) (N := some 83) (q20m 43 34359738367) HT_.out ?_
     refine q20p (i := 35) (N := some 84) (q20m 43 68719476735) HT_.out ?_
     refine q20u (i := 36) (N := some 85) (q20m 43 137438953471) HT_.out ?_
     refine q20u (i := 37) (N := some 86) (q20m 43 274877906943) HT_.out ?_
     refine q20u (i := 38) (N := some 87) (q20m 43 549755813887) HT_.out ?_
     refine q20u (i := 39) (N := some 88) (q20m 43 1099511627775) HT_.out ?_
     refine q20u (i := 40) (N := some 89) (q20m 43 2199023255551) HT_.out ?_
     refine q20p (i := 41) (N := some 90) (q20m 43 4398046511103) HT_.out ?_
     refine q20p (i := 42) (N := some 4) (q20m 43 8796093022207) HT_.out ?_
     refine done_ (done_of HT_.out (by kernel_rfl)) ?_
     try go_wp2
     go_ret
     exact ⟨by first | rfl | (simp [errW_none, errW_some] <;> rfl) | (simp [*, errW_none, errW_some] <;> rfl), by repeat (first | (with_reducible first | exact HB.out | apply below_alloc | apply pw_below_drewN | apply below_drew1 | refine below_set ?_ GE250.out | refine below_set ?_ GE251.out) | exact HB.out)⟩
   rw [if_pos c21] at H
   have c21b0 : (t254 == t256) = true := c21
   (try (have c21b1 : decide (t254 = t256) = true := by simpa using c21))
   (try (have c21b2 : (t254 == t256) = true := by simpa using c21))
   clear c21
   by_cases c22 : t257 = (wrap64 (-t253))
   rotate_left
   ·rw [if_neg c22] at H
    have c22b0 : (t257 == (wrap64 (-t253))) = false := beq_eq_false_iff_ne.mpr c22
    have c22b1 : (t257 != (wrap64 (-t253))) = true := bne_iff_ne.mpr c22
    obtain rfl := Option.some.inj H
    have hnb114 := NB250_251.out
    have hnc114 := NB251_250.out
    have hcz115_0 : wc.cell? ⟨gb250, 0, none⟩ = some (.int .i64 a0_0) := (blk_cell BK250.out 0).trans rfl
    have hcz115_1 : wc.cell? ⟨gb250, 1, none⟩ = some (.string a0_1) := (blk_cell BK250.out 1).trans rfl
    have hcz115_2 : wc.cell? ⟨gb250, 2, none⟩ = some (.int .i64 a0_2) := (blk_cell BK250.out 2).trans rfl
    have hcz115_3 : wc.cell? ⟨gb250, 3, none⟩ = some (.bool a0_3) := (blk_cell BK250.out 3).trans rfl
    have hfz115_0 := blk_frozen BK250.out 0
    have hfz115_1 := blk_frozen BK250.out 1
    have hfz115_2 := blk_frozen BK250.out 2
    have hfz115_3 := blk_frozen BK250.out 3
    have hcz116_0 : wc.cell? ⟨gb251, 0, none⟩ = some (.int .i64 a1_0) := (blk_cell BK251.out 0).trans rfl
    have hcz116_1 : wc.cell? ⟨gb251, 1, none⟩ = some (.string a1_1) := (blk_cell BK251.out 1).trans rfl
    have hcz116_2 : wc.cell? ⟨gb251, 2, none⟩ = some (.int .i64 a1_2) := (blk_cell BK251.out 2).trans rfl
    have hcz116_3 : wc.cell? ⟨gb251, 3, none⟩ = some (.bool a1_3) := (blk_cell BK251.out 3).trans rfl
    have hfz116_0 := blk_frozen BK251.out 0
    have hfz116_1 := blk_frozen BK251.out 1
    have hfz116_2 := blk_frozen BK251.out 2
    have hfz116_3 := blk_frozen BK251.out 3
    try go_wp2_with (first | ((with_reducible refine gate_callee (f := 9) rfl ?_); refine goesL_ (some 28) rfl rfl Tryd.func9 (by kernel_rfl) rfl #[.agg #[.int .i64 a0_0, .string a0_1, .int .i64 a0_2, .bool a0_3], .agg #[.int .i64 a1_0, .string a1_1, .int .i64 a1_2, .bool a1_3]] rfl q20y1 ?_; (with_reducible refine (span_Compare.calls a0_0 a0_1 a0_2 a0_3 a1_0 a1_1 a1_2 a1_3 t253 t254 _ A16.out).mono ?_); rintro e w117 ⟨rfl, hb⟩; refine ⟨_, rfl, ?_⟩; have n0_ := Aside0.mk (blk_below (g := gb250) (o := .cells #[.int .i64 a0_0, .string a0_1, .int .i64 a0_2, .bool a0_3] 23 (0, 0)) q20y2 hb); have n1_ := Aside0.mk (blk_below (g := gb251) (o := .cells #[.int .i64 a1_0, .string a1_1, .int .i64 a1_2, .bool a1_3] 23 (0, 0)) q20y3 hb); have n2_ := Aside0.mk (below_step q20y0 hb); clear BK250; clear BK251; clear HB; have BK250 := n0_; have BK251 := n1_; have HB := n2_; clear n0_ n1_ n2_; (try clear hb); (try clear hb2); (try clear hk); (try clear hi); have hcz118_0 : w117.cell? ⟨gb250, 0, none⟩ = some (.int .i64 a0_0) := (blk_cell BK250.out 0).trans rfl; have hcz118_1 : w117.cell? ⟨gb250, 1, none⟩ = some (.string a0_1) := (blk_cell BK250.out 1).trans rfl; have hcz118_2 : w117.cell? ⟨gb250, 2, none⟩ = some (.int .i64 a0_2) := (blk_cell BK250.out 2).trans rfl; have hcz118_3 : w117.cell? ⟨gb250, 3, none⟩ = some (.bool a0_3) := (blk_cell BK250.out 3).trans rfl; have hfz118_0 := blk_frozen BK250.out 0; have hfz118_1 := blk_frozen BK250.out 1; have hfz118_2 := blk_frozen BK250.out 2; have hfz118_3 := blk_frozen BK250.out 3; have hcz119_0 : w117.cell? ⟨gb251, 0, none⟩ = some (.int .i64 a1_0) := (blk_cell BK251.out 0).trans rfl; have hcz119_1 : w117.cell? ⟨gb251, 1, none⟩ = some (.string a1_1) := (blk_cell BK251.out 1).trans rfl; have hcz119_2 : w117.cell? ⟨gb251, 2, none⟩ = some (.int .i64 a1_2) := (blk_cell BK251.out 2).trans rfl; have hcz119_3 : w117.cell? ⟨gb251, 3, none⟩ = some (.bool a1_3) := (blk_cell BK251.out 3).trans rfl; have hfz119_0 := blk_frozen BK251.out 0; have hfz119_1 := blk_frozen BK251.out 1; have hfz119_2 := blk_frozen BK251.out 2; have hfz119_3 := blk_frozen BK251.out 3) | ((with_reducible refine gate_callee (f := 10) rfl ?_); refine goesL_ (some 34) rfl rfl Tryd.func10 (by kernel_rfl) rfl #[.agg #[.int .i64 a0_0, .string a0_1, .int .i64 a0_2, .bool a0_3], .agg #[.int .i64 a1_0, .string a1_1, .int .i64 a1_2, .bool a1_3]] rfl q20y1 ?_; (with_reducible refine (cambiumref16_Compare.calls kj4 a0_0 a0_1 a0_2 a0_3 a1_0 a1_1 a1_2 a1_3 t255 t256 _ A17.out).mono ?_); rintro e w120 ⟨rfl, hb⟩; refine ⟨_, rfl, ?_⟩; have n0_ := Aside0.mk (blk_below (g := gb250) (o := .cells #[.int .i64 a0_0, .string a0_1, .int .i64 a0_2, .bool a0_3] 23 (0, 0)) q20y2 hb); have n1_ := Aside0.mk (blk_below (g := gb251) (o := .cells #[.int .i64 a1_0, .string a1_1, .int .i64 a1_2, .bool a1_3] 23 (0, 0)) q20y3 hb); have n2_ := Aside0.mk (below_step q20y0 hb); clear BK250; clear BK251; clear HB; have BK250 := n0_; have BK251 := n1_; have HB := n2_; clear n0_ n1_ n2_; (try clear hb); (try clear hb2); (try clear hk); (try clear hi); have hcz121_0 : w120.cell? ⟨gb251, 0, none⟩ = some (.int .i64 a1_0) := (blk_cell BK251.out 0).trans rfl; have hcz121_1 : w120.cell? ⟨gb251, 1, none⟩ = some (.string a1_1) := (blk_cell BK251.out 1).trans rfl; have hcz121_2 : w120.cell? ⟨gb251, 2, none⟩ = some (.int .i64 a1_2) := (blk_cell BK251.out 2).trans rfl; have hcz121_3 : w120.cell? ⟨gb251, 3, none⟩ = some (.bool a1_3) := (blk_cell BK251.out 3).trans rfl; have hfz121_0 := blk_frozen BK251.out 0; have hfz121_1 := blk_frozen BK251.out 1; have hfz121_2 := blk_frozen BK251.out 2; have hfz121_3 := blk_frozen BK251.out 3; have hcz122_0 : w120.cell? ⟨gb250, 0, none⟩ = some (.int .i64 a0_0) := (blk_cell BK250.out 0).trans rfl; have hcz122_1 : w120.cell? ⟨gb250, 1, none⟩ = some (.string a0_1) := (blk_cell BK250.out 1).trans rfl; have hcz122_2 : w120.cell? ⟨gb250, 2, none⟩ = some (.int .i64 a0_2) := (blk_cell BK250.out 2).trans rfl; have hcz122_3 : w120.cell? ⟨gb250, 3, none⟩ = some (.bool a0_3) := (blk_cell BK250.out 3).trans rfl; have hfz122_0 := blk_frozen BK250.out 0; have hfz122_1 := blk_frozen BK250.out 1; have hfz122_2 := blk_frozen BK250.out 2; have hfz122_3 := blk_frozen BK250.out 3) | ((with_reducible refine gate_callee (f := 9) rfl ?_); refine goesL_ (some 40) rfl rfl Tryd.func9 (by kernel_rfl) rfl #[.agg #[.int .i64 a1_0, .string a1_1, .int .i64 a1_2, .bool a1_3], .agg #[.int .i64 a0_0, .string a0_1, .int .i64 a0_2, .bool a0_3]] rfl q20y1 ?_; (with_reducible refine (span_Compare.calls a1_0 a1_1 a1_2 a1_3 a0_0 a0_1 a0_2 a0_3 t257 t258 _ A18.out).mono ?_); rintro e w123 ⟨rfl, hb⟩; refine ⟨_, rfl, ?_⟩; have n0_ := Aside0.mk (blk_below (g := gb250) (o := .cells #[.int .i64 a0_0, .string a0_1, .int .i64 a0_2, .bool a0_3] 23 (0, 0)) q20y2 hb); have n1_ := Aside0.mk (blk_below (g := gb251) (o := .cells #[.int .i64 a1_0, .string a1_1, .int .i64 a1_2, .bool a1_3] 23 (0, 0)) q20y3 hb); have n2_ := Aside0.mk (below_step q20y0 hb); clear BK250; clear BK251; clear HB; have BK250 := n0_; have BK251 := n1_; have HB := n2_; clear n0_ n1_ n2_; (try clear hb); (try clear hb2); (try clear hk); (try clear hi); have hcz124_0 : w123.cell? ⟨gb250, 0, none⟩ = some (.int .i64 a0_0) := (blk_cell BK250.out 0).trans rfl; have hcz124_1 : w123.cell? ⟨gb250, 1, none⟩ = some (.string a0_1) := (blk_cell BK250.out 1).trans rfl; have hcz124_2 : w123.cell? ⟨gb250, 2, none⟩ = some (.int .i64 a0_2) := (blk_cell BK250.out 2).trans rfl; have hcz124_3 : w123.cell? ⟨gb250, 3, none⟩ = some (.bool a0_3) := (blk_cell BK250.out 3).trans rfl; have hfz124_0 := blk_frozen BK250.out 0; have hfz124_1 := blk_frozen BK250.out 1; have hfz124_2 := blk_frozen BK250.out 2; have hfz124_3 := blk_frozen BK250.out 3) | ((with_reducible refine gate_callee (f := 9) rfl ?_); refine goesL_ (some 46) rfl rfl Tryd.func9 (by kernel_rfl) rfl #[.agg #[.int .i64 a0_0, .string a0_1, .int .i64 a0_2, .bool a0_3], .agg #[.int .i64 a0_0, .string a0_1, .int .i64 a0_2, .bool a0_3]] rfl q20y1 ?_; (with_reducible refine (span_Compare.calls a0_0 a0_1 a0_2 a0_3 a0_0 a0_1 a0_2 a0_3 t259 t260 _ A19.out).mono ?_); rintro e w125 ⟨rfl, hb⟩; refine ⟨_, rfl, ?_⟩; have n0_ := Aside0.mk (blk_below (g := gb250) (o := .cells #[.int .i64 a0_0, .string a0_1, .int .i64 a0_2, .bool a0_3] 23 (0, 0)) q20y2 hb); have n1_ := Aside0.mk (blk_below (g := gb251) (o := .cells #[.int .i64 a1_0, .string a1_1, .int .i64 a1_2, .bool a1_3] 23 (0, 0)) q20y3 hb); have n2_ := Aside0.mk (below_step q20y0 hb); clear BK250; clear BK251; clear HB; have BK250 := n0_; have BK251 := n1_; have HB := n2_; clear n0_ n1_ n2_; (try clear hb); (try clear hb2); (try clear hk); (try clear hi)))
    have n0_ := Aside0.mk (blk_drew BK250.out)
    have n1_ := Aside0.mk (blk_drew BK251.out)
    have n2_ := Aside0.mk (below_drew1 HB.out)
    clear BK250
    clear BK251
    clear HB
    have BK250 := n0_
    have BK251 := n1_
    have HB := n2_
    clear n0_ n1_ n2_
    as_aux_lemma =>
     refine start_ (n := 43) (S := fun w' => True) (ds := []) #[false, false, false, false, false, false, false, false, false, false, false, false, false, false, false, false, false, false, false, false, false, false, false, false, false, false, false, false, false, false, false, false, false, false, false, false, false, false, false, false, false, false, false] (by kernel_rfl) rfl rfl trivial (fun hHeld => ?_); refine with_tabW cambiumlaw16_SpanValues.tab9 cambiumlaw16_SpanValues.bits9 (fun HT_ HW_ => ?_)
     generalize w125.drew = w126 at BK250 BK251 HB hHeld ⊢
     refine q20p (i := 0) (N := some 49) (q20m 43 1) HT_.out ?_
     refine q20p (i := 1) (N := some 50) (q20m 43 3) HT_.out ?_
     refine q20p (i := 2) (N := some 51) (q20m 43 7) HT_.out ?_
     refine q20p (i := 3) (N := some 52) (q20m 43 15) HT_.out ?_
     refine q20p (i := 4) (N := some 53) (q20m 43 31) HT_.out ?_
     refine q20p (i := 5) (N := some 54) (q20m 43 63) HT_.out ?_
     refine q20p (i := 6) (N := some 55) (q20m 43 127) HT_.out ?_
     refine q20p (i := 7) (N := some 56) (q20m 43 255) HT_.out ?_
     refine q20p (i := 8) (N := some 57) (q20m 43 511) HT_.out ?_
     refine q20p (i := 9) (N := some 58) (q20m 43 1023) HT_.out ?_
     refine q20p (i := 10) (N := some 59) (q20m 43 2047) HT_.out ?_
     refine q20p (i := 11) (N := some 60) (q20m 43 4095) HT_.out ?_
     refine q20p (i := 12) (N := some 61) (q20m 43 8191) HT_.out ?_
     refine q20p (i := 13) (N := some 62) (q20m 43 16383) HT_.out ?_
     refine q20p (i := 14) (N := some 63) (q20m 43 32767) HT_.out ?_
     refine q20u (i := 15) (N := some 64) (q20m 43 65535) HT_.out ?_
     refine q20u (i := 16) (N := some 65) (q20m 43 131071) HT_.out ?_
     refine q20u (i := 17) (N := some 66) (q20m 43 262143) HT_.out ?_
     refine q20p (i := 18) (N := some 67) (q20m 43 524287) HT_.out ?_
     refine q20p (i := 19) (N := some 68) (q20m 43 1048575) HT_.out ?_
     refine q20u (i := 20) (N := some 69) (q20m 43 2097151) HT_.out ?_
     refine q20u (i := 21) (N := some 70) (q20m 43 4194303) HT_.out ?_
     refine q20p (i := 22) (N := some 71) (q20m 43 8388607) HT_.out ?_
     refine q20p (i := 23) (N := some 72) (q20m 43 16777215) HT_.out ?_
     refine q20u (i := 24) (N := some 73) (q20m 43 33554431) HT_.out ?_
     refine q20u (i := 25) (N := some 74) (q20m 43 67108863) HT_.out ?_
     refine q20u (i := 26) (N := some 75) (q20m 43 134217727) HT_.out ?_
     refine q20u (i := 27) (N := some 76) (q20m 43 268435455) HT_.out ?_
     refine q20u (i := 28) (N := some 77) (q20m 43 536870911) HT_.out ?_
     refine q20u (i := 29) (N := some 78) (q20m 43 1073741823) HT_.out ?_
     refine q20u (i := 30) (N := some 79) (q20m 43 2147483647) HT_.out ?_
     refine q20u (i := 31) (N := some 80) (q20m 43 4294967295) HT_.out ?_
     refine q20u (i := 32) (N := some 81) (q20m 43 8589934591) HT_.out ?_
     refine q20u (i := 33) (N := some 82) (q20m 43 17179869183) HT_.out ?_
     refine q20p (i := 34) (N := some 83) (q20m 43 34359738367) HT_.out ?_
     refine q20p (i := 35) (N := some 84) (q20m 43 68719476735) HT_.out ?_
     refine q20u (i := 36) (N := some 85) (q20m 43 137438953471) HT_.out ?_
     refine q20u (i := 37) (N := some 86) (q20m 43 274877906943) HT_.out ?_
     refine q20u (i := 38) (N := some 87) (q20m 43 549755813887) HT_.out ?_
     refine q20u (i := 39) (N := some 88) (q20m 43 1099511627775) HT_.out ?_
     refine q20u (i := 40) (N := some 89) (q20m 43 2199023255551) HT_.out ?_
     refine q20p (i := 41) (N := some 90) (q20m 43 4398046511103) HT_.out ?_
     refine q20p (i := 42) (N := some 4) (q20m 43 8796093022207) HT_.out ?_
     refine done_ (done_of HT_.out (by kernel_rfl)) ?_
     try go_wp2
     go_ret
     exact ⟨by first | rfl | (simp [errW_none, errW_some] <;> rfl) | (simp [*, errW_none, errW_some] <;> rfl), by repeat (first | (with_reducible first | exact HB.out | apply below_alloc | apply pw_below_drewN | apply below_drew1 | refine below_set ?_ GE250.out | refine below_set ?_ GE251.out) | exact HB.out)⟩
   rw [if_pos c22] at H
   have c22b0 : (t257 == (wrap64 (-t253))) = true := beq_iff_eq.mpr c22
   have c22b1 : (t257 != (wrap64 (-t253))) = false := bne_eq_false_iff_eq.mpr c22
   clear c22
   by_cases c23 : (t258 == t254) = true
   rotate_left
   ·rw [if_neg c23] at H
    have c23b0 : (t258 == t254) = false := by simpa using c23
    (try (have c23b1 : decide (t258 = t254) = false := by simpa using c23))
    (try (have c23b2 : (t258 == t254) = false := by simpa using c23))
    (try (have c23b3 : ¬ (t258 = t254) := by simpa using c23))
    clear c23
    obtain rfl := Option.some.inj H
    have hnb101 := NB250_251.out
    have hnc101 := NB251_250.out
    have hcz102_0 : wc.cell? ⟨gb250, 0, none⟩ = some (.int .i64 a0_0) := (blk_cell BK250.out 0).trans rfl
    have hcz102_1 : wc.cell? ⟨gb250, 1, none⟩ = some (.string a0_1) := (blk_cell BK250.out 1).trans rfl
    have hcz102_2 : wc.cell? ⟨gb250, 2, none⟩ = some (.int .i64 a0_2) := (blk_cell BK250.out 2).trans rfl
    have hcz102_3 : wc.cell? ⟨gb250, 3, none⟩ = some (.bool a0_3) := (blk_cell BK250.out 3).trans rfl
    have hfz102_0 := blk_frozen BK250.out 0
    have hfz102_1 := blk_frozen BK250.out 1
    have hfz102_2 := blk_frozen BK250.out 2
    have hfz102_3 := blk_frozen BK250.out 3
    have hcz103_0 : wc.cell? ⟨gb251, 0, none⟩ = some (.int .i64 a1_0) := (blk_cell BK251.out 0).trans rfl
    have hcz103_1 : wc.cell? ⟨gb251, 1, none⟩ = some (.string a1_1) := (blk_cell BK251.out 1).trans rfl
    have hcz103_2 : wc.cell? ⟨gb251, 2, none⟩ = some (.int .i64 a1_2) := (blk_cell BK251.out 2).trans rfl
    have hcz103_3 : wc.cell? ⟨gb251, 3, none⟩ = some (.bool a1_3) := (blk_cell BK251.out 3).trans rfl
    have hfz103_0 := blk_frozen BK251.out 0
    have hfz103_1 := blk_frozen BK251.out 1
    have hfz103_2 := blk_frozen BK251.out 2
    have hfz103_3 := blk_frozen BK251.out 3
    try go_wp2_with (first | ((with_reducible refine gate_callee (f := 9) rfl ?_); refine goesL_ (some 28) rfl rfl Tryd.func9 (by kernel_rfl) rfl #[.agg #[.int .i64 a0_0, .string a0_1, .int .i64 a0_2, .bool a0_3], .agg #[.int .i64 a1_0, .string a1_1, .int .i64 a1_2, .bool a1_3]] rfl q20y1 ?_; (with_reducible refine (span_Compare.calls a0_0 a0_1 a0_2 a0_3 a1_0 a1_1 a1_2 a1_3 t253 t254 _ A16.out).mono ?_); rintro e w104 ⟨rfl, hb⟩; refine ⟨_, rfl, ?_⟩; have n0_ := Aside0.mk (blk_below (g := gb250) (o := .cells #[.int .i64 a0_0, .string a0_1, .int .i64 a0_2, .bool a0_3] 23 (0, 0)) q20y2 hb); have n1_ := Aside0.mk (blk_below (g := gb251) (o := .cells #[.int .i64 a1_0, .string a1_1, .int .i64 a1_2, .bool a1_3] 23 (0, 0)) q20y3 hb); have n2_ := Aside0.mk (below_step q20y0 hb); clear BK250; clear BK251; clear HB; have BK250 := n0_; have BK251 := n1_; have HB := n2_; clear n0_ n1_ n2_; (try clear hb); (try clear hb2); (try clear hk); (try clear hi); have hcz105_0 : w104.cell? ⟨gb250, 0, none⟩ = some (.int .i64 a0_0) := (blk_cell BK250.out 0).trans rfl; have hcz105_1 : w104.cell? ⟨gb250, 1, none⟩ = some (.string a0_1) := (blk_cell BK250.out 1).trans rfl; have hcz105_2 : w104.cell? ⟨gb250, 2, none⟩ = some (.int .i64 a0_2) := (blk_cell BK250.out 2).trans rfl; have hcz105_3 : w104.cell? ⟨gb250, 3, none⟩ = some (.bool a0_3) := (blk_cell BK250.out 3).trans rfl; have hfz105_0 := blk_frozen BK250.out 0; have hfz105_1 := blk_frozen BK250.out 1; have hfz105_2 := blk_frozen BK250.out 2; have hfz105_3 := blk_frozen BK250.out 3; have hcz106_0 : w104.cell? ⟨gb251, 0, none⟩ = some (.int .i64 a1_0) := (blk_cell BK251.out 0).trans rfl; have hcz106_1 : w104.cell? ⟨gb251, 1, none⟩ = some (.string a1_1) := (blk_cell BK251.out 1).trans rfl; have hcz106_2 : w104.cell? ⟨gb251, 2, none⟩ = some (.int .i64 a1_2) := (blk_cell BK251.out 2).trans rfl; have hcz106_3 : w104.cell? ⟨gb251, 3, none⟩ = some (.bool a1_3) := (blk_cell BK251.out 3).trans rfl; have hfz106_0 := blk_frozen BK251.out 0; have hfz106_1 := blk_frozen BK251.out 1; have hfz106_2 := blk_frozen BK251.out 2; have hfz106_3 := blk_frozen BK251.out 3) | ((with_reducible refine gate_callee (f := 10) rfl ?_); refine goesL_ (some 34) rfl rfl Tryd.func10 (by kernel_rfl) rfl #[.agg #[.int .i64 a0_0, .string a0_1, .int .i64 a0_2, .bool a0_3], .agg #[.int .i64 a1_0, .string a1_1, .int .i64 a1_2, .bool a1_3]] rfl q20y1 ?_; (with_reducible refine (cambiumref16_Compare.calls kj4 a0_0 a0_1 a0_2 a0_3 a1_0 a1_1 a1_2 a1_3 t255 t256 _ A17.out).mono ?_); rintro e w107 ⟨rfl, hb⟩; refine ⟨_, rfl, ?_⟩; have n0_ := Aside0.mk (blk_below (g := gb250) (o := .cells #[.int .i64 a0_0, .string a0_1, .int .i64 a0_2, .bool a0_3] 23 (0, 0)) q20y2 hb); have n1_ := Aside0.mk (blk_below (g := gb251) (o := .cells #[.int .i64 a1_0, .string a1_1, .int .i64 a1_2, .bool a1_3] 23 (0, 0)) q20y3 hb); have n2_ := Aside0.mk (below_step q20y0 hb); clear BK250; clear BK251; clear HB; have BK250 := n0_; have BK251 := n1_; have HB := n2_; clear n0_ n1_ n2_; (try clear hb); (try clear hb2); (try clear hk); (try clear hi); have hcz108_0 : w107.cell? ⟨gb251, 0, none⟩ = some (.int .i64 a1_0) := (blk_cell BK251.out 0).trans rfl; have hcz108_1 : w107.cell? ⟨gb251, 1, none⟩ = some (.string a1_1) := (blk_cell BK251.out 1).trans rfl; have hcz108_2 : w107.cell? ⟨gb251, 2, none⟩ = some (.int .i64 a1_2) := (blk_cell BK251.out 2).trans rfl; have hcz108_3 : w107.cell? ⟨gb251, 3, none⟩ = some (.bool a1_3) := (blk_cell BK251.out 3).trans rfl; have hfz108_0 := blk_frozen BK251.out 0; have hfz108_1 := blk_frozen BK251.out 1; have hfz108_2 := blk_frozen BK251.out 2; have hfz108_3 := blk_frozen BK251.out 3; have hcz109_0 : w107.cell? ⟨gb250, 0, none⟩ = some (.int .i64 a0_0) := (blk_cell BK250.out 0).trans rfl; have hcz109_1 : w107.cell? ⟨gb250, 1, none⟩ = some (.string a0_1) := (blk_cell BK250.out 1).trans rfl; have hcz109_2 : w107.cell? ⟨gb250, 2, none⟩ = some (.int .i64 a0_2) := (blk_cell BK250.out 2).trans rfl; have hcz109_3 : w107.cell? ⟨gb250, 3, none⟩ = some (.bool a0_3) := (blk_cell BK250.out 3).trans rfl; have hfz109_0 := blk_frozen BK250.out 0; have hfz109_1 := blk_frozen BK250.out 1; have hfz109_2 := blk_frozen BK250.out 2; have hfz109_3 := blk_frozen BK250.out 3) | ((with_reducible refine gate_callee (f := 9) rfl ?_); refine goesL_ (some 40) rfl rfl Tryd.func9 (by kernel_rfl) rfl #[.agg #[.int .i64 a1_0, .string a1_1, .int .i64 a1_2, .bool a1_3], .agg #[.int .i64 a0_0, .string a0_1, .int .i64 a0_2, .bool a0_3]] rfl q20y1 ?_; (with_reducible refine (span_Compare.calls a1_0 a1_1 a1_2 a1_3 a0_0 a0_1 a0_2 a0_3 t257 t258 _ A18.out).mono ?_); rintro e w110 ⟨rfl, hb⟩; refine ⟨_, rfl, ?_⟩; have n0_ := Aside0.mk (blk_below (g := gb250) (o := .cells #[.int .i64 a0_0, .string a0_1, .int .i64 a0_2, .bool a0_3] 23 (0, 0)) q20y2 hb); have n1_ := Aside0.mk (blk_below (g := gb251) (o := .cells #[.int .i64 a1_0, .string a1_1, .int .i64 a1_2, .bool a1_3] 23 (0, 0)) q20y3 hb); have n2_ := Aside0.mk (below_step q20y0 hb); clear BK250; clear BK251; clear HB; have BK250 := n0_; have BK251 := n1_; have HB := n2_; clear n0_ n1_ n2_; (try clear hb); (try clear hb2); (try clear hk); (try clear hi); have hcz111_0 : w110.cell? ⟨gb250, 0, none⟩ = some (.int .i64 a0_0) := (blk_cell BK250.out 0).trans rfl; have hcz111_1 : w110.cell? ⟨gb250, 1, none⟩ = some (.string a0_1) := (blk_cell BK250.out 1).trans rfl; have hcz111_2 : w110.cell? ⟨gb250, 2, none⟩ = some (.int .i64 a0_2) := (blk_cell BK250.out 2).trans rfl; have hcz111_3 : w110.cell? ⟨gb250, 3, none⟩ = some (.bool a0_3) := (blk_cell BK250.out 3).trans rfl; have hfz111_0 := blk_frozen BK250.out 0; have hfz111_1 := blk_frozen BK250.out 1; have hfz111_2 := blk_frozen BK250.out 2; have hfz111_3 := blk_frozen BK250.out 3) | ((with_reducible refine gate_callee (f := 9) rfl ?_); refine goesL_ (some 46) rfl rfl Tryd.func9 (by kernel_rfl) rfl #[.agg #[.int .i64 a0_0, .string a0_1, .int .i64 a0_2, .bool a0_3], .agg #[.int .i64 a0_0, .string a0_1, .int .i64 a0_2, .bool a0_3]] rfl q20y1 ?_; (with_reducible refine (span_Compare.calls a0_0 a0_1 a0_2 a0_3 a0_0 a0_1 a0_2 a0_3 t259 t260 _ A19.out).mono ?_); rintro e w112 ⟨rfl, hb⟩; refine ⟨_, rfl, ?_⟩; have n0_ := Aside0.mk (blk_below (g := gb250) (o := .cells #[.int .i64 a0_0, .string a0_1, .int .i64 a0_2, .bool a0_3] 23 (0, 0)) q20y2 hb); have n1_ := Aside0.mk (blk_below (g := gb251) (o := .cells #[.int .i64 a1_0, .string a1_1, .int .i64 a1_2, .bool a1_3] 23 (0, 0)) q20y3 hb); have n2_ := Aside0.mk (below_step q20y0 hb); clear BK250; clear BK251; clear HB; have BK250 := n0_; have BK251 := n1_; have HB := n2_; clear n0_ n1_ n2_; (try clear hb); (try clear hb2); (try clear hk); (try clear hi)))
    have n0_ := Aside0.mk (blk_drew BK250.out)
    have n1_ := Aside0.mk (blk_drew BK251.out)
    have n2_ := Aside0.mk (below_drew1 HB.out)
    clear BK250
    clear BK251
    clear HB
    have BK250 := n0_
    have BK251 := n1_
    have HB := n2_
    clear n0_ n1_ n2_
    as_aux_lemma =>
     refine start_ (n := 43) (S := fun w' => True) (ds := []) #[false, false, false, false, false, false, false, false, false, false, false, false, false, false, false, false, false, false, false, false, false, false, false, false, false, false, false, false, false, false, false, false, false, false, false, false, false, false, false, false, false, false, false] (by kernel_rfl) rfl rfl trivial (fun hHeld => ?_); refine with_tabW cambiumlaw16_SpanValues.tab9 cambiumlaw16_SpanValues.bits9 (fun HT_ HW_ => ?_)
     generalize w112.drew = w113 at BK250 BK251 HB hHeld ⊢
     refine q20p (i := 0) (N := some 49) (q20m 43 1) HT_.out ?_
     refine q20p (i := 1) (N := some 50) (q20m 43 3) HT_.out ?_
     refine q20p (i := 2) (N := some 51) (q20m 43 7) HT_.out ?_
     refine q20p (i := 3) (N := some 52) (q20m 43 15) HT_.out ?_
     refine q20p (i := 4) (N := some 53) (q20m 43 31) HT_.out ?_
     refine q20p (i := 5) (N := some 54) (q20m 43 63) HT_.out ?_
     refine q20p (i := 6) (N := some 55) (q20m 43 127) HT_.out ?_
     refine q20p (i := 7) (N := some 56) (q20m 43 255) HT_.out ?_
     refine q20p (i := 8) (N := some 57) (q20m 43 511) HT_.out ?_
     refine q20p (i := 9) (N := some 58) (q20m 43 1023) HT_.out ?_
     refine q20p (i := 10) (N := some 59) (q20m 43 2047) HT_.out ?_
     refine q20p (i := 11) (N := some 60) (q20m 43 4095) HT_.out ?_
     refine q20p (i := 12) (N := some 61) (q20m 43 8191) HT_.out ?_
     refine q20p (i := 13) (N := some 62) (q20m 43 16383) HT_.out ?_
     refine q20p (i := 14) (N := some 63) (q20m 43 32767) HT_.out ?_
     refine q20p (i := 15) (N := some 64) (q20m 43 65535) HT_.out ?_
     refine q20p (i := 16) (N := some 65) (q20m 43 131071) HT_.out ?_
     refine q20p (i := 17) (N := some 66) (q20m 43 262143) HT_.out ?_
     refine q20p (i := 18) (N := some 67) (q20m 43 524287) HT_.out ?_
     refine q20p (i := 19) (N := some 68) (q20m 43 1048575) HT_.out ?_
     refine q20u (i := 20) (N := some 69) (q20m 43 2097151) HT_.out ?_
     refine q20u (i := 21) (N := some 70) (q20m 43 4194303) HT_.out ?_
     refine q20p (i := 22) (N := some 71) (q20m 43 8388607) HT_.out ?_
     refine q20p (i := 23) (N := some 72) (q20m 43 16777215) HT_.out ?_
     refine q20u (i := 24) (N := some 73) (q20m 43 33554431) HT_.out ?_
     refine q20u (i := 25) (N := some 74) (q20m 43 67108863) HT_.out ?_
     refine q20u (i := 26) (N := some 75) (q20m 43 134217727) HT_.out ?_
     refine q20u (i := 27) (N := some 76) (q20m 43 268435455) HT_.out ?_
     refine q20u (i := 28) (N := some 77) (q20m 43 536870911) HT_.out ?_
     refine q20u (i := 29) (N := some 78) (q20m 43 1073741823) HT_.out ?_
     refine q20u (i := 30) (N := some 79) (q20m 43 2147483647) HT_.out ?_
     refine q20u (i := 31) (N := some 80) (q20m 43 4294967295) HT_.out ?_
     refine q20u (i := 32) (N := some 81) (q20m 43 8589934591) HT_.out ?_
     refine q20u (i := 33) (N := some 82) (q20m 43 17179869183) HT_.out ?_
     refine q20p (i := 34) (N := some 83) (q20m 43 34359738367) HT_.out ?_
     refine q20p (i := 35) (N := some 84) (q20m 43 68719476735) HT_.out ?_
     refine q20u (i := 36) (N := some 85) (q20m 43 137438953471) HT_.out ?_
     refine q20u (i := 37) (N := some 86) (q20m 43 274877906943) HT_.out ?_
     refine q20u (i := 38) (N := some 87) (q20m 43 549755813887) HT_.out ?_
     refine q20u (i := 39) (N := some 88) (q20m 43 1099511627775) HT_.out ?_
     refine q20u (i := 40) (N := some 89) (q20m 43 2199023255551) HT_.out ?_
     refine q20p (i := 41) (N := some 90) (q20m 43 4398046511103) HT_.out ?_
     refine q20p (i := 42) (N := some 4) (q20m 43 8796093022207) HT_.out ?_
     refine done_ (done_of HT_.out (by kernel_rfl)) ?_
     try go_wp2
     go_ret
     exact ⟨by first | rfl | (simp [errW_none, errW_some] <;> rfl) | (simp [*, errW_none, errW_some] <;> rfl), by repeat (first | (with_reducible first | exact HB.out | apply below_alloc | apply pw_below_drewN | apply below_drew1 | refine below_set ?_ GE250.out | refine below_set ?_ GE251.out) | exact HB.out)⟩
   rw [if_pos c23] at H
   have c23b0 : (t258 == t254) = true := c23
   (try (have c23b1 : decide (t258 = t254) = true := by simpa using c23))
   (try (have c23b2 : (t258 == t254) = true := by simpa using c23))
   clear c23
   by_cases c24 : t259 = 0
   rotate_left
   ·rw [if_neg c24] at H
    have c24b0 : (t259 == 0) = false := beq_eq_false_iff_ne.mpr c24
    have c24b1 : (t259 != 0) = true := bne_iff_ne.mpr c24
    obtain rfl := Option.some.inj H
    have hnb88 := NB250_251.out
    have hnc88 := NB251_250.out
    have hcz89_0 : wc.cell? ⟨gb250, 0, none⟩ = some (.int .i64 a0_0) := (blk_cell BK250.out 0).trans rfl
    have hcz89_1 : wc.cell? ⟨gb250, 1, none⟩ = some (.string a0_1) := (blk_cell BK250.out 1).trans rfl
    have hcz89_2 : wc.cell? ⟨gb250, 2, none⟩ = some (.int .i64 a0_2) := (blk_cell BK250.out 2).trans rfl
    have hcz89_3 : wc.cell? ⟨gb250, 3, none⟩ = some (.bool a0_3) := (blk_cell BK250.out 3).trans rfl
    have hfz89_0 := blk_frozen BK250.out 0
    have hfz89_1 := blk_frozen BK250.out 1
    have hfz89_2 := blk_frozen BK250.out 2
    have hfz89_3 := blk_frozen BK250.out 3
    have hcz90_0 : wc.cell? ⟨gb251, 0, none⟩ = some (.int .i64 a1_0) := (blk_cell BK251.out 0).trans rfl
    have hcz90_1 : wc.cell? ⟨gb251, 1, none⟩ = some (.string a1_1) := (blk_cell BK251.out 1).trans rfl
    have hcz90_2 : wc.cell? ⟨gb251, 2, none⟩ = some (.int .i64 a1_2) := (blk_cell BK251.out 2).trans rfl
    have hcz90_3 : wc.cell? ⟨gb251, 3, none⟩ = some (.bool a1_3) := (blk_cell BK251.out 3).trans rfl
    have hfz90_0 := blk_frozen BK251.out 0
    have hfz90_1 := blk_frozen BK251.out 1
    have hfz90_2 := blk_frozen BK251.out 2
    have hfz90_3 := blk_frozen BK251.out 3
    try go_wp2_with (first | ((with_reducible refine gate_callee (f := 9) rfl ?_); refine goesL_ (some 28) rfl rfl Tryd.func9 (by kernel_rfl) rfl #[.agg #[.int .i64 a0_0, .string a0_1, .int .i64 a0_2, .bool a0_3], .agg #[.int .i64 a1_0, .string a1_1, .int .i64 a1_2, .bool a1_3]] rfl q20y1 ?_; (with_reducible refine (span_Compare.calls a0_0 a0_1 a0_2 a0_3 a1_0 a1_1 a1_2 a1_3 t253 t254 _ A16.out).mono ?_); rintro e w91 ⟨rfl, hb⟩; refine ⟨_, rfl, ?_⟩; have n0_ := Aside0.mk (blk_below (g := gb250) (o := .cells #[.int .i64 a0_0, .string a0_1, .int .i64 a0_2, .bool a0_3] 23 (0, 0)) q20y2 hb); have n1_ := Aside0.mk (blk_below (g := gb251) (o := .cells #[.int .i64 a1_0, .string a1_1, .int .i64 a1_2, .bool a1_3] 23 (0, 0)) q20y3 hb); have n2_ := Aside0.mk (below_step q20y0 hb); clear BK250; clear BK251; clear HB; have BK250 := n0_; have BK251 := n1_; have HB := n2_; clear n0_ n1_ n2_; (try clear hb); (try clear hb2); (try clear hk); (try clear hi); have hcz92_0 : w91.cell? ⟨gb250, 0, none⟩ = some (.int .i64 a0_0) := (blk_cell BK250.out 0).trans rfl; have hcz92_1 : w91.cell? ⟨gb250, 1, none⟩ = some (.string a0_1) := (blk_cell BK250.out 1).trans rfl; have hcz92_2 : w91.cell? ⟨gb250, 2, none⟩ = some (.int .i64 a0_2) := (blk_cell BK250.out 2).trans rfl; have hcz92_3 : w91.cell? ⟨gb250, 3, none⟩ = some (.bool a0_3) := (blk_cell BK250.out 3).trans rfl; have hfz92_0 := blk_frozen BK250.out 0; have hfz92_1 := blk_frozen BK250.out 1; have hfz92_2 := blk_frozen BK250.out 2; have hfz92_3 := blk_frozen BK250.out 3; have hcz93_0 : w91.cell? ⟨gb251, 0, none⟩ = some (.int .i64 a1_0) := (blk_cell BK251.out 0).trans rfl; have hcz93_1 : w91.cell? ⟨gb251, 1, none⟩ = some (.string a1_1) := (blk_cell BK251.out 1).trans rfl; have hcz93_2 : w91.cell? ⟨gb251, 2, none⟩ = some (.int .i64 a1_2) := (blk_cell BK251.out 2).trans rfl; have hcz93_3 : w91.cell? ⟨gb251, 3, none⟩ = some (.bool a1_3) := (blk_cell BK251.out 3).trans rfl; have hfz93_0 := blk_frozen BK251.out 0; have hfz93_1 := blk_frozen BK251.out 1; have hfz93_2 := blk_frozen BK251.out 2; have hfz93_3 := blk_frozen BK251.out 3) | ((with_reducible refine gate_callee (f := 10) rfl ?_); refine goesL_ (some 34) rfl rfl Tryd.func10 (by kernel_rfl) rfl #[.agg #[.int .i64 a0_0, .string a0_1, .int .i64 a0_2, .bool a0_3], .agg #[.int .i64 a1_0, .string a1_1, .int .i64 a1_2, .bool a1_3]] rfl q20y1 ?_; (with_reducible refine (cambiumref16_Compare.calls kj4 a0_0 a0_1 a0_2 a0_3 a1_0 a1_1 a1_2 a1_3 t255 t256 _ A17.out).mono ?_); rintro e w94 ⟨rfl, hb⟩; refine ⟨_, rfl, ?_⟩; have n0_ := Aside0.mk (blk_below (g := gb250) (o := .cells #[.int .i64 a0_0, .string a0_1, .int .i64 a0_2, .bool a0_3] 23 (0, 0)) q20y2 hb); have n1_ := Aside0.mk (blk_below (g := gb251) (o := .cells #[.int .i64 a1_0, .string a1_1, .int .i64 a1_2, .bool a1_3] 23 (0, 0)) q20y3 hb); have n2_ := Aside0.mk (below_step q20y0 hb); clear BK250; clear BK251; clear HB; have BK250 := n0_; have BK251 := n1_; have HB := n2_; clear n0_ n1_ n2_; (try clear hb); (try clear hb2); (try clear hk); (try clear hi); have hcz95_0 : w94.cell? ⟨gb251, 0, none⟩ = some (.int .i64 a1_0) := (blk_cell BK251.out 0).trans rfl; have hcz95_1 : w94.cell? ⟨gb251, 1, none⟩ = some (.string a1_1) := (blk_cell BK251.out 1).trans rfl; have hcz95_2 : w94.cell? ⟨gb251, 2, none⟩ = some (.int .i64 a1_2) := (blk_cell BK251.out 2).trans rfl; have hcz95_3 : w94.cell? ⟨gb251, 3, none⟩ = some (.bool a1_3) := (blk_cell BK251.out 3).trans rfl; have hfz95_0 := blk_frozen BK251.out 0; have hfz95_1 := blk_frozen BK251.out 1; have hfz95_2 := blk_frozen BK251.out 2; have hfz95_3 := blk_frozen BK251.out 3; have hcz96_0 : w94.cell? ⟨gb250, 0, none⟩ = some (.int .i64 a0_0) := (blk_cell BK250.out 0).trans rfl; have hcz96_1 : w94.cell? ⟨gb250, 1, none⟩ = some (.string a0_1) := (blk_cell BK250.out 1).trans rfl; have hcz96_2 : w94.cell? ⟨gb250, 2, none⟩ = some (.int .i64 a0_2) := (blk_cell BK250.out 2).trans rfl; have hcz96_3 : w94.cell? ⟨gb250, 3, none⟩ = some (.bool a0_3) := (blk_cell BK250.out 3).trans rfl; have hfz96_0 := blk_frozen BK250.out 0; have hfz96_1 := blk_frozen BK250.out 1; have hfz96_2 := blk_frozen BK250.out 2; have hfz96_3 := blk_frozen BK250.out 3) | ((with_reducible refine gate_callee (f := 9) rfl ?_); refine goesL_ (some 40) rfl rfl Tryd.func9 (by kernel_rfl) rfl #[.agg #[.int .i64 a1_0, .string a1_1, .int .i64 a1_2, .bool a1_3], .agg #[.int .i64 a0_0, .string a0_1, .int .i64 a0_2, .bool a0_3]] rfl q20y1 ?_; (with_reducible refine (span_Compare.calls a1_0 a1_1 a1_2 a1_3 a0_0 a0_1 a0_2 a0_3 t257 t258 _ A18.out).mono ?_); rintro e w97 ⟨rfl, hb⟩; refine ⟨_, rfl, ?_⟩; have n0_ := Aside0.mk (blk_below (g := gb250) (o := .cells #[.int .i64 a0_0, .string a0_1, .int .i64 a0_2, .bool a0_3] 23 (0, 0)) q20y2 hb); have n1_ := Aside0.mk (blk_below (g := gb251) (o := .cells #[.int .i64 a1_0, .string a1_1, .int .i64 a1_2, .bool a1_3] 23 (0, 0)) q20y3 hb); have n2_ := Aside0.mk (below_step q20y0 hb); clear BK250; clear BK251; clear HB; have BK250 := n0_; have BK251 := n1_; have HB := n2_; clear n0_ n1_ n2_; (try clear hb); (try clear hb2); (try clear hk); (try clear hi); have hcz98_0 : w97.cell? ⟨gb250, 0, none⟩ = some (.int .i64 a0_0) := (blk_cell BK250.out 0).trans rfl; have hcz98_1 : w97.cell? ⟨gb250, 1, none⟩ = some (.string a0_1) := (blk_cell BK250.out 1).trans rfl; have hcz98_2 : w97.cell? ⟨gb250, 2, none⟩ = some (.int .i64 a0_2) := (blk_cell BK250.out 2).trans rfl; have hcz98_3 : w97.cell? ⟨gb250, 3, none⟩ = some (.bool a0_3) := (blk_cell BK250.out 3).trans rfl; have hfz98_0 := blk_frozen BK250.out 0; have hfz98_1 := blk_frozen BK250.out 1; have hfz98_2 := blk_frozen BK250.out 2; have hfz98_3 := blk_frozen BK250.out 3) | ((with_reducible refine gate_callee (f := 9) rfl ?_); refine goesL_ (some 46) rfl rfl Tryd.func9 (by kernel_rfl) rfl #[.agg #[.int .i64 a0_0, .string a0_1, .int .i64 a0_2, .bool a0_3], .agg #[.int .i64 a0_0, .string a0_1, .int .i64 a0_2, .bool a0_3]] rfl q20y1 ?_; (with_reducible refine (span_Compare.calls a0_0 a0_1 a0_2 a0_3 a0_0 a0_1 a0_2 a0_3 t259 t260 _ A19.out).mono ?_); rintro e w99 ⟨rfl, hb⟩; refine ⟨_, rfl, ?_⟩; have n0_ := Aside0.mk (blk_below (g := gb250) (o := .cells #[.int .i64 a0_0, .string a0_1, .int .i64 a0_2, .bool a0_3] 23 (0, 0)) q20y2 hb); have n1_ := Aside0.mk (blk_below (g := gb251) (o := .cells #[.int .i64 a1_0, .string a1_1, .int .i64 a1_2, .bool a1_3] 23 (0, 0)) q20y3 hb); have n2_ := Aside0.mk (below_step q20y0 hb); clear BK250; clear BK251; clear HB; have BK250 := n0_; have BK251 := n1_; have HB := n2_; clear n0_ n1_ n2_; (try clear hb); (try clear hb2); (try clear hk); (try clear hi)))
    have n0_ := Aside0.mk (blk_drew BK250.out)
    have n1_ := Aside0.mk (blk_drew BK251.out)
    have n2_ := Aside0.mk (below_drew1 HB.out)
    clear BK250
    clear BK251
    clear HB
    have BK250 := n0_
    have BK251 := n1_
    have HB := n2_
    clear n0_ n1_ n2_
    as_aux_lemma =>
     refine start_ (n := 43) (S := fun w' => True) (ds := []) #[false, false, false, false, false, false, false, false, false, false, false, false, false, false, false, false, false, false, false, false, false, false, false, false, false, false, false, false, false, false, false, false, false, false, false, false, false, false, false, false, false, false, false] (by kernel_rfl) rfl rfl trivial (fun hHeld => ?_); refine with_tabW cambiumlaw16_SpanValues.tab9 cambiumlaw16_SpanValues.bits9 (fun HT_ HW_ => ?_)
     generalize w99.drew = w100 at BK250 BK251 HB hHeld ⊢
     refine q20p (i := 0) (N := some 49) (q20m 43 1) HT_.out ?_
     refine q20p (i := 1) (N := some 50) (q20m 43 3) HT_.out ?_
     refine q20p (i := 2) (N := some 51) (q20m 43 7) HT_.out ?_
     refine q20p (i := 3) (N := some 52) (q20m 43 15) HT_.out ?_
     refine q20p (i := 4) (N := some 53) (q20m 43 31) HT_.out ?_
     refine q20p (i := 5) (N := some 54) (q20m 43 63) HT_.out ?_
     refine q20p (i := 6) (N := some 55) (q20m 43 127) HT_.out ?_
     refine q20p (i := 7) (N := some 56) (q20m 43 255) HT_.out ?_
     refine q20p (i := 8) (N := some 57) (q20m 43 511) HT_.out ?_
     refine q20p (i := 9) (N := some 58) (q20m 43 1023) HT_.out ?_
     refine q20p (i := 10) (N := some 59) (q20m 43 2047) HT_.out ?_
     refine q20p (i := 11) (N := some 60) (q20m 43 4095) HT_.out ?_
     refine q20p (i := 12) (N := some 61) (q20m 43 8191) HT_.out ?_
     refine q20p (i := 13) (N := some 62) (q20m 43 16383) HT_.out ?_
     refine q20p (i := 14) (N := some 63) (q20m 43 32767) HT_.out ?_
     refine q20p (i := 15) (N := some 64) (q20m 43 65535) HT_.out ?_
     refine q20p (i := 16) (N := some 65) (q20m 43 131071) HT_.out ?_
     refine q20p (i := 17) (N := some 66) (q20m 43 262143) HT_.out ?_
     refine q20p (i := 18) (N := some 67) (q20m 43 524287) HT_.out ?_
     refine q20p (i := 19) (N := some 68) (q20m 43 1048575) HT_.out ?_
     refine q20p (i := 20) (N := some 69) (q20m 43 2097151) HT_.out ?_
     refine q20p (i := 21) (N := some 70) (q20m 43 4194303) HT_.out ?_
     refine q20p (i := 22) (N := some 71) (q20m 43 8388607) HT_.out ?_
     refine q20p (i := 23) (N := some 72) (q20m 43 16777215) HT_.out ?_
     refine q20u (i := 24) (N := some 73) (q20m 43 33554431) HT_.out ?_
     refine q20u (i := 25) (N := some 74) (q20m 43 67108863) HT_.out ?_
     refine q20u (i := 26) (N := some 75) (q20m 43 134217727) HT_.out ?_
     refine q20u (i := 27) (N := some 76) (q20m 43 268435455) HT_.out ?_
     refine q20u (i := 28) (N := some 77) (q20m 43 536870911) HT_.out ?_
     refine q20u (i := 29) (N := some 78) (q20m 43 1073741823) HT_.out ?_
     refine q20u (i := 30) (N := some 79) (q20m 43 2147483647) HT_.out ?_
     refine q20u (i := 31) (N := some 80) (q20m 43 4294967295) HT_.out ?_
     refine q20u (i := 32) (N := some 81) (q20m 43 8589934591) HT_.out ?_
     refine q20u (i := 33) (N := some 82) (q20m 43 17179869183) HT_.out ?_
     refine q20p (i := 34) (N := some 83) (q20m 43 34359738367) HT_.out ?_
     refine q20p (i := 35) (N := some 84) (q20m 43 68719476735) HT_.out ?_
     refine q20u (i := 36) (N := some 85) (q20m 43 137438953471) HT_.out ?_
     refine q20u (i := 37) (N := some 86) (q20m 43 274877906943) HT_.out ?_
     refine q20u (i := 38) (N := some 87) (q20m 43 549755813887) HT_.out ?_
     refine q20u (i := 39) (N := some 88) (q20m 43 1099511627775) HT_.out ?_
     refine q20u (i := 40) (N := some 89) (q20m 43 2199023255551) HT_.out ?_
     refine q20p (i := 41) (N := some 90) (q20m 43 4398046511103) HT_.out ?_
     refine q20p (i := 42) (N := some 4) (q20m 43 8796093022207) HT_.out ?_
     refine done_ (done_of HT_.out (by kernel_rfl)) ?_
     try go_wp2
     go_ret
     exact ⟨by first | rfl | (simp [errW_none, errW_some] <;> rfl) | (simp [*, errW_none, errW_some] <;> rfl), by repeat (first | (with_reducible first | exact HB.out | apply below_alloc | apply pw_below_drewN | apply below_drew1 | refine below_set ?_ GE250.out | refine below_set ?_ GE251.out) | exact HB.out)⟩
   rw [if_pos c24] at H
   have c24b0 : (t259 == 0) = true := beq_iff_eq.mpr c24
   have c24b1 : (t259 != 0) = false := bne_eq_false_iff_eq.mpr c24
   clear c24
   by_cases c25 : a0_0 ≥ 0
   rotate_left
   ·rw [if_neg c25] at H
    have c25b0 : decide (0 ≤ a0_0) = false := decide_eq_false c25
    clear c25
    by_cases c57 : (t260 == false) = true
    rotate_left
    ·rw [if_neg c57] at H
     have c57b0 : (t260 == false) = false := by simpa using c57
     (try (have c57b1 : decide (t260 = false) = false := by simpa using c57))
     (try (have c57b2 : (t260 == false) = false := by simpa using c57))
     (try (have c57b3 : ¬ (t260 = false) := by simpa using c57))
     clear c57
     obtain rfl := Option.some.inj H
     have hnb75 := NB250_251.out
     have hnc75 := NB251_250.out
     have hcz76_0 : wc.cell? ⟨gb250, 0, none⟩ = some (.int .i64 a0_0) := (blk_cell BK250.out 0).trans rfl
     have hcz76_1 : wc.cell? ⟨gb250, 1, none⟩ = some (.string a0_1) := (blk_cell BK250.out 1).trans rfl
     have hcz76_2 : wc.cell? ⟨gb250, 2, none⟩ = some (.int .i64 a0_2) := (blk_cell BK250.out 2).trans rfl
     have hcz76_3 : wc.cell? ⟨gb250, 3, none⟩ = some (.bool a0_3) := (blk_cell BK250.out 3).trans rfl
     have hfz76_0 := blk_frozen BK250.out 0
     have hfz76_1 := blk_frozen BK250.out 1
     have hfz76_2 := blk_frozen BK250.out 2
     have hfz76_3 := blk_frozen BK250.out 3
     have hcz77_0 : wc.cell? ⟨gb251, 0, none⟩ = some (.int .i64 a1_0) := (blk_cell BK251.out 0).trans rfl
     have hcz77_1 : wc.cell? ⟨gb251, 1, none⟩ = some (.string a1_1) := (blk_cell BK251.out 1).trans rfl
     have hcz77_2 : wc.cell? ⟨gb251, 2, none⟩ = some (.int .i64 a1_2) := (blk_cell BK251.out 2).trans rfl
     have hcz77_3 : wc.cell? ⟨gb251, 3, none⟩ = some (.bool a1_3) := (blk_cell BK251.out 3).trans rfl
     have hfz77_0 := blk_frozen BK251.out 0
     have hfz77_1 := blk_frozen BK251.out 1
     have hfz77_2 := blk_frozen BK251.out 2
     have hfz77_3 := blk_frozen BK251.out 3
     try go_wp2_with (first | ((with_reducible refine gate_callee (f := 9) rfl ?_); refine goesL_ (some 28) rfl rfl Tryd.func9 (by kernel_rfl) rfl #[.agg #[.int .i64 a0_0, .string a0_1, .int .i64 a0_2, .bool a0_3], .agg #[.int .i64 a1_0, .string a1_1, .int .i64 a1_2, .bool a1_3]] rfl q20y1 ?_; (with_reducible refine (span_Compare.calls a0_0 a0_1 a0_2 a0_3 a1_0 a1_1 a1_2 a1_3 t253 t254 _ A16.out).mono ?_); rintro e w78 ⟨rfl, hb⟩; refine ⟨_, rfl, ?_⟩; have n0_ := Aside0.mk (blk_below (g := gb250) (o := .cells #[.int .i64 a0_0, .string a0_1, .int .i64 a0_2, .bool a0_3] 23 (0, 0)) q20y2 hb); have n1_ := Aside0.mk (blk_below (g := gb251) (o := .cells #[.int .i64 a1_0, .string a1_1, .int .i64 a1_2, .bool a1_3] 23 (0, 0)) q20y3 hb); have n2_ := Aside0.mk (below_step q20y0 hb); clear BK250; clear BK251; clear HB; have BK250 := n0_; have BK251 := n1_; have HB := n2_; clear n0_ n1_ n2_; (try clear hb); (try clear hb2); (try clear hk); (try clear hi); have hcz79_0 : w78.cell? ⟨gb250, 0, none⟩ = some (.int .i64 a0_0) := (blk_cell BK250.out 0).trans rfl; have hcz79_1 : w78.cell? ⟨gb250, 1, none⟩ = some (.string a0_1) := (blk_cell BK250.out 1).trans rfl; have hcz79_2 : w78.cell? ⟨gb250, 2, none⟩ = some (.int .i64 a0_2) := (blk_cell BK250.out 2).trans rfl; have hcz79_3 : w78.cell? ⟨gb250, 3, none⟩ = some (.bool a0_3) := (blk_cell BK250.out 3).trans rfl; have hfz79_0 := blk_frozen BK250.out 0; have hfz79_1 := blk_frozen BK250.out 1; have hfz79_2 := blk_frozen BK250.out 2; have hfz79_3 := blk_frozen BK250.out 3; have hcz80_0 : w78.cell? ⟨gb251, 0, none⟩ = some (.int .i64 a1_0) := (blk_cell BK251.out 0).trans rfl; have hcz80_1 : w78.cell? ⟨gb251, 1, none⟩ = some (.string a1_1) := (blk_cell BK251.out 1).trans rfl; have hcz80_2 : w78.cell? ⟨gb251, 2, none⟩ = some (.int .i64 a1_2) := (blk_cell BK251.out 2).trans rfl; have hcz80_3 : w78.cell? ⟨gb251, 3, none⟩ = some (.bool a1_3) := (blk_cell BK251.out 3).trans rfl; have hfz80_0 := blk_frozen BK251.out 0; have hfz80_1 := blk_frozen BK251.out 1; have hfz80_2 := blk_frozen BK251.out 2; have hfz80_3 := blk_frozen BK251.out 3) | ((with_reducible refine gate_callee (f := 10) rfl ?_); refine goesL_ (some 34) rfl rfl Tryd.func10 (by kernel_rfl) rfl #[.agg #[.int .i64 a0_0, .string a0_1, .int .i64 a0_2, .bool a0_3], .agg #[.int .i64 a1_0, .string a1_1, .int .i64 a1_2, .bool a1_3]] rfl q20y1 ?_; (with_reducible refine (cambiumref16_Compare.calls kj4 a0_0 a0_1 a0_2 a0_3 a1_0 a1_1 a1_2 a1_3 t255 t256 _ A17.out).mono ?_); rintro e w81 ⟨rfl, hb⟩; refine ⟨_, rfl, ?_⟩; have n0_ := Aside0.mk (blk_below (g := gb250) (o := .cells #[.int .i64 a0_0, .string a0_1, .int .i64 a0_2, .bool a0_3] 23 (0, 0)) q20y2 hb); have n1_ := Aside0.mk (blk_below (g := gb251) (o := .cells #[.int .i64 a1_0, .string a1_1, .int .i64 a1_2, .bool a1_3] 23 (0, 0)) q20y3 hb); have n2_ := Aside0.mk (below_step q20y0 hb); clear BK250; clear BK251; clear HB; have BK250 := n0_; have BK251 := n1_; have HB := n2_; clear n0_ n1_ n2_; (try clear hb); (try clear hb2); (try clear hk); (try clear hi); have hcz82_0 : w81.cell? ⟨gb251, 0, none⟩ = some (.int .i64 a1_0) := (blk_cell BK251.out 0).trans rfl; have hcz82_1 : w81.cell? ⟨gb251, 1, none⟩ = some (.string a1_1) := (blk_cell BK251.out 1).trans rfl; have hcz82_2 : w81.cell? ⟨gb251, 2, none⟩ = some (.int .i64 a1_2) := (blk_cell BK251.out 2).trans rfl; have hcz82_3 : w81.cell? ⟨gb251, 3, none⟩ = some (.bool a1_3) := (blk_cell BK251.out 3).trans rfl; have hfz82_0 := blk_frozen BK251.out 0; have hfz82_1 := blk_frozen BK251.out 1; have hfz82_2 := blk_frozen BK251.out 2; have hfz82_3 := blk_frozen BK251.out 3; have hcz83_0 : w81.cell? ⟨gb250, 0, none⟩ = some (.int .i64 a0_0) := (blk_cell BK250.out 0).trans rfl; have hcz83_1 : w81.cell? ⟨gb250, 1, none⟩ = some (.string a0_1) := (blk_cell BK250.out 1).trans rfl; have hcz83_2 : w81.cell? ⟨gb250, 2, none⟩ = some (.int .i64 a0_2) := (blk_cell BK250.out 2).trans rfl; have hcz83_3 : w81.cell? ⟨gb250, 3, none⟩ = some (.bool a0_3) := (blk_cell BK250.out 3).trans rfl; have hfz83_0 := blk_frozen BK250.out 0; have hfz83_1 := blk_frozen BK250.out 1; have hfz83_2 := blk_frozen BK250.out 2; have hfz83_3 := blk_frozen BK250.out 3) | ((with_reducible refine gate_callee (f := 9) rfl ?_); refine goesL_ (some 40) rfl rfl Tryd.func9 (by kernel_rfl) rfl #[.agg #[.int .i64 a1_0, .string a1_1, .int .i64 a1_2, .bool a1_3], .agg #[.int .i64 a0_0, .string a0_1, .int .i64 a0_2, .bool a0_3]] rfl q20y1 ?_; (with_reducible refine (span_Compare.calls a1_0 a1_1 a1_2 a1_3 a0_0 a0_1 a0_2 a0_3 t257 t258 _ A18.out).mono ?_); rintro e w84 ⟨rfl, hb⟩; refine ⟨_, rfl, ?_⟩; have n0_ := Aside0.mk (blk_below (g := gb250) (o := .cells #[.int .i64 a0_0, .string a0_1, .int .i64 a0_2, .bool a0_3] 23 (0, 0)) q20y2 hb); have n1_ := Aside0.mk (blk_below (g := gb251) (o := .cells #[.int .i64 a1_0, .string a1_1, .int .i64 a1_2, .bool a1_3] 23 (0, 0)) q20y3 hb); have n2_ := Aside0.mk (below_step q20y0 hb); clear BK250; clear BK251; clear HB; have BK250 := n0_; have BK251 := n1_; have HB := n2_; clear n0_ n1_ n2_; (try clear hb); (try clear hb2); (try clear hk); (try clear hi); have hcz85_0 : w84.cell? ⟨gb250, 0, none⟩ = some (.int .i64 a0_0) := (blk_cell BK250.out 0).trans rfl; have hcz85_1 : w84.cell? ⟨gb250, 1, none⟩ = some (.string a0_1) := (blk_cell BK250.out 1).trans rfl; have hcz85_2 : w84.cell? ⟨gb250, 2, none⟩ = some (.int .i64 a0_2) := (blk_cell BK250.out 2).trans rfl; have hcz85_3 : w84.cell? ⟨gb250, 3, none⟩ = some (.bool a0_3) := (blk_cell BK250.out 3).trans rfl; have hfz85_0 := blk_frozen BK250.out 0; have hfz85_1 := blk_frozen BK250.out 1; have hfz85_2 := blk_frozen BK250.out 2; have hfz85_3 := blk_frozen BK250.out 3) | ((with_reducible refine gate_callee (f := 9) rfl ?_); refine goesL_ (some 46) rfl rfl Tryd.func9 (by kernel_rfl) rfl #[.agg #[.int .i64 a0_0, .string a0_1, .int .i64 a0_2, .bool a0_3], .agg #[.int .i64 a0_0, .string a0_1, .int .i64 a0_2, .bool a0_3]] rfl q20y1 ?_; (with_reducible refine (span_Compare.calls a0_0 a0_1 a0_2 a0_3 a0_0 a0_1 a0_2 a0_3 t259 t260 _ A19.out).mono ?_); rintro e w86 ⟨rfl, hb⟩; refine ⟨_, rfl, ?_⟩; have n0_ := Aside0.mk (blk_below (g := gb250) (o := .cells #[.int .i64 a0_0, .string a0_1, .int .i64 a0_2, .bool a0_3] 23 (0, 0)) q20y2 hb); have n1_ := Aside0.mk (blk_below (g := gb251) (o := .cells #[.int .i64 a1_0, .string a1_1, .int .i64 a1_2, .bool a1_3] 23 (0, 0)) q20y3 hb); have n2_ := Aside0.mk (below_step q20y0 hb); clear BK250; clear BK251; clear HB; have BK250 := n0_; have BK251 := n1_; have HB := n2_; clear n0_ n1_ n2_; (try clear hb); (try clear hb2); (try clear hk); (try clear hi)))
     have n0_ := Aside0.mk (blk_drew BK250.out)
     have n1_ := Aside0.mk (blk_drew BK251.out)
     have n2_ := Aside0.mk (below_drew1 HB.out)
     clear BK250
     clear BK251
     clear HB
     have BK250 := n0_
     have BK251 := n1_
     have HB := n2_
     clear n0_ n1_ n2_
     as_aux_lemma =>
      refine start_ (n := 43) (S := fun w' => w'.cell? ⟨gb250, 0, none⟩ = some (.int .i64 a0_0) ∧ w'.cell? ⟨gb250, 1, none⟩ = some (.string a0_1) ∧ w'.cell? ⟨gb250, 2, none⟩ = some (.int .i64 a0_2) ∧ w'.cell? ⟨gb250, 3, none⟩ = some (.bool a0_3)) (ds := []) #[false, false, false, false, false, false, false, false, false, false, false, false, false, false, false, false, false, false, false, false, false, false, false, false, false, false, false, false, false, false, false, false, false, false, false, false, false, false, false, false, false, false, false] (by kernel_rfl) rfl rfl ⟨q20k BK250.out 0, q20k BK250.out 1, q20k BK250.out 2, q20k BK250.out 3⟩ (fun hHeld => ?_); refine with_tabW cambiumlaw16_SpanValues.tab9 cambiumlaw16_SpanValues.bits9 (fun HT_ HW_ => ?_)
      generalize w86.drew = w87 at BK250 BK251 HB hHeld ⊢
      refine q20p (i := 0) (N := some 49) (q20m 43 1) HT_.out ?_
      refine q20p (i := 1) (N := some 50) (q20m 43 3) HT_.out ?_
      refine q20p (i := 2) (N := some 51) (q20m 43 7) HT_.out ?_
      refine q20p (i := 3) (N := some 52) (q20m 43 15) HT_.out ?_
      refine q20p (i := 4) (N := some 53) (q20m 43 31) HT_.out ?_
      refine q20p (i := 5) (N := some 54) (q20m 43 63) HT_.out ?_
      refine q20p (i := 6) (N := some 55) (q20m 43 127) HT_.out ?_
      refine q20p (i := 7) (N := some 56) (q20m 43 255) HT_.out ?_
      refine q20p (i := 8) (N := some 57) (q20m 43 511) HT_.out ?_
      refine q20p (i := 9) (N := some 58) (q20m 43 1023) HT_.out ?_
      refine q20p (i := 10) (N := some 59) (q20m 43 2047) HT_.out ?_
      refine q20p (i := 11) (N := some 60) (q20m 43 4095) HT_.out ?_
      refine q20p (i := 12) (N := some 61) (q20m 43 8191) HT_.out ?_
      refine q20p (i := 13) (N := some 62) (q20m 43 16383) HT_.out ?_
      refine q20p (i := 14) (N := some 63) (q20m 43 32767) HT_.out ?_
      refine q20p (i := 15) (N := some 64) (q20m 43 65535) HT_.out ?_
      refine q20p (i := 16) (N := some 65) (q20m 43 131071) HT_.out ?_
      refine q20p (i := 17) (N := some 66) (q20m 43 262143) HT_.out ?_
      refine q20p (i := 18) (N := some 67) (q20m 43 524287) HT_.out ?_
      refine q20p (i := 19) (N := some 68) (q20m 43 1048575) HT_.out ?_
      refine q20p (i := 20) (N := some 69) (q20m 43 2097151) HT_.out ?_
      refine q20p (i := 21) (N := some 70) (q20m 43 4194303) HT_.out ?_
      refine q20p (i := 22) (N := some 71) (q20m 43 8388607) HT_.out ?_
      refine q20p (i := 23) (N := some 72) (q20m 43 16777215) HT_.out ?_
      refine q20p (i := 24) (N := some 73) (q20m 43 33554431) HT_.out ?_
      refine q20p (i := 25) (N := some 74) (q20m 43 67108863) HT_.out ?_
      refine take_ (i := 26) (N := some 75) (v := ?_) (a' := ?_) (q20m 43 134217727) rfl rfl (take_ofW HT_.out HW_.out (by kernel_rfl)) (fun _ _ _ h => h) (Or.inl ⟨by rfl, ?_⟩) hHeld ?_ ?_; rotate_left; (rintro w' ⟨s0, s1, s2, s3⟩; go_simp; with_reducible rfl); rotate_left; (simp only [Act.put, q20a, q20b, q20c, i64_w, i32_w]; rfl)
      refine q20p (i := 27) (N := some 76) (q20m 43 268435455) HT_.out ?_
      refine q20p (i := 28) (N := some 77) (q20m 43 536870911) HT_.out ?_
      refine q20u (i := 29) (N := some 78) (q20m 43 1073741823) HT_.out ?_
      refine q20u (i := 30) (N := some 79) (q20m 43 2147483647) HT_.out ?_
      refine q20u (i := 31) (N := some 80) (q20m 43 4294967295) HT_.out ?_
      refine q20p (i := 32) (N := some 81) (q20m 43 8589934591) HT_.out ?_
      refine q20p (i := 33) (N := some 82) (q20m 43 17179869183) HT_.out ?_
      refine q20p (i := 34) (N := some 83) (q20m 43 34359738367) HT_.out ?_
      refine q20p (i := 35) (N := some 84) (q20m 43 68719476735) HT_.out ?_
      refine q20u (i := 36) (N := some 85) (q20m 43 137438953471) HT_.out ?_
      refine q20u (i := 37) (N := some 86) (q20m 43 274877906943) HT_.out ?_
      refine q20u (i := 38) (N := some 87) (q20m 43 549755813887) HT_.out ?_
      refine q20u (i := 39) (N := some 88) (q20m 43 1099511627775) HT_.out ?_
      refine q20u (i := 40) (N := some 89) (q20m 43 2199023255551) HT_.out ?_
      refine q20p (i := 41) (N := some 90) (q20m 43 4398046511103) HT_.out ?_
      refine q20p (i := 42) (N := some 4) (q20m 43 8796093022207) HT_.out ?_
      refine done_ (done_of HT_.out (by kernel_rfl)) ?_
      try go_wp2
      go_ret
      exact ⟨by first | rfl | (simp [errW_none, errW_some] <;> rfl) | (simp [*, errW_none, errW_some] <;> rfl), by repeat (first | (with_reducible first | exact HB.out | apply below_alloc | apply pw_below_drewN | apply below_drew1 | refine below_set ?_ GE250.out | refine below_set ?_ GE251.out) | exact HB.out)⟩
    rw [if_pos c57] at H
    have c57b0 : (t260 == false) = true := c57
    (try (have c57b1 : decide (t260 = false) = true := by simpa using c57))
    (try (have c57b2 : (t260 == false) = true := by simpa using c57))
    clear c57
    replace H := Option.bind_eq_some_iff.mp H
    obtain ⟨t263, A580, H⟩ := H
    replace H : ((cambiumref16_Value.f kj4 a0_0 a0_1 a0_2 a0_3).bind fun t264 => (some (t263 == t264))) = some r := H
    have A58 := Aside0.mk A580
    clear A580
    replace H := Option.bind_eq_some_iff.mp H
    obtain ⟨t264, A590, H⟩ := H
    replace H : (some (t263 == t264)) = some r := H
    have A59 := Aside0.mk A590
    clear A590
    obtain rfl := Option.some.inj H
    have hnb60 := NB250_251.out
    have hnc60 := NB251_250.out
    have hcz61_0 : wc.cell? ⟨gb250, 0, none⟩ = some (.int .i64 a0_0) := (blk_cell BK250.out 0).trans rfl
    have hcz61_1 : wc.cell? ⟨gb250, 1, none⟩ = some (.string a0_1) := (blk_cell BK250.out 1).trans rfl
    have hcz61_2 : wc.cell? ⟨gb250, 2, none⟩ = some (.int .i64 a0_2) := (blk_cell BK250.out 2).trans rfl
    have hcz61_3 : wc.cell? ⟨gb250, 3, none⟩ = some (.bool a0_3) := (blk_cell BK250.out 3).trans rfl
    have hfz61_0 := blk_frozen BK250.out 0
    have hfz61_1 := blk_frozen BK250.out 1
    have hfz61_2 := blk_frozen BK250.out 2
    have hfz61_3 := blk_frozen BK250.out 3
    have hcz62_0 : wc.cell? ⟨gb251, 0, none⟩ = some (.int .i64 a1_0) := (blk_cell BK251.out 0).trans rfl
    have hcz62_1 : wc.cell? ⟨gb251, 1, none⟩ = some (.string a1_1) := (blk_cell BK251.out 1).trans rfl
    have hcz62_2 : wc.cell? ⟨gb251, 2, none⟩ = some (.int .i64 a1_2) := (blk_cell BK251.out 2).trans rfl
    have hcz62_3 : wc.cell? ⟨gb251, 3, none⟩ = some (.bool a1_3) := (blk_cell BK251.out 3).trans rfl
    have hfz62_0 := blk_frozen BK251.out 0
    have hfz62_1 := blk_frozen BK251.out 1
    have hfz62_2 := blk_frozen BK251.out 2
    have hfz62_3 := blk_frozen BK251.out 3
    try go_wp2_with (first | ((with_reducible refine gate_callee (f := 9) rfl ?_); refine goesL_ (some 28) rfl rfl Tryd.func9 (by kernel_rfl) rfl #[.agg #[.int .i64 a0_0, .string a0_1, .int .i64 a0_2, .bool a0_3], .agg #[.int .i64 a1_0, .string a1_1, .int .i64 a1_2, .bool a1_3]] rfl q20y1 ?_; (with_reducible refine (span_Compare.calls a0_0 a0_1 a0_2 a0_3 a1_0 a1_1 a1_2 a1_3 t253 t254 _ A16.out).mono ?_); rintro e w63 ⟨rfl, hb⟩; refine ⟨_, rfl, ?_⟩; have n0_ := Aside0.mk (blk_below (g := gb250) (o := .cells #[.int .i64 a0_0, .string a0_1, .int .i64 a0_2, .bool a0_3] 23 (0, 0)) q20y2 hb); have n1_ := Aside0.mk (blk_below (g := gb251) (o := .cells #[.int .i64 a1_0, .string a1_1, .int .i64 a1_2, .bool a1_3] 23 (0, 0)) q20y3 hb); have n2_ := Aside0.mk (below_step q20y0 hb); clear BK250; clear BK251; clear HB; have BK250 := n0_; have BK251 := n1_; have HB := n2_; clear n0_ n1_ n2_; (try clear hb); (try clear hb2); (try clear hk); (try clear hi); have hcz64_0 : w63.cell? ⟨gb250, 0, none⟩ = some (.int .i64 a0_0) := (blk_cell BK250.out 0).trans rfl; have hcz64_1 : w63.cell? ⟨gb250, 1, none⟩ = some (.string a0_1) := (blk_cell BK250.out 1).trans rfl; have hcz64_2 : w63.cell? ⟨gb250, 2, none⟩ = some (.int .i64 a0_2) := (blk_cell BK250.out 2).trans rfl; have hcz64_3 : w63.cell? ⟨gb250, 3, none⟩ = some (.bool a0_3) := (blk_cell BK250.out 3).trans rfl; have hfz64_0 := blk_frozen BK250.out 0; have hfz64_1 := blk_frozen BK250.out 1; have hfz64_2 := blk_frozen BK250.out 2; have hfz64_3 := blk_frozen BK250.out 3; have hcz65_0 : w63.cell? ⟨gb251, 0, none⟩ = some (.int .i64 a1_0) := (blk_cell BK251.out 0).trans rfl; have hcz65_1 : w63.cell? ⟨gb251, 1, none⟩ = some (.string a1_1) := (blk_cell BK251.out 1).trans rfl; have hcz65_2 : w63.cell? ⟨gb251, 2, none⟩ = some (.int .i64 a1_2) := (blk_cell BK251.out 2).trans rfl; have hcz65_3 : w63.cell? ⟨gb251, 3, none⟩ = some (.bool a1_3) := (blk_cell BK251.out 3).trans rfl; have hfz65_0 := blk_frozen BK251.out 0; have hfz65_1 := blk_frozen BK251.out 1; have hfz65_2 := blk_frozen BK251.out 2; have hfz65_3 := blk_frozen BK251.out 3) | ((with_reducible refine gate_callee (f := 10) rfl ?_); refine goesL_ (some 34) rfl rfl Tryd.func10 (by kernel_rfl) rfl #[.agg #[.int .i64 a0_0, .string a0_1, .int .i64 a0_2, .bool a0_3], .agg #[.int .i64 a1_0, .string a1_1, .int .i64 a1_2, .bool a1_3]] rfl q20y1 ?_; (with_reducible refine (cambiumref16_Compare.calls kj4 a0_0 a0_1 a0_2 a0_3 a1_0 a1_1 a1_2 a1_3 t255 t256 _ A17.out).mono ?_); rintro e w66 ⟨rfl, hb⟩; refine ⟨_, rfl, ?_⟩; have n0_ := Aside0.mk (blk_below (g := gb250) (o := .cells #[.int .i64 a0_0, .string a0_1, .int .i64 a0_2, .bool a0_3] 23 (0, 0)) q20y2 hb); have n1_ := Aside0.mk (blk_below (g := gb251) (o := .cells #[.int .i64 a1_0, .string a1_1, .int .i64 a1_2, .bool a1_3] 23 (0, 0)) q20y3 hb); have n2_ := Aside0.mk (below_step q20y0 hb); clear BK250; clear BK251; clear HB; have BK250 := n0_; have BK251 := n1_; have HB := n2_; clear n0_ n1_ n2_; (try clear hb); (try clear hb2); (try clear hk); (try clear hi); have hcz67_0 : w66.cell? ⟨gb251, 0, none⟩ = some (.int .i64 a1_0) := (blk_cell BK251.out 0).trans rfl; have hcz67_1 : w66.cell? ⟨gb251, 1, none⟩ = some (.string a1_1) := (blk_cell BK251.out 1).trans rfl; have hcz67_2 : w66.cell? ⟨gb251, 2, none⟩ = some (.int .i64 a1_2) := (blk_cell BK251.out 2).trans rfl; have hcz67_3 : w66.cell? ⟨gb251, 3, none⟩ = some (.bool a1_3) := (blk_cell BK251.out 3).trans rfl; have hfz67_0 := blk_frozen BK251.out 0; have hfz67_1 := blk_frozen BK251.out 1; have hfz67_2 := blk_frozen BK251.out 2; have hfz67_3 := blk_frozen BK251.out 3; have hcz68_0 : w66.cell? ⟨gb250, 0, none⟩ = some (.int .i64 a0_0) := (blk_cell BK250.out 0).trans rfl; have hcz68_1 : w66.cell? ⟨gb250, 1, none⟩ = some (.string a0_1) := (blk_cell BK250.out 1).trans rfl; have hcz68_2 : w66.cell? ⟨gb250, 2, none⟩ = some (.int .i64 a0_2) := (blk_cell BK250.out 2).trans rfl; have hcz68_3 : w66.cell? ⟨gb250, 3, none⟩ = some (.bool a0_3) := (blk_cell BK250.out 3).trans rfl; have hfz68_0 := blk_frozen BK250.out 0; have hfz68_1 := blk_frozen BK250.out 1; have hfz68_2 := blk_frozen BK250.out 2; have hfz68_3 := blk_frozen BK250.out 3) | ((with_reducible refine gate_callee (f := 9) rfl ?_); refine goesL_ (some 40) rfl rfl Tryd.func9 (by kernel_rfl) rfl #[.agg #[.int .i64 a1_0, .string a1_1, .int .i64 a1_2, .bool a1_3], .agg #[.int .i64 a0_0, .string a0_1, .int .i64 a0_2, .bool a0_3]] rfl q20y1 ?_; (with_reducible refine (span_Compare.calls a1_0 a1_1 a1_2 a1_3 a0_0 a0_1 a0_2 a0_3 t257 t258 _ A18.out).mono ?_); rintro e w69 ⟨rfl, hb⟩; refine ⟨_, rfl, ?_⟩; have n0_ := Aside0.mk (blk_below (g := gb250) (o := .cells #[.int .i64 a0_0, .string a0_1, .int .i64 a0_2, .bool a0_3] 23 (0, 0)) q20y2 hb); have n1_ := Aside0.mk (blk_below (g := gb251) (o := .cells #[.int .i64 a1_0, .string a1_1, .int .i64 a1_2, .bool a1_3] 23 (0, 0)) q20y3 hb); have n2_ := Aside0.mk (below_step q20y0 hb); clear BK250; clear BK251; clear HB; have BK250 := n0_; have BK251 := n1_; have HB := n2_; clear n0_ n1_ n2_; (try clear hb); (try clear hb2); (try clear hk); (try clear hi); have hcz70_0 : w69.cell? ⟨gb250, 0, none⟩ = some (.int .i64 a0_0) := (blk_cell BK250.out 0).trans rfl; have hcz70_1 : w69.cell? ⟨gb250, 1, none⟩ = some (.string a0_1) := (blk_cell BK250.out 1).trans rfl; have hcz70_2 : w69.cell? ⟨gb250, 2, none⟩ = some (.int .i64 a0_2) := (blk_cell BK250.out 2).trans rfl; have hcz70_3 : w69.cell? ⟨gb250, 3, none⟩ = some (.bool a0_3) := (blk_cell BK250.out 3).trans rfl; have hfz70_0 := blk_frozen BK250.out 0; have hfz70_1 := blk_frozen BK250.out 1; have hfz70_2 := blk_frozen BK250.out 2; have hfz70_3 := blk_frozen BK250.out 3) | ((with_reducible refine gate_callee (f := 9) rfl ?_); refine goesL_ (some 46) rfl rfl Tryd.func9 (by kernel_rfl) rfl #[.agg #[.int .i64 a0_0, .string a0_1, .int .i64 a0_2, .bool a0_3], .agg #[.int .i64 a0_0, .string a0_1, .int .i64 a0_2, .bool a0_3]] rfl q20y1 ?_; (with_reducible refine (span_Compare.calls a0_0 a0_1 a0_2 a0_3 a0_0 a0_1 a0_2 a0_3 t259 t260 _ A19.out).mono ?_); rintro e w71 ⟨rfl, hb⟩; refine ⟨_, rfl, ?_⟩; have n0_ := Aside0.mk (blk_below (g := gb250) (o := .cells #[.int .i64 a0_0, .string a0_1, .int .i64 a0_2, .bool a0_3] 23 (0, 0)) q20y2 hb); have n1_ := Aside0.mk (blk_below (g := gb251) (o := .cells #[.int .i64 a1_0, .string a1_1, .int .i64 a1_2, .bool a1_3] 23 (0, 0)) q20y3 hb); have n2_ := Aside0.mk (below_step q20y0 hb); clear BK250; clear BK251; clear HB; have BK250 := n0_; have BK251 := n1_; have HB := n2_; clear n0_ n1_ n2_; (try clear hb); (try clear hb2); (try clear hk); (try clear hi)))
    have n0_ := Aside0.mk (blk_drew BK250.out)
    have n1_ := Aside0.mk (blk_drew BK251.out)
    have n2_ := Aside0.mk (below_drew1 HB.out)
    clear BK250
    clear BK251
    clear HB
    have BK250 := n0_
    have BK251 := n1_
    have HB := n2_
    clear n0_ n1_ n2_
    as_aux_lemma =>
     refine start_ (n := 43) (S := fun w' => w'.cell? ⟨gb250, 0, none⟩ = some (.int .i64 a0_0) ∧ w'.cell? ⟨gb250, 1, none⟩ = some (.string a0_1) ∧ w'.cell? ⟨gb250, 2, none⟩ = some (.int .i64 a0_2) ∧ w'.cell? ⟨gb250, 3, none⟩ = some (.bool a0_3)) (ds := []) #[false, false, false, false, false, false, false, false, false, false, false, false, false, false, false, false, false, false, false, false, false, false, false, false, false, false, false, false, false, false, false, false, false, false, false, false, false, false, false, false, false, false, false] (by kernel_rfl) rfl rfl ⟨q20k BK250.out 0, q20k BK250.out 1, q20k BK250.out 2, q20k BK250.out 3⟩ (fun hHeld => ?_); refine with_tabW cambiumlaw16_SpanValues.tab9 cambiumlaw16_SpanValues.bits9 (fun HT_ HW_ => ?_)
     generalize w71.drew = w72 at BK250 BK251 HB hHeld ⊢
     refine q20p (i := 0) (N := some 49) (q20m 43 1) HT_.out ?_
     refine q20p (i := 1) (N := some 50) (q20m 43 3) HT_.out ?_
     refine q20p (i := 2) (N := some 51) (q20m 43 7) HT_.out ?_
     refine q20p (i := 3) (N := some 52) (q20m 43 15) HT_.out ?_
     refine q20p (i := 4) (N := some 53) (q20m 43 31) HT_.out ?_
     refine q20p (i := 5) (N := some 54) (q20m 43 63) HT_.out ?_
     refine q20p (i := 6) (N := some 55) (q20m 43 127) HT_.out ?_
     refine q20p (i := 7) (N := some 56) (q20m 43 255) HT_.out ?_
     refine q20p (i := 8) (N := some 57) (q20m 43 511) HT_.out ?_
     refine q20p (i := 9) (N := some 58) (q20m 43 1023) HT_.out ?_
     refine q20p (i := 10) (N := some 59) (q20m 43 2047) HT_.out ?_
     refine q20p (i := 11) (N := some 60) (q20m 43 4095) HT_.out ?_
     refine q20p (i := 12) (N := some 61) (q20m 43 8191) HT_.out ?_
     refine q20p (i := 13) (N := some 62) (q20m 43 16383) HT_.out ?_
     refine q20p (i := 14) (N := some 63) (q20m 43 32767) HT_.out ?_
     refine q20p (i := 15) (N := some 64) (q20m 43 65535) HT_.out ?_
     refine q20p (i := 16) (N := some 65) (q20m 43 131071) HT_.out ?_
     refine q20p (i := 17) (N := some 66) (q20m 43 262143) HT_.out ?_
     refine q20p (i := 18) (N := some 67) (q20m 43 524287) HT_.out ?_
     refine q20p (i := 19) (N := some 68) (q20m 43 1048575) HT_.out ?_
     refine q20p (i := 20) (N := some 69) (q20m 43 2097151) HT_.out ?_
     refine q20p (i := 21) (N := some 70) (q20m 43 4194303) HT_.out ?_
     refine q20p (i := 22) (N := some 71) (q20m 43 8388607) HT_.out ?_
     refine q20p (i := 23) (N := some 72) (q20m 43 16777215) HT_.out ?_
     refine q20p (i := 24) (N := some 73) (q20m 43 33554431) HT_.out ?_
     refine q20p (i := 25) (N := some 74) (q20m 43 67108863) HT_.out ?_
     refine take_ (i := 26) (N := some 75) (v := ?_) (a' := ?_) (q20m 43 134217727) rfl rfl (take_ofW HT_.out HW_.out (by kernel_rfl)) (fun _ _ _ h => h) (Or.inl ⟨by rfl, ?_⟩) hHeld ?_ ?_; rotate_left; (rintro w' ⟨s0, s1, s2, s3⟩; go_simp; with_reducible rfl); rotate_left; (simp only [Act.put, q20a, q20b, q20c, i64_w, i32_w]; rfl)
     refine q20p (i := 27) (N := some 76) (q20m 43 268435455) HT_.out ?_
     refine q20p (i := 28) (N := some 77) (q20m 43 536870911) HT_.out ?_
     refine q20u (i := 29) (N := some 78) (q20m 43 1073741823) HT_.out ?_
     refine q20u (i := 30) (N := some 79) (q20m 43 2147483647) HT_.out ?_
     refine q20u (i := 31) (N := some 80) (q20m 43 4294967295) HT_.out ?_
     refine q20p (i := 32) (N := some 81) (q20m 43 8589934591) HT_.out ?_
     refine q20p (i := 33) (N := some 82) (q20m 43 17179869183) HT_.out ?_
     refine q20p (i := 34) (N := some 83) (q20m 43 34359738367) HT_.out ?_
     refine q20p (i := 35) (N := some 84) (q20m 43 68719476735) HT_.out ?_
     refine take_ (i := 36) (N := some 85) (v := ?_) (a' := ?_) (q20m 43 137438953471) rfl rfl (take_ofW HT_.out HW_.out (by kernel_rfl)) (fun _ _ _ h => h) (Or.inl ⟨by rfl, ?_⟩) hHeld ?_ ?_; rotate_left; (rintro w' ⟨s0, s1, s2, s3⟩; go_simp; with_reducible rfl); rotate_left; (simp only [Act.put, q20a, q20b, q20c, i64_w, i32_w]; rfl)
     refine take_ (i := 38) (N := some 87) (v := ?_) (a' := ?_) (q20m 43 412316860415) rfl rfl (take_ofW HT_.out HW_.out (by kernel_rfl)) (fun _ _ _ h => h) (Or.inl ⟨by rfl, ?_⟩) hHeld ?_ ?_; rotate_left; (rintro w' ⟨s0, s1, s2, s3⟩; go_simp; with_reducible rfl); rotate_left; (simp only [Act.put, q20a, q20b, q20c, i64_w, i32_w]; rfl)
     refine one_ (i := 37) (N := some 86) (q20m 43 549755813887) rfl rfl (one_of HT_.out (by kernel_rfl)) (by decide) (fun K hK => ?_)
     refine goes_ Tryd.func11 (by kernel_rfl) rfl #[.agg #[.int .i64 a0_0, .string a0_1, .int .i64 a0_2, .bool a0_3]] (by rfl) rfl rfl q20y1 ?_
     with_reducible refine (span_MayValue.calls a0_0 a0_1 a0_2 a0_3 t263 _ A58.out q20y4).mono ?_
     rintro e w73 ⟨rfl, hb⟩
     refine ⟨_, rfl, ?_⟩
     have n0_ := Aside0.mk (blk_below (g := gb250) (o := .cells #[.int .i64 a0_0, .string a0_1, .int .i64 a0_2, .bool a0_3] 23 (0, 0)) q20y2 hb)
     have n1_ := Aside0.mk (blk_below (g := gb251) (o := .cells #[.int .i64 a1_0, .string a1_1, .int .i64 a1_2, .bool a1_3] 23 (0, 0)) q20y3 hb)
     have n2_ := Aside0.mk (below_step q20y0 hb)
     clear BK250
     clear BK251
     clear HB
     have BK250 := n0_
     have BK251 := n1_
     have HB := n2_
     clear n0_ n1_ n2_
     (try clear hb)
     (try clear hb2)
     (try clear hk)
     (try clear hi)
     refine hK.out _ _ ⟨q20k BK250.out 0, q20k BK250.out 1, q20k BK250.out 2, q20k BK250.out 3⟩ (fun hHeld => ?_)
     clear hK K
     refine norm_ (a' := ?_) ?_ ?_
     rotate_left
     ·show Act.put _ (some 86) _ = _
      simp only [Act.put, q20a, q20b, q20c, i64_w, i32_w]
      rfl
     refine one_ (i := 39) (N := some 88) (q20m 43 1099511627775) rfl rfl (one_of HT_.out (by kernel_rfl)) (by decide) (fun K hK => ?_)
     refine goes_ Tryd.func12 (by kernel_rfl) rfl #[.agg #[.int .i64 a0_0, .string a0_1, .int .i64 a0_2, .bool a0_3]] (by rfl) rfl rfl q20y1 ?_
     with_reducible refine (cambiumref16_Value.calls kj4 a0_0 a0_1 a0_2 a0_3 t264 _ A59.out).mono ?_
     rintro e w74 ⟨rfl, hb⟩
     refine ⟨_, rfl, ?_⟩
     have n0_ := Aside0.mk (blk_below (g := gb250) (o := .cells #[.int .i64 a0_0, .string a0_1, .int .i64 a0_2, .bool a0_3] 23 (0, 0)) q20y2 hb)
     have n1_ := Aside0.mk (blk_below (g := gb251) (o := .cells #[.int .i64 a1_0, .string a1_1, .int .i64 a1_2, .bool a1_3] 23 (0, 0)) q20y3 hb)
     have n2_ := Aside0.mk (below_step q20y0 hb)
     clear BK250
     clear BK251
     clear HB
     have BK250 := n0_
     have BK251 := n1_
     have HB := n2_
     clear n0_ n1_ n2_
     (try clear hb)
     (try clear hb2)
     (try clear hk)
     (try clear hi)
     refine hK.out _ _ ⟨q20k BK250.out 0, q20k BK250.out 1, q20k BK250.out 2, q20k BK250.out 3⟩ (fun hHeld => ?_)
     clear hK K
     refine norm_ (a' := ?_) ?_ ?_
     rotate_left
     ·show Act.put _ (some 88) _ = _
      simp only [Act.put, q20a, q20b, q20c, i64_w, i32_w]
      rfl
     refine q20p (i := 40) (N := some 89) (q20m 43 2199023255551) HT_.out ?_
     refine q20p (i := 41) (N := some 90) (q20m 43 4398046511103) HT_.out ?_
     refine q20p (i := 42) (N := some 4) (q20m 43 8796093022207) HT_.out ?_
     refine done_ (done_of HT_.out (by kernel_rfl)) ?_
     try go_wp2
     go_ret
     exact ⟨by first | rfl | (simp [errW_none, errW_some] <;> rfl) | (simp [*, errW_none, errW_some] <;> rfl), by repeat (first | (with_reducible first | exact HB.out | apply below_alloc | apply pw_below_drewN | apply below_drew1 | refine below_set ?_ GE250.out | refine below_set ?_ GE251.out) | exact HB.out)⟩
   rw [if_pos c25] at H
   have c25b0 : decide (0 ≤ a0_0) = true := decide_eq_true c25
   clear c25
   by_cases c26 : (t260 == (decide (a0_0 ≤ 2))) = true
   rotate_left
   ·rw [if_neg c26] at H
    have c26b0 : (t260 == (decide (a0_0 ≤ 2))) = false := by simpa using c26
    (try (have c26b1 : decide (t260 = (decide (a0_0 ≤ 2))) = false := by simpa using c26))
    (try (have c26b2 : (t260 == (decide (a0_0 ≤ 2))) = false := by simpa using c26))
    (try (have c26b3 : ¬ (t260 = (decide (a0_0 ≤ 2))) := by simpa using c26))
    clear c26
    obtain rfl := Option.some.inj H
    have hnb44 := NB250_251.out
    have hnc44 := NB251_250.out
    have hcz45_0 : wc.cell? ⟨gb250, 0, none⟩ = some (.int .i64 a0_0) := (blk_cell BK250.out 0).trans rfl
    have hcz45_1 : wc.cell? ⟨gb250, 1, none⟩ = some (.string a0_1) := (blk_cell BK250.out 1).trans rfl
    have hcz45_2 : wc.cell? ⟨gb250, 2, none⟩ = some (.int .i64 a0_2) := (blk_cell BK250.out 2).trans rfl
    have hcz45_3 : wc.cell? ⟨gb250, 3, none⟩ = some (.bool a0_3) := (blk_cell BK250.out 3).trans rfl
    have hfz45_0 := blk_frozen BK250.out 0
    have hfz45_1 := blk_frozen BK250.out 1
    have hfz45_2 := blk_frozen BK250.out 2
    have hfz45_3 := blk_frozen BK250.out 3
    have hcz46_0 : wc.cell? ⟨gb251, 0, none⟩ = some (.int .i64 a1_0) := (blk_cell BK251.out 0).trans rfl
    have hcz46_1 : wc.cell? ⟨gb251, 1, none⟩ = some (.string a1_1) := (blk_cell BK251.out 1).trans rfl
    have hcz46_2 : wc.cell? ⟨gb251, 2, none⟩ = some (.int .i64 a1_2) := (blk_cell BK251.out 2).trans rfl
    have hcz46_3 : wc.cell? ⟨gb251, 3, none⟩ = some (.bool a1_3) := (blk_cell BK251.out 3).trans rfl
    have hfz46_0 := blk_frozen BK251.out 0
    have hfz46_1 := blk_frozen BK251.out 1
    have hfz46_2 := blk_frozen BK251.out 2
    have hfz46_3 := blk_frozen BK251.out 3
    try go_wp2_with (first | ((with_reducible refine gate_callee (f := 9) rfl ?_); refine goesL_ (some 28) rfl rfl Tryd.func9 (by kernel_rfl) rfl #[.agg #[.int .i64 a0_0, .string a0_1, .int .i64 a0_2, .bool a0_3], .agg #[.int .i64 a1_0, .string a1_1, .int .i64 a1_2, .bool a1_3]] rfl q20y1 ?_; (with_reducible refine (span_Compare.calls a0_0 a0_1 a0_2 a0_3 a1_0 a1_1 a1_2 a1_3 t253 t254 _ A16.out).mono ?_); rintro e w47 ⟨rfl, hb⟩; refine ⟨_, rfl, ?_⟩; have n0_ := Aside0.mk (blk_below (g := gb250) (o := .cells #[.int .i64 a0_0, .string a0_1, .int .i64 a0_2, .bool a0_3] 23 (0, 0)) q20y2 hb); have n1_ := Aside0.mk (blk_below (g := gb251) (o := .cells #[.int .i64 a1_0, .string a1_1, .int .i64 a1_2, .bool a1_3] 23 (0, 0)) q20y3 hb); have n2_ := Aside0.mk (below_step q20y0 hb); clear BK250; clear BK251; clear HB; have BK250 := n0_; have BK251 := n1_; have HB := n2_; clear n0_ n1_ n2_; (try clear hb); (try clear hb2); (try clear hk); (try clear hi); have hcz48_0 : w47.cell? ⟨gb250, 0, none⟩ = some (.int .i64 a0_0) := (blk_cell BK250.out 0).trans rfl; have hcz48_1 : w47.cell? ⟨gb250, 1, none⟩ = some (.string a0_1) := (blk_cell BK250.out 1).trans rfl; have hcz48_2 : w47.cell? ⟨gb250, 2, none⟩ = some (.int .i64 a0_2) := (blk_cell BK250.out 2).trans rfl; have hcz48_3 : w47.cell? ⟨gb250, 3, none⟩ = some (.bool a0_3) := (blk_cell BK250.out 3).trans rfl; have hfz48_0 := blk_frozen BK250.out 0; have hfz48_1 := blk_frozen BK250.out 1; have hfz48_2 := blk_frozen BK250.out 2; have hfz48_3 := blk_frozen BK250.out 3; have hcz49_0 : w47.cell? ⟨gb251, 0, none⟩ = some (.int .i64 a1_0) := (blk_cell BK251.out 0).trans rfl; have hcz49_1 : w47.cell? ⟨gb251, 1, none⟩ = some (.string a1_1) := (blk_cell BK251.out 1).trans rfl; have hcz49_2 : w47.cell? ⟨gb251, 2, none⟩ = some (.int .i64 a1_2) := (blk_cell BK251.out 2).trans rfl; have hcz49_3 : w47.cell? ⟨gb251, 3, none⟩ = some (.bool a1_3) := (blk_cell BK251.out 3).trans rfl; have hfz49_0 := blk_frozen BK251.out 0; have hfz49_1 := blk_frozen BK251.out 1; have hfz49_2 := blk_frozen BK251.out 2; have hfz49_3 := blk_frozen BK251.out 3) | ((with_reducible refine gate_callee (f := 10) rfl ?_); refine goesL_ (some 34) rfl rfl Tryd.func10 (by kernel_rfl) rfl #[.agg #[.int .i64 a0_0, .string a0_1, .int .i64 a0_2, .bool a0_3], .agg #[.int .i64 a1_0, .string a1_1, .int .i64 a1_2, .bool a1_3]] rfl q20y1 ?_; (with_reducible refine (cambiumref16_Compare.calls kj4 a0_0 a0_1 a0_2 a0_3 a1_0 a1_1 a1_2 a1_3 t255 t256 _ A17.out).mono ?_); rintro e w50 ⟨rfl, hb⟩; refine ⟨_, rfl, ?_⟩; have n0_ := Aside0.mk (blk_below (g := gb250) (o := .cells #[.int .i64 a0_0, .string a0_1, .int .i64 a0_2, .bool a0_3] 23 (0, 0)) q20y2 hb); have n1_ := Aside0.mk (blk_below (g := gb251) (o := .cells #[.int .i64 a1_0, .string a1_1, .int .i64 a1_2, .bool a1_3] 23 (0, 0)) q20y3 hb); have n2_ := Aside0.mk (below_step q20y0 hb); clear BK250; clear BK251; clear HB; have BK250 := n0_; have BK251 := n1_; have HB := n2_; clear n0_ n1_ n2_; (try clear hb); (try clear hb2); (try clear hk); (try clear hi); have hcz51_0 : w50.cell? ⟨gb251, 0, none⟩ = some (.int .i64 a1_0) := (blk_cell BK251.out 0).trans rfl; have hcz51_1 : w50.cell? ⟨gb251, 1, none⟩ = some (.string a1_1) := (blk_cell BK251.out 1).trans rfl; have hcz51_2 : w50.cell? ⟨gb251, 2, none⟩ = some (.int .i64 a1_2) := (blk_cell BK251.out 2).trans rfl; have hcz51_3 : w50.cell? ⟨gb251, 3, none⟩ = some (.bool a1_3) := (blk_cell BK251.out 3).trans rfl; have hfz51_0 := blk_frozen BK251.out 0; have hfz51_1 := blk_frozen BK251.out 1; have hfz51_2 := blk_frozen BK251.out 2; have hfz51_3 := blk_frozen BK251.out 3; have hcz52_0 : w50.cell? ⟨gb250, 0, none⟩ = some (.int .i64 a0_0) := (blk_cell BK250.out 0).trans rfl; have hcz52_1 : w50.cell? ⟨gb250, 1, none⟩ = some (.string a0_1) := (blk_cell BK250.out 1).trans rfl; have hcz52_2 : w50.cell? ⟨gb250, 2, none⟩ = some (.int .i64 a0_2) := (blk_cell BK250.out 2).trans rfl; have hcz52_3 : w50.cell? ⟨gb250, 3, none⟩ = some (.bool a0_3) := (blk_cell BK250.out 3).trans rfl; have hfz52_0 := blk_frozen BK250.out 0; have hfz52_1 := blk_frozen BK250.out 1; have hfz52_2 := blk_frozen BK250.out 2; have hfz52_3 := blk_frozen BK250.out 3) | ((with_reducible refine gate_callee (f := 9) rfl ?_); refine goesL_ (some 40) rfl rfl Tryd.func9 (by kernel_rfl) rfl #[.agg #[.int .i64 a1_0, .string a1_1, .int .i64 a1_2, .bool a1_3], .agg #[.int .i64 a0_0, .string a0_1, .int .i64 a0_2, .bool a0_3]] rfl q20y1 ?_; (with_reducible refine (span_Compare.calls a1_0 a1_1 a1_2 a1_3 a0_0 a0_1 a0_2 a0_3 t257 t258 _ A18.out).mono ?_); rintro e w53 ⟨rfl, hb⟩; refine ⟨_, rfl, ?_⟩; have n0_ := Aside0.mk (blk_below (g := gb250) (o := .cells #[.int .i64 a0_0, .string a0_1, .int .i64 a0_2, .bool a0_3] 23 (0, 0)) q20y2 hb); have n1_ := Aside0.mk (blk_below (g := gb251) (o := .cells #[.int .i64 a1_0, .string a1_1, .int .i64 a1_2, .bool a1_3] 23 (0, 0)) q20y3 hb); have n2_ := Aside0.mk (below_step q20y0 hb); clear BK250; clear BK251; clear HB; have BK250 := n0_; have BK251 := n1_; have HB := n2_; clear n0_ n1_ n2_; (try clear hb); (try clear hb2); (try clear hk); (try clear hi); have hcz54_0 : w53.cell? ⟨gb250, 0, none⟩ = some (.int .i64 a0_0) := (blk_cell BK250.out 0).trans rfl; have hcz54_1 : w53.cell? ⟨gb250, 1, none⟩ = some (.string a0_1) := (blk_cell BK250.out 1).trans rfl; have hcz54_2 : w53.cell? ⟨gb250, 2, none⟩ = some (.int .i64 a0_2) := (blk_cell BK250.out 2).trans rfl; have hcz54_3 : w53.cell? ⟨gb250, 3, none⟩ = some (.bool a0_3) := (blk_cell BK250.out 3).trans rfl; have hfz54_0 := blk_frozen BK250.out 0; have hfz54_1 := blk_frozen BK250.out 1; have hfz54_2 := blk_frozen BK250.out 2; have hfz54_3 := blk_frozen BK250.out 3) | ((with_reducible refine gate_callee (f := 9) rfl ?_); refine goesL_ (some 46) rfl rfl Tryd.func9 (by kernel_rfl) rfl #[.agg #[.int .i64 a0_0, .string a0_1, .int .i64 a0_2, .bool a0_3], .agg #[.int .i64 a0_0, .string a0_1, .int .i64 a0_2, .bool a0_3]] rfl q20y1 ?_; (with_reducible refine (span_Compare.calls a0_0 a0_1 a0_2 a0_3 a0_0 a0_1 a0_2 a0_3 t259 t260 _ A19.out).mono ?_); rintro e w55 ⟨rfl, hb⟩; refine ⟨_, rfl, ?_⟩; have n0_ := Aside0.mk (blk_below (g := gb250) (o := .cells #[.int .i64 a0_0, .string a0_1, .int .i64 a0_2, .bool a0_3] 23 (0, 0)) q20y2 hb); have n1_ := Aside0.mk (blk_below (g := gb251) (o := .cells #[.int .i64 a1_0, .string a1_1, .int .i64 a1_2, .bool a1_3] 23 (0, 0)) q20y3 hb); have n2_ := Aside0.mk (below_step q20y0 hb); clear BK250; clear BK251; clear HB; have BK250 := n0_; have BK251 := n1_; have HB := n2_; clear n0_ n1_ n2_; (try clear hb); (try clear hb2); (try clear hk); (try clear hi)))
    have n0_ := Aside0.mk (blk_drew BK250.out)
    have n1_ := Aside0.mk (blk_drew BK251.out)
    have n2_ := Aside0.mk (below_drew1 HB.out)
    clear BK250
    clear BK251
    clear HB
    have BK250 := n0_
    have BK251 := n1_
    have HB := n2_
    clear n0_ n1_ n2_
    as_aux_lemma =>
     refine start_ (n := 43) (S := fun w' => w'.cell? ⟨gb250, 0, none⟩ = some (.int .i64 a0_0) ∧ w'.cell? ⟨gb250, 1, none⟩ = some (.string a0_1) ∧ w'.cell? ⟨gb250, 2, none⟩ = some (.int .i64 a0_2) ∧ w'.cell? ⟨gb250, 3, none⟩ = some (.bool a0_3)) (ds := []) #[false, false, false, false, false, false, false, false, false, false, false, false, false, false, false, false, false, false, false, false, false, false, false, false, false, false, false, false, false, false, false, false, false, false, false, false, false, false, false, false, false, false, false] (by kernel_rfl) rfl rfl ⟨q20k BK250.out 0, q20k BK250.out 1, q20k BK250.out 2, q20k BK250.out 3⟩ (fun hHeld => ?_); refine with_tabW cambiumlaw16_SpanValues.tab9 cambiumlaw16_SpanValues.bits9 (fun HT_ HW_ => ?_)
     generalize w55.drew = w56 at BK250 BK251 HB hHeld ⊢
     refine q20p (i := 0) (N := some 49) (q20m 43 1) HT_.out ?_
     refine q20p (i := 1) (N := some 50) (q20m 43 3) HT_.out ?_
     refine q20p (i := 2) (N := some 51) (q20m 43 7) HT_.out ?_
     refine q20p (i := 3) (N := some 52) (q20m 43 15) HT_.out ?_
     refine q20p (i := 4) (N := some 53) (q20m 43 31) HT_.out ?_
     refine q20p (i := 5) (N := some 54) (q20m 43 63) HT_.out ?_
     refine q20p (i := 6) (N := some 55) (q20m 43 127) HT_.out ?_
     refine q20p (i := 7) (N := some 56) (q20m 43 255) HT_.out ?_
     refine q20p (i := 8) (N := some 57) (q20m 43 511) HT_.out ?_
     refine q20p (i := 9) (N := some 58) (q20m 43 1023) HT_.out ?_
     refine q20p (i := 10) (N := some 59) (q20m 43 2047) HT_.out ?_
     refine q20p (i := 11) (N := some 60) (q20m 43 4095) HT_.out ?_
     refine q20p (i := 12) (N := some 61) (q20m 43 8191) HT_.out ?_
     refine q20p (i := 13) (N := some 62) (q20m 43 16383) HT_.out ?_
     refine q20p (i := 14) (N := some 63) (q20m 43 32767) HT_.out ?_
     refine q20p (i := 15) (N := some 64) (q20m 43 65535) HT_.out ?_
     refine q20p (i := 16) (N := some 65) (q20m 43 131071) HT_.out ?_
     refine q20p (i := 17) (N := some 66) (q20m 43 262143) HT_.out ?_
     refine q20p (i := 18) (N := some 67) (q20m 43 524287) HT_.out ?_
     refine q20p (i := 19) (N := some 68) (q20m 43 1048575) HT_.out ?_
     refine q20p (i := 20) (N := some 69) (q20m 43 2097151) HT_.out ?_
     refine q20p (i := 21) (N := some 70) (q20m 43 4194303) HT_.out ?_
     refine q20p (i := 22) (N := some 71) (q20m 43 8388607) HT_.out ?_
     refine q20p (i := 23) (N := some 72) (q20m 43 16777215) HT_.out ?_
     refine q20p (i := 24) (N := some 73) (q20m 43 33554431) HT_.out ?_
     refine q20p (i := 25) (N := some 74) (q20m 43 67108863) HT_.out ?_
     refine take_ (i := 26) (N := some 75) (v := ?_) (a' := ?_) (q20m 43 134217727) rfl rfl (take_ofW HT_.out HW_.out (by kernel_rfl)) (fun _ _ _ h => h) (Or.inl ⟨by rfl, ?_⟩) hHeld ?_ ?_; rotate_left; (rintro w' ⟨s0, s1, s2, s3⟩; go_simp; with_reducible rfl); rotate_left; (simp only [Act.put, q20a, q20b, q20c, i64_w, i32_w]; rfl)
     refine q20p (i := 27) (N := some 76) (q20m 43 268435455) HT_.out ?_
     refine q20p (i := 28) (N := some 77) (q20m 43 536870911) HT_.out ?_
     refine q20p (i := 29) (N := some 78) (q20m 43 1073741823) HT_.out ?_
     refine take_ (i := 30) (N := some 79) (v := ?_) (a' := ?_) (q20m 43 2147483647) rfl rfl (take_ofW HT_.out HW_.out (by kernel_rfl)) (fun _ _ _ h => h) (Or.inl ⟨by rfl, ?_⟩) hHeld ?_ ?_; rotate_left; (rintro w' ⟨s0, s1, s2, s3⟩; go_simp; with_reducible rfl); rotate_left; (simp only [Act.put, q20a, q20b, q20c, i64_w, i32_w]; rfl)
     refine q20p (i := 31) (N := some 80) (q20m 43 4294967295) HT_.out ?_
     refine q20p (i := 32) (N := some 81) (q20m 43 8589934591) HT_.out ?_
     refine q20p (i := 33) (N := some 82) (q20m 43 17179869183) HT_.out ?_
     refine q20p (i := 34) (N := some 83) (q20m 43 34359738367) HT_.out ?_
     refine q20p (i := 35) (N := some 84) (q20m 43 68719476735) HT_.out ?_
     refine q20u (i := 36) (N := some 85) (q20m 43 137438953471) HT_.out ?_
     refine q20u (i := 37) (N := some 86) (q20m 43 274877906943) HT_.out ?_
     refine q20u (i := 38) (N := some 87) (q20m 43 549755813887) HT_.out ?_
     refine q20u (i := 39) (N := some 88) (q20m 43 1099511627775) HT_.out ?_
     refine q20u (i := 40) (N := some 89) (q20m 43 2199023255551) HT_.out ?_
     refine q20p (i := 41) (N := some 90) (q20m 43 4398046511103) HT_.out ?_
     refine q20p (i := 42) (N := some 4) (q20m 43 8796093022207) HT_.out ?_
     refine done_ (done_of HT_.out (by kernel_rfl)) ?_
     try go_wp2
     go_ret
     exact ⟨by first | rfl | (simp [errW_none, errW_some] <;> rfl) | (simp [*, errW_none, errW_some] <;> rfl), by repeat (first | (with_reducible first | exact HB.out | apply below_alloc | apply pw_below_drewN | apply below_drew1 | refine below_set ?_ GE250.out | refine below_set ?_ GE251.out) | exact HB.out)⟩
   rw [if_pos c26] at H
   have c26b0 : (t260 == (decide (a0_0 ≤ 2))) = true := c26
   (try (have c26b1 : decide (t260 = (decide (a0_0 ≤ 2))) = true := by simpa using c26))
   (try (have c26b2 : (t260 == (decide (a0_0 ≤ 2))) = true := by simpa using c26))
   clear c26
   replace H := Option.bind_eq_some_iff.mp H
   obtain ⟨t261, A270, H⟩ := H
   replace H : ((cambiumref16_Value.f kj4 a0_0 a0_1 a0_2 a0_3).bind fun t262 => (some (t261 == t262))) = some r := H
   have A27 := Aside0.mk A270
   clear A270
   replace H := Option.bind_eq_some_iff.mp H
   obtain ⟨t262, A280, H⟩ := H
   replace H : (some (t261 == t262)) = some r := H
   have A28 := Aside0.mk A280
   clear A280
   obtain rfl := Option.some.inj H
   have hnb29 := NB250_251.out
   have hnc29 := NB251_250.out
   have hcz30_0 : wc.cell? ⟨gb250, 0, none⟩ = some (.int .i64 a0_0) := (blk_cell BK250.out 0).trans rfl
   have hcz30_1 : wc.cell? ⟨gb250, 1, none⟩ = some (.string a0_1) := (blk_cell BK250.out 1).trans rfl
   have hcz30_2 : wc.cell? ⟨gb250, 2, none⟩ = some (.int .i64 a0_2) := (blk_cell BK250.out 2).trans rfl
   have hcz30_3 : wc.cell? ⟨gb250, 3, none⟩ = some (.bool a0_3) := (blk_cell BK250.out 3).trans rfl
   have hfz30_0 := blk_frozen BK250.out 0
   have hfz30_1 := blk_frozen BK250.out 1
   have hfz30_2 := blk_frozen BK250.out 2
   have hfz30_3 := blk_frozen BK250.out 3
   have hcz31_0 : wc.cell? ⟨gb251, 0, none⟩ = some (.int .i64 a1_0) := (blk_cell BK251.out 0).trans rfl
   have hcz31_1 : wc.cell? ⟨gb251, 1, none⟩ = some (.string a1_1) := (blk_cell BK251.out 1).trans rfl
   have hcz31_2 : wc.cell? ⟨gb251, 2, none⟩ = some (.int .i64 a1_2) := (blk_cell BK251.out 2).trans rfl
   have hcz31_3 : wc.cell? ⟨gb251, 3, none⟩ = some (.bool a1_3) := (blk_cell BK251.out 3).trans rfl
   have hfz31_0 := blk_frozen BK251.out 0
   have hfz31_1 := blk_frozen BK251.out 1
   have hfz31_2 := blk_frozen BK251.out 2
   have hfz31_3 := blk_frozen BK251.out 3
   try go_wp2_with (first | ((with_reducible refine gate_callee (f := 9) rfl ?_); refine goesL_ (some 28) rfl rfl Tryd.func9 (by kernel_rfl) rfl #[.agg #[.int .i64 a0_0, .string a0_1, .int .i64 a0_2, .bool a0_3], .agg #[.int .i64 a1_0, .string a1_1, .int .i64 a1_2, .bool a1_3]] rfl q20y1 ?_; (with_reducible refine (span_Compare.calls a0_0 a0_1 a0_2 a0_3 a1_0 a1_1 a1_2 a1_3 t253 t254 _ A16.out).mono ?_); rintro e w32 ⟨rfl, hb⟩; refine ⟨_, rfl, ?_⟩; have n0_ := Aside0.mk (blk_below (g := gb250) (o := .cells #[.int .i64 a0_0, .string a0_1, .int .i64 a0_2, .bool a0_3] 23 (0, 0)) q20y2 hb); have n1_ := Aside0.mk (blk_below (g := gb251) (o := .cells #[.int .i64 a1_0, .string a1_1, .int .i64 a1_2, .bool a1_3] 23 (0, 0)) q20y3 hb); have n2_ := Aside0.mk (below_step q20y0 hb); clear BK250; clear BK251; clear HB; have BK250 := n0_; have BK251 := n1_; have HB := n2_; clear n0_ n1_ n2_; (try clear hb); (try clear hb2); (try clear hk); (try clear hi); have hcz33_0 : w32.cell? ⟨gb250, 0, none⟩ = some (.int .i64 a0_0) := (blk_cell BK250.out 0).trans rfl; have hcz33_1 : w32.cell? ⟨gb250, 1, none⟩ = some (.string a0_1) := (blk_cell BK250.out 1).trans rfl; have hcz33_2 : w32.cell? ⟨gb250, 2, none⟩ = some (.int .i64 a0_2) := (blk_cell BK250.out 2).trans rfl; have hcz33_3 : w32.cell? ⟨gb250, 3, none⟩ = some (.bool a0_3) := (blk_cell BK250.out 3).trans rfl; have hfz33_0 := blk_frozen BK250.out 0; have hfz33_1 := blk_frozen BK250.out 1; have hfz33_2 := blk_frozen BK250.out 2; have hfz33_3 := blk_frozen BK250.out 3; have hcz34_0 : w32.cell? ⟨gb251, 0, none⟩ = some (.int .i64 a1_0) := (blk_cell BK251.out 0).trans rfl; have hcz34_1 : w32.cell? ⟨gb251, 1, none⟩ = some (.string a1_1) := (blk_cell BK251.out 1).trans rfl; have hcz34_2 : w32.cell? ⟨gb251, 2, none⟩ = some (.int .i64 a1_2) := (blk_cell BK251.out 2).trans rfl; have hcz34_3 : w32.cell? ⟨gb251, 3, none⟩ = some (.bool a1_3) := (blk_cell BK251.out 3).trans rfl; have hfz34_0 := blk_frozen BK251.out 0; have hfz34_1 := blk_frozen BK251.out 1; have hfz34_2 := blk_frozen BK251.out 2; have hfz34_3 := blk_frozen BK251.out 3) | ((with_reducible refine gate_callee (f := 10) rfl ?_); refine goesL_ (some 34) rfl rfl Tryd.func10 (by kernel_rfl) rfl #[.agg #[.int .i64 a0_0, .string a0_1, .int .i64 a0_2, .bool a0_3], .agg #[.int .i64 a1_0, .string a1_1, .int .i64 a1_2, .bool a1_3]] rfl q20y1 ?_; (with_reducible refine (cambiumref16_Compare.calls kj4 a0_0 a0_1 a0_2 a0_3 a1_0 a1_1 a1_2 a1_3 t255 t256 _ A17.out).mono ?_); rintro e w35 ⟨rfl, hb⟩; refine ⟨_, rfl, ?_⟩; have n0_ := Aside0.mk (blk_below (g := gb250) (o := .cells #[.int .i64 a0_0, .string a0_1, .int .i64 a0_2, .bool a0_3] 23 (0, 0)) q20y2 hb); have n1_ := Aside0.mk (blk_below (g := gb251) (o := .cells #[.int .i64 a1_0, .string a1_1, .int .i64 a1_2, .bool a1_3] 23 (0, 0)) q20y3 hb); have n2_ := Aside0.mk (below_step q20y0 hb); clear BK250; clear BK251; clear HB; have BK250 := n0_; have BK251 := n1_; have HB := n2_; clear n0_ n1_ n2_; (try clear hb); (try clear hb2); (try clear hk); (try clear hi); have hcz36_0 : w35.cell? ⟨gb251, 0, none⟩ = some (.int .i64 a1_0) := (blk_cell BK251.out 0).trans rfl; have hcz36_1 : w35.cell? ⟨gb251, 1, none⟩ = some (.string a1_1) := (blk_cell BK251.out 1).trans rfl; have hcz36_2 : w35.cell? ⟨gb251, 2, none⟩ = some (.int .i64 a1_2) := (blk_cell BK251.out 2).trans rfl; have hcz36_3 : w35.cell? ⟨gb251, 3, none⟩ = some (.bool a1_3) := (blk_cell BK251.out 3).trans rfl; have hfz36_0 := blk_frozen BK251.out 0; have hfz36_1 := blk_frozen BK251.out 1; have hfz36_2 := blk_frozen BK251.out 2; have hfz36_3 := blk_frozen BK251.out 3; have hcz37_0 : w35.cell? ⟨gb250, 0, none⟩ = some (.int .i64 a0_0) := (blk_cell BK250.out 0).trans rfl; have hcz37_1 : w35.cell? ⟨gb250, 1, none⟩ = some (.string a0_1) := (blk_cell BK250.out 1).trans rfl; have hcz37_2 : w35.cell? ⟨gb250, 2, none⟩ = some (.int .i64 a0_2) := (blk_cell BK250.out 2).trans rfl; have hcz37_3 : w35.cell? ⟨gb250, 3, none⟩ = some (.bool a0_3) := (blk_cell BK250.out 3).trans rfl; have hfz37_0 := blk_frozen BK250.out 0; have hfz37_1 := blk_frozen BK250.out 1; have hfz37_2 := blk_frozen BK250.out 2; have hfz37_3 := blk_frozen BK250.out 3) | ((with_reducible refine gate_callee (f := 9) rfl ?_); refine goesL_ (some 40) rfl rfl Tryd.func9 (by kernel_rfl) rfl #[.agg #[.int .i64 a1_0, .string a1_1, .int .i64 a1_2, .bool a1_3], .agg #[.int .i64 a0_0, .string a0_1, .int .i64 a0_2, .bool a0_3]] rfl q20y1 ?_; (with_reducible refine (span_Compare.calls a1_0 a1_1 a1_2 a1_3 a0_0 a0_1 a0_2 a0_3 t257 t258 _ A18.out).mono ?_); rintro e w38 ⟨rfl, hb⟩; refine ⟨_, rfl, ?_⟩; have n0_ := Aside0.mk (blk_below (g := gb250) (o := .cells #[.int .i64 a0_0, .string a0_1, .int .i64 a0_2, .bool a0_3] 23 (0, 0)) q20y2 hb); have n1_ := Aside0.mk (blk_below (g := gb251) (o := .cells #[.int .i64 a1_0, .string a1_1, .int .i64 a1_2, .bool a1_3] 23 (0, 0)) q20y3 hb); have n2_ := Aside0.mk (below_step q20y0 hb); clear BK250; clear BK251; clear HB; have BK250 := n0_; have BK251 := n1_; have HB := n2_; clear n0_ n1_ n2_; (try clear hb); (try clear hb2); (try clear hk); (try clear hi); have hcz39_0 : w38.cell? ⟨gb250, 0, none⟩ = some (.int .i64 a0_0) := (blk_cell BK250.out 0).trans rfl; have hcz39_1 : w38.cell? ⟨gb250, 1, none⟩ = some (.string a0_1) := (blk_cell BK250.out 1).trans rfl; have hcz39_2 : w38.cell? ⟨gb250, 2, none⟩ = some (.int .i64 a0_2) := (blk_cell BK250.out 2).trans rfl; have hcz39_3 : w38.cell? ⟨gb250, 3, none⟩ = some (.bool a0_3) := (blk_cell BK250.out 3).trans rfl; have hfz39_0 := blk_frozen BK250.out 0; have hfz39_1 := blk_frozen BK250.out 1; have hfz39_2 := blk_frozen BK250.out 2; have hfz39_3 := blk_frozen BK250.out 3) | ((with_reducible refine gate_callee (f := 9) rfl ?_); refine goesL_ (some 46) rfl rfl Tryd.func9 (by kernel_rfl) rfl #[.agg #[.int .i64 a0_0, .string a0_1, .int .i64 a0_2, .bool a0_3], .agg #[.int .i64 a0_0, .string a0_1, .int .i64 a0_2, .bool a0_3]] rfl q20y1 ?_; (with_reducible refine (span_Compare.calls a0_0 a0_1 a0_2 a0_3 a0_0 a0_1 a0_2 a0_3 t259 t260 _ A19.out).mono ?_); rintro e w40 ⟨rfl, hb⟩; refine ⟨_, rfl, ?_⟩; have n0_ := Aside0.mk (blk_below (g := gb250) (o := .cells #[.int .i64 a0_0, .string a0_1, .int .i64 a0_2, .bool a0_3] 23 (0, 0)) q20y2 hb); have n1_ := Aside0.mk (blk_below (g := gb251) (o := .cells #[.int .i64 a1_0, .string a1_1, .int .i64 a1_2, .bool a1_3] 23 (0, 0)) q20y3 hb); have n2_ := Aside0.mk (below_step q20y0 hb); clear BK250; clear BK251; clear HB; have BK250 := n0_; have BK251 := n1_; have HB := n2_; clear n0_ n1_ n2_; (try clear hb); (try clear hb2); (try clear hk); (try clear hi)))
   have n0_ := Aside0.mk (blk_drew BK250.out)
   have n1_ := Aside0.mk (blk_drew BK251.out)
   have n2_ := Aside0.mk (below_drew1 HB.out)
   clear BK250
   clear BK251
   clear HB
   have BK250 := n0_
   have BK251 := n1_
   have HB := n2_
   clear n0_ n1_ n2_
   as_aux_lemma =>
    refine start_ (n := 43) (S := fun w' => w'.cell? ⟨gb250, 0, none⟩ = some (.int .i64 a0_0) ∧ w'.cell? ⟨gb250, 1, none⟩ = some (.string a0_1) ∧ w'.cell? ⟨gb250, 2, none⟩ = some (.int .i64 a0_2) ∧ w'.cell? ⟨gb250, 3, none⟩ = some (.bool a0_3)) (ds := []) #[false, false, false, false, false, false, false, false, false, false, false, false, false, false, false, false, false, false, false, false, false, false, false, false, false, false, false, false, false, false, false, false, false, false, false, false, false, false, false, false, false, false, false] (by kernel_rfl) rfl rfl ⟨q20k BK250.out 0, q20k BK250.out 1, q20k BK250.out 2, q20k BK250.out 3⟩ (fun hHeld => ?_); refine with_tabW cambiumlaw16_SpanValues.tab9 cambiumlaw16_SpanValues.bits9 (fun HT_ HW_ => ?_)
    generalize w40.drew = w41 at BK250 BK251 HB hHeld ⊢
    refine q20p (i := 0) (N := some 49) (q20m 43 1) HT_.out ?_
    refine q20p (i := 1) (N := some 50) (q20m 43 3) HT_.out ?_
    refine q20p (i := 2) (N := some 51) (q20m 43 7) HT_.out ?_
    refine q20p (i := 3) (N := some 52) (q20m 43 15) HT_.out ?_
    refine q20p (i := 4) (N := some 53) (q20m 43 31) HT_.out ?_
    refine q20p (i := 5) (N := some 54) (q20m 43 63) HT_.out ?_
    refine q20p (i := 6) (N := some 55) (q20m 43 127) HT_.out ?_
    refine q20p (i := 7) (N := some 56) (q20m 43 255) HT_.out ?_
    refine q20p (i := 8) (N := some 57) (q20m 43 511) HT_.out ?_
    refine q20p (i := 9) (N := some 58) (q20m 43 1023) HT_.out ?_
    refine q20p (i := 10) (N := some 59) (q20m 43 2047) HT_.out ?_
    refine q20p (i := 11) (N := some 60) (q20m 43 4095) HT_.out ?_
    refine q20p (i := 12) (N := some 61) (q20m 43 8191) HT_.out ?_
    refine q20p (i := 13) (N := some 62) (q20m 43 16383) HT_.out ?_
    refine q20p (i := 14) (N := some 63) (q20m 43 32767) HT_.out ?_
    refine q20p (i := 15) (N := some 64) (q20m 43 65535) HT_.out ?_
    refine q20p (i := 16) (N := some 65) (q20m 43 131071) HT_.out ?_
    refine q20p (i := 17) (N := some 66) (q20m 43 262143) HT_.out ?_
    refine q20p (i := 18) (N := some 67) (q20m 43 524287) HT_.out ?_
    refine q20p (i := 19) (N := some 68) (q20m 43 1048575) HT_.out ?_
    refine q20p (i := 20) (N := some 69) (q20m 43 2097151) HT_.out ?_
    refine q20p (i := 21) (N := some 70) (q20m 43 4194303) HT_.out ?_
    refine q20p (i := 22) (N := some 71) (q20m 43 8388607) HT_.out ?_
    refine q20p (i := 23) (N := some 72) (q20m 43 16777215) HT_.out ?_
    refine q20p (i := 24) (N := some 73) (q20m 43 33554431) HT_.out ?_
    refine q20p (i := 25) (N := some 74) (q20m 43 67108863) HT_.out ?_
    refine take_ (i := 26) (N := some 75) (v := ?_) (a' := ?_) (q20m 43 134217727) rfl rfl (take_ofW HT_.out HW_.out (by kernel_rfl)) (fun _ _ _ h => h) (Or.inl ⟨by rfl, ?_⟩) hHeld ?_ ?_; rotate_left; (rintro w' ⟨s0, s1, s2, s3⟩; go_simp; with_reducible rfl); rotate_left; (simp only [Act.put, q20a, q20b, q20c, i64_w, i32_w]; rfl)
    refine q20p (i := 27) (N := some 76) (q20m 43 268435455) HT_.out ?_
    refine q20p (i := 28) (N := some 77) (q20m 43 536870911) HT_.out ?_
    refine q20p (i := 29) (N := some 78) (q20m 43 1073741823) HT_.out ?_
    refine take_ (i := 30) (N := some 79) (v := ?_) (a' := ?_) (q20m 43 2147483647) rfl rfl (take_ofW HT_.out HW_.out (by kernel_rfl)) (fun _ _ _ h => h) (Or.inl ⟨by rfl, ?_⟩) hHeld ?_ ?_; rotate_left; (rintro w' ⟨s0, s1, s2, s3⟩; go_simp; with_reducible rfl); rotate_left; (simp only [Act.put, q20a, q20b, q20c, i64_w, i32_w]; rfl)
    refine q20p (i := 31) (N := some 80) (q20m 43 4294967295) HT_.out ?_
    refine q20p (i := 32) (N := some 81) (q20m 43 8589934591) HT_.out ?_
    refine q20p (i := 33) (N := some 82) (q20m 43 17179869183) HT_.out ?_
    refine q20p (i := 34) (N := some 83) (q20m 43 34359738367) HT_.out ?_
    refine q20p (i := 35) (N := some 84) (q20m 43 68719476735) HT_.out ?_
    refine take_ (i := 36) (N := some 85) (v := ?_) (a' := ?_) (q20m 43 137438953471) rfl rfl (take_ofW HT_.out HW_.out (by kernel_rfl)) (fun _ _ _ h => h) (Or.inl ⟨by rfl, ?_⟩) hHeld ?_ ?_; rotate_left; (rintro w' ⟨s0, s1, s2, s3⟩; go_simp; with_reducible rfl); rotate_left; (simp only [Act.put, q20a, q20b, q20c, i64_w, i32_w]; rfl)
    refine take_ (i := 38) (N := some 87) (v := ?_) (a' := ?_) (q20m 43 412316860415) rfl rfl (take_ofW HT_.out HW_.out (by kernel_rfl)) (fun _ _ _ h => h) (Or.inl ⟨by rfl, ?_⟩) hHeld ?_ ?_; rotate_left; (rintro w' ⟨s0, s1, s2, s3⟩; go_simp; with_reducible rfl); rotate_left; (simp only [Act.put, q20a, q20b, q20c, i64_w, i32_w]; rfl)
    refine one_ (i := 37) (N := some 86) (q20m 43 549755813887) rfl rfl (one_of HT_.out (by kernel_rfl)) (by decide) (fun K hK => ?_)
    refine goes_ Tryd.func11 (by kernel_rfl) rfl #[.agg #[.int .i64 a0_0, .string a0_1, .int .i64 a0_2, .bool a0_3]] (by rfl) rfl rfl q20y1 ?_
    with_reducible refine (span_MayValue.calls a0_0 a0_1 a0_2 a0_3 t261 _ A27.out q20y4).mono ?_
    rintro e w42 ⟨rfl, hb⟩
    refine ⟨_, rfl, ?_⟩
    have n0_ := Aside0.mk (blk_below (g := gb250) (o := .cells #[.int .i64 a0_0, .string a0_1, .int .i64 a0_2, .bool a0_3] 23 (0, 0)) q20y2 hb)
    have n1_ := Aside0.mk (blk_below (g := gb251) (o := .cells #[.int .i64 a1_0, .string a1_1, .int .i64 a1_2, .bool a1_3] 23 (0, 0)) q20y3 hb)
    have n2_ := Aside0.mk (below_step q20y0 hb)
    clear BK250
    clear BK251
    clear HB
    have BK250 := n0_
    have BK251 := n1_
    have HB := n2_
    clear n0_ n1_ n2_
    (try clear hb)
    (try clear hb2)
    (try clear hk)
    (try clear hi)
    refine hK.out _ _ ⟨q20k BK250.out 0, q20k BK250.out 1, q20k BK250.out 2, q20k BK250.out 3⟩ (fun hHeld => ?_)
    clear hK K
    refine norm_ (a' := ?_) ?_ ?_
    rotate_left
    ·show Act.put _ (some 86) _ = _
     simp only [Act.put, q20a, q20b, q20c, i64_w, i32_w]
     rfl
    refine one_ (i := 39) (N := some 88) (q20m 43 1099511627775) rfl rfl (one_of HT_.out (by kernel_rfl)) (by decide) (fun K hK => ?_)
    refine goes_ Tryd.func12 (by kernel_rfl) rfl #[.agg #[.int .i64 a0_0, .string a0_1, .int .i64 a0_2, .bool a0_3]] (by rfl) rfl rfl q20y1 ?_
    with_reducible refine (cambiumref16_Value.calls kj4 a0_0 a0_1 a0_2 a0_3 t262 _ A28.out).mono ?_
    rintro e w43 ⟨rfl, hb⟩
    refine ⟨_, rfl, ?_⟩
    have n0_ := Aside0.mk (blk_below (g := gb250) (o := .cells #[.int .i64 a0_0, .string a0_1, .int .i64 a0_2, .bool a0_3] 23 (0, 0)) q20y2 hb)
    have n1_ := Aside0.mk (blk_below (g := gb251) (o := .cells #[.int .i64 a1_0, .string a1_1, .int .i64 a1_2, .bool a1_3] 23 (0, 0)) q20y3 hb)
    have n2_ := Aside0.mk (below_step q20y0 hb)
    clear BK250
    clear BK251
    clear HB
    have BK250 := n0_
    have BK251 := n1_
    have HB := n2_
    clear n0_ n1_ n2_
    (try clear hb)
    (try clear hb2)
    (try clear hk)
    (try clear hi)
    refine hK.out _ _ ⟨q20k BK250.out 0, q20k BK250.out 1, q20k BK250.out 2, q20k BK250.out 3⟩ (fun hHeld => ?_)
    clear hK K
    refine norm_ (a' := ?_) ?_ ?_
    rotate_left
    ·show Act.put _ (some 88) _ = _
     simp only [Act.put, q20a, q20b, q20c, i64_w, i32_w]
     rfl
    refine q20p (i := 40) (N := some 89) (q20m 43 2199023255551) HT_.out ?_
    refine q20p (i := 41) (N := some 90) (q20m 43 4398046511103) HT_.out ?_
    refine q20p (i := 42) (N := some 4) (q20m 43 8796093022207) HT_.out ?_
    refine done_ (done_of HT_.out (by kernel_rfl)) ?_
    try go_wp2
    go_ret
    exact ⟨by first | rfl | (simp [errW_none, errW_some] <;> rfl) | (simp [*, errW_none, errW_some] <;> rfl), by repeat (first | (with_reducible first | exact HB.out | apply below_alloc | apply pw_below_drewN | apply below_drew1 | refine below_set ?_ GE250.out | refine below_set ?_ GE251.out) | exact HB.out)⟩
end Go.Proofs.YtkeepnmlphbffaaDoor.PSp
