-- Written by a program: the kit's print.py, driven for several laws at once. Not trusted: Lean checks it.
import Derived.Test.YtenmjbcedadcbaaPAllx0
import Derived.Test.YtenmjbcedadcbaaPAllx1
namespace Go.Proofs.Ytenmjbcedadcbaa.PAll
open Go.RowKit Go.Proofs.YtenmjbcedadcbaaW.PrintWords Go.Proofs.YtenmjbcedadcbaaW.PrintLast Go.Proofs.YtenmjbcedadcbaaW.PrintMore
attribute [local go_sem] max2_int min2_int max_two min_two max_three min_three max_four min_four   -- for this text's walks alone
set_option linter.unusedVariables false
set_option linter.unusedSimpArgs false

/-! ### cambiumref18_Index: function 21 -/
def q9m (n m : Nat) : Array Bool := ((List.range n).map (Nat.testBit m)).toArray
theorem q9a {α : Type} (xs : List α) (i : Nat) (x : α) : xs.toArray.setIfInBounds i x = (xs.set i x).toArray := List.setIfInBounds_toArray ..
theorem q9b {α : Type} (x y : α) (xs : List α) : (x :: xs).set 0 y = y :: xs := List.set_cons_zero ..
theorem q9c {α : Type} (x y : α) (xs : List α) (n : Nat) : (x :: xs).set (n + 1) y = x :: xs.set n y := List.set_cons_succ ..
theorem q9h {w w' : World} {p : Addr} {v : Value} (h : Below w.heap.size w w') (x : w.cell? p = some v) : w'.cell? p = some v := (h.cell (World.block_lt_of_cell? w _ x)).trans x
theorem q9p {P : Program} {md : Region.Mode} {ops : Array Oper} {Q : Exit → Act → World → Prop} {S : World → Prop} {ds : List Nat} {T : Bool × List (List Nat × List Nat)} {i : Nat} {N : Option Tmp} {oi : Oper} {v : Value} {fuel : Nat} {l : Array Bool} {a : Act} {w : World} (l' : Array Bool) (hT : rtab md ops = T) {a' : Act}
    (h : wpAnyLast P md ops Q S ds fuel l' a' w) (hi : ops[i]? = some oi := by rfl) (hN : oi.dst = N := by rfl) (hc : anyT T l.toList l'.toList i = true := by kernel_rfl) (hQ : ∀ c a w, Q (.panic c) (a.put oi.dst v) w → Q (.panic c) a w := by exact fun _ _ _ h => h)
    (hw : Region.wanted oi (yielded ops a.tmps) = true := by rfl) (hy : ∀ w', (execOp a.eval oi).run P w' = .ok (.value v) w' := by intro w'; go_simp; with_reducible rfl) (ha : a.put N v = a' := by simp only [Act.put, q9a, q9b, q9c, i64_w, i32_w]; rfl) :
    wpAnyLast P md ops Q S ds (fuel + 1) l a w := pure_ l' hi hN (any_of hT hc) hQ (Or.inl ⟨hw, hy⟩) ha h
theorem q9u {P : Program} {md : Region.Mode} {ops : Array Oper} {Q : Exit → Act → World → Prop} {S : World → Prop} {ds : List Nat} {T : Bool × List (List Nat × List Nat)} {i : Nat} {N : Option Tmp} {oi : Oper} {fuel : Nat} {l : Array Bool} {a : Act} {w : World} (l' : Array Bool) (hT : rtab md ops = T) {a' : Act}
    (h : wpAnyLast P md ops Q S ds fuel l' a' w) (hi : ops[i]? = some oi := by rfl) (hN : oi.dst = N := by rfl) (hc : anyT T l.toList l'.toList i = true := by kernel_rfl) (hQ : ∀ c a w, Q (.panic c) (a.put oi.dst undef) w → Q (.panic c) a w := by exact fun _ _ _ h => h)
    (hw : Region.wanted oi (yielded ops a.tmps) = false := by rfl) (ha : a.put N undef = a' := by simp only [Act.put, q9a, q9b, q9c, i64_w, i32_w]; rfl) :
    wpAnyLast P md ops Q S ds (fuel + 1) l a w := pure_ l' hi hN (any_of hT hc) hQ (Or.inr ⟨hw, rfl⟩) ha h
theorem q9k {w : World} {g : Nat} {cs : Array Value} {t : TypeId} (h : w.heap[g]? = some (.cells cs t (0, 0))) (i : Nat) {v : Value} (e : cs[i]? = some v := by rfl) : w.cell? ⟨g, i, none⟩ = some v := (blk_cell h i).trans e
theorem q9y0 {P : Prop} (h : P := by repeat (first | (with_reducible first | exact HB.out | apply below_alloc | apply pw_below_drewN | apply below_drew1 | refine below_set ?_ GE211.out) | exact HB.out)) : P := h
theorem q9y1 {P : Prop} (h : P := by (with_reducible repeat (first | refine blk_drewN ?_ _ | refine blk_drew ?_ | refine blk_alloc ?_ _)); exact BK211.out) : P := h
theorem q9y2 {P : Prop} (h : P := by (try simp only [List.map_toArray, List.map_cons, List.map_nil]); first | done | rfl | (simp only [List.length_drop, List.length_take]; rfl)) : P := h
theorem q9y3 {P : Prop} (h : P := by (with_reducible repeat (first | apply Kd.R_alloc | apply Kd.R_drewN | apply Kd.R_drew)); exact HO_5.out) : P := h
theorem q9y4 {P : Prop} (h : P := by (with_reducible repeat (first | apply Kd.R_alloc | apply Kd.R_drewN | apply Kd.R_drew)); exact HO262.out) : P := h
theorem q9y5 {P : Prop} (h : P := by (with_reducible repeat (first | apply Kd.R_alloc | apply Kd.R_drewN | apply Kd.R_drew)); exact HO250.out) : P := h
theorem q9y6 {P : Prop} (h : P := by (with_reducible repeat (first | apply Kd.R_alloc | apply Kd.R_drewN | apply Kd.R_drew)); exact HO238.out) : P := h
theorem q9y7 {P : Prop} (h : P := by (with_reducible repeat (first | apply Kd.R_alloc | apply Kd.R_drewN | apply Kd.R_drew)); exact HO226.out) : P := h
theorem q9y8 {P : Prop} (h : P := by repeat (first | (with_reducible first | exact HB.out | apply below_alloc | apply pw_below_drewN | apply below_drew1) | exact HB.out)) : P := h

def cambiumref18_Index.j0 : Nat → Int → List Int → Bool → Int → Int → Int → ByteArray → ByteArray → Int → Int → Int → List (S51) → List (S53) → List (S58) → Option (List Int)
 | 0, _, _, _, _, _, _, _, _, _, _, _, _, _, _ => none
 | k + 1, x0, x5, x11, x212000, x212001, x212002, x212003, x212004, x212005, x212006, x212007, x212008, x212009, x212010 => if x11 = true then (if x5.length + x212003.size < 140737488355328 then ((some (x5 ++ bytesOf x212003 : List Int)).bind fun y212 => (if y212.length < 140737488355328 then ((some (y212 ++ [0] : List Int)).bind fun y215 => (if x0 = 2 then (if y215.length + x212004.size < 140737488355328 then ((some (y215 ++ bytesOf x212004 : List Int)).bind fun y218 => (if y218.length < 140737488355328 then ((some (y218 ++ [0] : List Int)).bind fun y221 => ((cambiumref01_Key.f k (IntKind.u64.wrap (x212005))).bind fun t224 => (if y221.length + t224.length < 140737488355328 then ((some (y221 ++ t224 : List Int)).bind fun y227 => ((cambiumref18_Primary.f k x212000 x212001 x212002 x212003 x212004 x212005 x212006 x212007 x212008 x212009 x212010).bind fun t230 => (if y227.length + t230.length < 140737488355328 then (some (y227 ++ t230)) else (none)))) else (none)))) else (none))) else (none)) else ((cambiumref01_Key.f k (IntKind.u64.wrap (x212005))).bind fun t236 => (if y215.length + t236.length < 140737488355328 then ((some (y215 ++ t236 : List Int)).bind fun y239 => ((cambiumref18_Primary.f k x212000 x212001 x212002 x212003 x212004 x212005 x212006 x212007 x212008 x212009 x212010).bind fun t242 => (if y239.length + t242.length < 140737488355328 then (some (y239 ++ t242)) else (none)))) else (none))))) else (none))) else (none)) else (if x0 = 3 then ((cambiumref01_Key.f k (IntKind.u64.wrap (x212006))).bind fun t248 => (if x5.length + t248.length < 140737488355328 then ((some (x5 ++ t248 : List Int)).bind fun y251 => ((cambiumref18_Primary.f k x212000 x212001 x212002 x212003 x212004 x212005 x212006 x212007 x212008 x212009 x212010).bind fun t254 => (if y251.length + t254.length < 140737488355328 then (some (y251 ++ t254)) else (none)))) else (none))) else (if x0 = 4 then ((cambiumref01_Key.f k (IntKind.u64.wrap (x212005))).bind fun t260 => (if x5.length + t260.length < 140737488355328 then ((some (x5 ++ t260 : List Int)).bind fun y263 => ((cambiumref18_Primary.f k x212000 x212001 x212002 x212003 x212004 x212005 x212006 x212007 x212008 x212009 x212010).bind fun t266 => (if y263.length + t266.length < 140737488355328 then (some (y263 ++ t266)) else (none)))) else (none))) else (some ([] : List Int))))
def cambiumref18_Index.f (k : Nat) (a0 : Int) (a1_0 : Int) (a1_1 : Int) (a1_2 : Int) (a1_3 : ByteArray) (a1_4 : ByteArray) (a1_5 : Int) (a1_6 : Int) (a1_7 : Int) (l1_8 : List (S51)) (l1_9 : List (S53)) (l1_10 : List (S58)) : Option (List Int) := if a0 = 1 then (cambiumref18_Index.j0 k a0 ([] : List Int) true a1_0 a1_1 a1_2 a1_3 a1_4 a1_5 a1_6 a1_7 l1_8 l1_9 l1_10) else (cambiumref18_Index.j0 k a0 ([] : List Int) (a0 == 2) a1_0 a1_1 a1_2 a1_3 a1_4 a1_5 a1_6 a1_7 l1_8 l1_9 l1_10)
theorem cambiumref18_Index.mono_l : ∀ k, (∀ y0 y1 y2 y3 y4 y5 y6 y7 y8 y9 y10 y11 y12 y13, LeO (cambiumref18_Index.j0 k y0 y1 y2 y3 y4 y5 y6 y7 y8 y9 y10 y11 y12 y13) (cambiumref18_Index.j0 (k + 1) y0 y1 y2 y3 y4 y5 y6 y7 y8 y9 y10 y11 y12 y13))
 | 0 => fun _ _ _ _ _ _ _ _ _ _ _ _ _ _ r h => by simp [cambiumref18_Index.j0] at h
 | k + 1 => by
  have ih0 := cambiumref18_Index.mono_l k
  ·intro y0 y1 y2 y3 y4 y5 y6 y7 y8 y9 y10 y11 y12 y13
   unfold cambiumref18_Index.j0
   repeat' first
   | (with_reducible exact ih0 _ _ _ _ _ _ _ _ _ _ _ _ _ _)
   | (with_reducible exact cambiumref01_Key.mono _ _)
   | (with_reducible exact cambiumref18_Primary.mono _ _ _ _ _ _ _ _ _ _ _ _)
   | (with_reducible exact LeO.refl _)
   | (with_reducible exact LeO.none _)
   | (with_reducible refine LeO.ite ?_ ?_)
   | (with_reducible refine LeO.bind ?_ (fun _ => ?_))
   | exact ih0 _ _ _ _ _ _ _ _ _ _ _ _ _ _
   | exact cambiumref01_Key.mono _ _
   | exact cambiumref18_Primary.mono _ _ _ _ _ _ _ _ _ _ _ _
   | exact LeO.none _
   | refine LeO.ite ?_ ?_
   | refine LeO.bind ?_ (fun _ => ?_)
theorem cambiumref18_Index.mono : ∀ a0 a1 a2 a3 a4 a5 a6 a7 a8 a9 a10 a11 k, LeO (cambiumref18_Index.f k a0 a1 a2 a3 a4 a5 a6 a7 a8 a9 a10 a11) (cambiumref18_Index.f (k + 1) a0 a1 a2 a3 a4 a5 a6 a7 a8 a9 a10 a11) := by
 intro a0 a1 a2 a3 a4 a5 a6 a7 a8 a9 a10 a11 k
 have ih0 := cambiumref18_Index.mono_l k
 unfold cambiumref18_Index.f
 repeat' first
   | (with_reducible exact ih0 _ _ _ _ _ _ _ _ _ _ _ _ _ _)
   | (with_reducible exact cambiumref01_Key.mono _ _)
   | (with_reducible exact cambiumref18_Primary.mono _ _ _ _ _ _ _ _ _ _ _ _)
   | (with_reducible exact LeO.refl _)
   | (with_reducible exact LeO.none _)
   | (with_reducible refine LeO.ite ?_ ?_)
   | (with_reducible refine LeO.bind ?_ (fun _ => ?_))
   | exact ih0 _ _ _ _ _ _ _ _ _ _ _ _ _ _
   | exact cambiumref01_Key.mono _ _
   | exact cambiumref18_Primary.mono _ _ _ _ _ _ _ _ _ _ _ _
   | exact LeO.none _
   | refine LeO.ite ?_ ?_
   | refine LeO.bind ?_ (fun _ => ?_)
set_option maxHeartbeats 8000000 in
set_option maxRecDepth 100000 in
theorem cambiumref18_Index.calls (k : Nat) (a0 : Int) (a1_0 : Int) (a1_1 : Int) (a1_2 : Int) (a1_3 : ByteArray) (a1_4 : ByteArray) (a1_5 : Int) (a1_6 : Int) (a1_7 : Int) (A1_8 : Option Addr) (c1_8 : Nat) (l1_8 : List (S51)) (A1_9 : Option Addr) (c1_9 : Nat) (l1_9 : List (S53)) (A1_10 : Option Addr) (c1_10 : Nat) (l1_10 : List (S58)) (r : List Int) (w : World) (hr1_8 : Kd.C k51 w A1_8 l1_8.length l1_8) (hc1_8 : l1_8.length ≤ c1_8) (hr1_9 : Kd.C k53 w A1_9 l1_9.length l1_9) (hc1_9 : l1_9.length ≤ c1_9) (hr1_10 : Kd.C k58 w A1_10 l1_10.length l1_10) (hc1_10 : l1_10.length ≤ c1_10) (h : cambiumref18_Index.f k a0 a1_0 a1_1 a1_2 a1_3 a1_4 a1_5 a1_6 a1_7 l1_8 l1_9 l1_10 = some r) :
  Calls Try.prog 21 #[.int .i64 a0, .agg #[.int .u64 a1_0, .int .u64 a1_1, .int .u64 a1_2, .string a1_3, .string a1_4, .int .i64 a1_5, .int .i64 a1_6, .int .i64 a1_7, .slice A1_8 l1_8.length c1_8, .slice A1_9 l1_9.length c1_9, .slice A1_10 l1_10.length c1_10]] w fun e w' => ∃ v0_ : Value, e = .returned (v0_) ∧ Kd.R (Kd.int .u8) 5 w' w.heap.size (fun _ => True) v0_ r ∧ Below w.heap.size w w' := by
 have hu34 := Try.underlying34
 have HR1_8 := Aside0.mk hr1_8
 have HC1_8 := Aside0.mk hc1_8
 clear hr1_8 hc1_8
 have HR1_9 := Aside0.mk hr1_9
 have HC1_9 := Aside0.mk hc1_9
 clear hr1_9 hc1_9
 have HR1_10 := Aside0.mk hr1_10
 have HC1_10 := Aside0.mk hc1_10
 clear hr1_10 hc1_10
 have HB := Aside0.mk (Below.refl w.heap.size w)
 have H : (if a0 = 1 then (cambiumref18_Index.j0 k a0 ([] : List Int) true a1_0 a1_1 a1_2 a1_3 a1_4 a1_5 a1_6 a1_7 l1_8 l1_9 l1_10) else (cambiumref18_Index.j0 k a0 ([] : List Int) (a0 == 2) a1_0 a1_1 a1_2 a1_3 a1_4 a1_5 a1_6 a1_7 l1_8 l1_9 l1_10)) = some r := h
 clear h
 have HC3 := Aside0.mk H
 clear H
 go_enter Try.func21, Try.ntmps21
 go_upto_region 2 with (first | ((with_reducible refine gate_dst (N := 3) rfl ?_); refine box_event ?hg (N := 3) ?hd (cs := #[.int .u64 a1_0, .int .u64 a1_1, .int .u64 a1_2, .string a1_3, .string a1_4, .int .i64 a1_5, .int .i64 a1_6, .int .i64 a1_7, .slice A1_8 l1_8.length c1_8, .slice A1_9 l1_9.length c1_9, .slice A1_10 l1_10.length c1_10]) (t := 34) ?hr ?_; (case hd => rfl); (case hg => rfl); (case hr => first | (go_simp; done) | (go_simp; rfl)); intro gb211 hg w4 hbox hb; have n0_ := Aside0.mk (below_step q9y8 hb); have n1_ := Aside0.mk (hbox); have n2_ := Aside0.mk ((by rw [hg]; exact (below_size q9y8) : w.heap.size ≤ gb211)); have n3_ := Aside0.mk ((by rw [hg]; exact (below_size q9y8) : w.heap.size ≤ gb211)); clear HB; have HB := n0_; have BK211 := n1_; have GW211 := n2_; have GE211 := n3_; clear n0_ n1_ n2_ n3_; clear hb hbox hg))
 (try simp only [Act.put, q9a, q9b, q9c])
 go_cut [11] (fun v11 wc => ∃ (kq : Nat) (x11_2 : Bool), v11 = .bool x11_2 ∧ Aside0 (cambiumref18_Index.j0 kq a0 ([] : List Int) x11_2 a1_0 a1_1 a1_2 a1_3 a1_4 a1_5 a1_6 a1_7 l1_8 l1_9 l1_10 = some r) ∧ Aside0 (kq ≤ k) ∧ Aside0 (Kd.R (Kd.int .u8) 5 wc w.heap.size (fun _ => True) (.slice none 0 0) ([] : List Int)) ∧ Aside0 (wc.heap[gb211]? = some (.cells #[.int .u64 a1_0, .int .u64 a1_1, .int .u64 a1_2, .string a1_3, .string a1_4, .int .i64 a1_5, .int .i64 a1_6, .int .i64 a1_7, (.slice A1_8 l1_8.length c1_8), (.slice A1_9 l1_9.length c1_9), (.slice A1_10 l1_10.length c1_10)] 34 (0, 0))) ∧ Aside0 (Below w.heap.size w wc))
 case first =>
  have H := HC3.out
  clear HC3
  by_cases c5 : a0 = 1
  rotate_left
  ·rw [if_neg c5] at H
   have c5b0 : (a0 == 1) = false := beq_eq_false_iff_ne.mpr c5
   have c5b1 : (a0 != 1) = true := bne_iff_ne.mpr c5
   (first | rw [c5b0] | (simp only [i64_w, i32_w]; rw [c5b0]) | skip)
   have H' := Aside0.mk H
   clear H
   go_wp2
   go_meet
   case rel => exact ⟨_, ((a0 == 2)), (by first | rfl | (simp; done) | (simp [*]; done)), H', ⟨by first | omega | exact Nat.le_refl _⟩, ⟨by first | exact Kd.R_nil _ _ _ _ _ | exact Kd.N_nil _ _ _ _ _ | exact Kd.V_nil _ _ _ _ _ | exact Kd.Q_nil _ _ _ _ _ | exact Kd.S_nil _ _ _ _ _⟩, ⟨by (with_reducible repeat (first | refine blk_drewN ?_ _ | refine blk_drew ?_ | refine blk_alloc ?_ _)); exact BK211.out⟩, ⟨by repeat (first | (with_reducible first | exact HB.out | apply below_alloc | apply pw_below_drewN | apply below_drew1 | refine below_set ?_ GE211.out) | exact HB.out)⟩⟩
  rw [if_pos c5] at H
  have c5b0 : (a0 == 1) = true := beq_iff_eq.mpr c5
  have c5b1 : (a0 != 1) = false := bne_eq_false_iff_eq.mpr c5
  clear c5
  (first | rw [c5b0] | (simp only [i64_w, i32_w]; rw [c5b0]) | skip)
  have H' := Aside0.mk H
  clear H
  go_wp2
  go_meet
  case rel => exact ⟨_, (true), (by first | rfl | (simp; done) | (simp [*]; done)), H', ⟨by first | omega | exact Nat.le_refl _⟩, ⟨by first | exact Kd.R_nil _ _ _ _ _ | exact Kd.N_nil _ _ _ _ _ | exact Kd.V_nil _ _ _ _ _ | exact Kd.Q_nil _ _ _ _ _ | exact Kd.S_nil _ _ _ _ _⟩, ⟨by (with_reducible repeat (first | refine blk_drewN ?_ _ | refine blk_drew ?_ | refine blk_alloc ?_ _)); exact BK211.out⟩, ⟨by repeat (first | (with_reducible first | exact HB.out | apply below_alloc | apply pw_below_drewN | apply below_drew1 | refine below_set ?_ GE211.out) | exact HB.out)⟩⟩
 case rest =>
  clear HC3
  try clear c1
  try clear c2
  try clear p2
  try clear c5
  try clear c5b0
  try clear c5b1
  obtain ⟨kq, x11_2, rfl, HA, HJ2, HO_5, BK211, HB⟩ := hcut
  cases kq with
  | zero => exact absurd HA.out (by simp [cambiumref18_Index.j0])
  | succ kj2 =>
   have H := HA.out
   clear HA
   simp only [cambiumref18_Index.j0] at H
   by_cases c6 : x11_2 = true
   rotate_left
   ·replace c6 := Bool.eq_false_iff.mpr c6
    subst c6
    have H1 : (if a0 = 3 then ((cambiumref01_Key.f kj2 (IntKind.u64.wrap (a1_6))).bind fun t248 => (if ([] : List Int).length + t248.length < 140737488355328 then ((some (([] : List Int) ++ t248 : List Int)).bind fun y251 => ((cambiumref18_Primary.f kj2 a1_0 a1_1 a1_2 a1_3 a1_4 a1_5 a1_6 a1_7 l1_8 l1_9 l1_10).bind fun t254 => (if y251.length + t254.length < 140737488355328 then (some (y251 ++ t254)) else (none)))) else (none))) else (if a0 = 4 then ((cambiumref01_Key.f kj2 (IntKind.u64.wrap (a1_5))).bind fun t260 => (if ([] : List Int).length + t260.length < 140737488355328 then ((some (([] : List Int) ++ t260 : List Int)).bind fun y263 => ((cambiumref18_Primary.f kj2 a1_0 a1_1 a1_2 a1_3 a1_4 a1_5 a1_6 a1_7 l1_8 l1_9 l1_10).bind fun t266 => (if y263.length + t266.length < 140737488355328 then (some (y263 ++ t266)) else (none)))) else (none))) else (some ([] : List Int)))) = some r := by rw [if_neg (show ¬ (false = true) by decide)] at H; exact H
    clear H
    have H := H1
    clear H1
    by_cases c45 : a0 = 3
    ·rw [if_pos c45] at H
     have c45b0 : (a0 == 3) = true := beq_iff_eq.mpr c45
     have c45b1 : (a0 != 3) = false := bne_eq_false_iff_eq.mpr c45
     clear c45
     replace H := Option.bind_eq_some_iff.mp H
     obtain ⟨t248, A460, H⟩ := H
     replace H : (if ([] : List Int).length + t248.length < 140737488355328 then ((some (([] : List Int) ++ t248 : List Int)).bind fun y251 => ((cambiumref18_Primary.f kj2 a1_0 a1_1 a1_2 a1_3 a1_4 a1_5 a1_6 a1_7 l1_8 l1_9 l1_10).bind fun t254 => (if y251.length + t254.length < 140737488355328 then (some (y251 ++ t254)) else (none)))) else (none)) = some r := H
     have A46 := Aside0.mk A460
     clear A460
     by_cases c47 : ([] : List Int).length + t248.length < 140737488355328
     rotate_left
     ·rw [if_neg c47] at H
      exact absurd H (by simp)
     rw [if_pos c47] at H
     have LMc47 := Aside0.mk c47
     clear c47
     obtain ⟨y251, hy251⟩ : ∃ y_ : List Int, y_ = (([] : List Int) ++ t248) := ⟨_, rfl⟩
     replace H : ((cambiumref18_Primary.f kj2 a1_0 a1_1 a1_2 a1_3 a1_4 a1_5 a1_6 a1_7 l1_8 l1_9 l1_10).bind fun t254 => (if y251.length + t254.length < 140737488355328 then (some (y251 ++ t254)) else (none))) = some r := by first | (rw [hy251]; with_reducible exact H) | (have H2_ := (Option.bind_some _ _).symm.trans H; rw [hy251]; with_reducible exact H2_) | (have H2_ := (Option.bind_some _ _).symm.trans H; with_reducible exact H2_) | with_reducible exact H | (rw [hy251]; exact H) | exact H
     have Ny251 := Aside0.mk hy251
     clear hy251
     replace H := Option.bind_eq_some_iff.mp H
     obtain ⟨t254, A480, H⟩ := H
     replace H : (if y251.length + t254.length < 140737488355328 then (some (y251 ++ t254)) else (none)) = some r := H
     have A48 := Aside0.mk A480
     clear A480
     by_cases c49 : y251.length + t254.length < 140737488355328
     rotate_left
     ·rw [if_neg c49] at H
      exact absurd H (by simp)
     rw [if_pos c49] at H
     have LMc49 := Aside0.mk c49
     clear c49
     obtain ⟨y257, hy257⟩ : ∃ y_ : List Int, y_ = (y251 ++ t254) := ⟨_, rfl⟩
     replace H : (some y257) = some r := by first | (rw [hy257]; with_reducible exact H) | (have H2_ := (Option.bind_some _ _).symm.trans H; rw [hy257]; with_reducible exact H2_) | (have H2_ := (Option.bind_some _ _).symm.trans H; with_reducible exact H2_) | with_reducible exact H | (rw [hy257]; exact H) | exact H
     have Ny257 := Aside0.mk hy257
     clear hy257
     obtain rfl := Option.some.inj H
     have hcz50_0 : wc.cell? ⟨gb211, 0, none⟩ = some (.int .u64 a1_0) := (blk_cell BK211.out 0).trans rfl
     have hcz50_1 : wc.cell? ⟨gb211, 1, none⟩ = some (.int .u64 a1_1) := (blk_cell BK211.out 1).trans rfl
     have hcz50_2 : wc.cell? ⟨gb211, 2, none⟩ = some (.int .u64 a1_2) := (blk_cell BK211.out 2).trans rfl
     have hcz50_3 : wc.cell? ⟨gb211, 3, none⟩ = some (.string a1_3) := (blk_cell BK211.out 3).trans rfl
     have hcz50_4 : wc.cell? ⟨gb211, 4, none⟩ = some (.string a1_4) := (blk_cell BK211.out 4).trans rfl
     have hcz50_5 : wc.cell? ⟨gb211, 5, none⟩ = some (.int .i64 a1_5) := (blk_cell BK211.out 5).trans rfl
     have hcz50_6 : wc.cell? ⟨gb211, 6, none⟩ = some (.int .i64 a1_6) := (blk_cell BK211.out 6).trans rfl
     have hcz50_7 : wc.cell? ⟨gb211, 7, none⟩ = some (.int .i64 a1_7) := (blk_cell BK211.out 7).trans rfl
     have hcz50_8 : wc.cell? ⟨gb211, 8, none⟩ = some (.slice A1_8 l1_8.length c1_8) := (blk_cell BK211.out 8).trans rfl
     have hcz50_9 : wc.cell? ⟨gb211, 9, none⟩ = some (.slice A1_9 l1_9.length c1_9) := (blk_cell BK211.out 9).trans rfl
     have hcz50_10 : wc.cell? ⟨gb211, 10, none⟩ = some (.slice A1_10 l1_10.length c1_10) := (blk_cell BK211.out 10).trans rfl
     have hfz50_0 := blk_frozen BK211.out 0
     have hfz50_1 := blk_frozen BK211.out 1
     have hfz50_2 := blk_frozen BK211.out 2
     have hfz50_3 := blk_frozen BK211.out 3
     have hfz50_4 := blk_frozen BK211.out 4
     have hfz50_5 := blk_frozen BK211.out 5
     have hfz50_6 := blk_frozen BK211.out 6
     have hfz50_7 := blk_frozen BK211.out 7
     have hfz50_8 := blk_frozen BK211.out 8
     have hfz50_9 := blk_frozen BK211.out 9
     have hfz50_10 := blk_frozen BK211.out 10
     go_wp2_with (first | ((with_reducible refine gate_callee (f := 26) rfl ?_); refine goesL_ (some 38) rfl rfl Try.func26 (by kernel_rfl) rfl #[.int .u64 (IntKind.u64.wrap (a1_6))] rfl q9y2 ?_; (with_reducible refine (cambiumref01_Key.calls kj2 (IntKind.u64.wrap (a1_6)) t248 _ A46.out).mono ?_); rintro e w51 ⟨v249, rfl, ho0, hb⟩; refine ⟨_, rfl, ?_⟩; have n0_ := Aside0.mk (Kd.R_elder' q9y3 (Kd.R_base ho0) hb); have n1_ := Aside0.mk (Kd.R_lower (Kd.R_new' ho0 (Kd.R_lt q9y3)) (below_size q9y0)); have n2_ := Aside0.mk (blk_below (g := gb211) (o := .cells #[.int .u64 a1_0, .int .u64 a1_1, .int .u64 a1_2, .string a1_3, .string a1_4, .int .i64 a1_5, .int .i64 a1_6, .int .i64 a1_7, .slice A1_8 l1_8.length c1_8, .slice A1_9 l1_9.length c1_9, .slice A1_10 l1_10.length c1_10] 34 (0, 0)) q9y1 hb); have n3_ := Aside0.mk (below_step q9y0 hb); clear HO_5; clear BK211; clear HB; have HO_5 := n0_; have HO250 := n1_; have BK211 := n2_; have HB := n3_; clear n0_ n1_ n2_ n3_; (try clear hb); (try clear hb2); (try clear hk); (try clear hi); (try clear ho0); obtain ⟨Ao53, co53, eo53⟩ := Kd.R_slice HO250.out; subst eo53) | ((with_reducible refine gate_builtin (b := .append) (xs := #[.tmp 34, .tmp 38]) rfl ?_); at_builtin; refine Kd.R_append_rows (Kd.int .u8) (w0 := w) w.heap.size rfl (.tmp 34) (.tmp 38) 22 5 (.int .u8 0) 1 rfl Try.underlying22 info5 rfl (by decide) (by omega) (.slice none 0 0) ([] : List Int) t248 _ _ _ (fun k_ => some k_ ≠ (.slice Ao53 t248.length co53 : Value).ownBlock) (fun _ => False) rfl rfl ?aO ?aR (fun _ _ h => h) (fun _ h => h.elim) ?aF ?aB ?aS ?aL ?_; (case aR => repeat (first | exact (Kd.R_reads' HO250.out).2.2 | (with_reducible refine Kd.C_alloc ?_ _) | (with_reducible refine Kd.C_drewN ?_ _) | (with_reducible refine Kd.C_drew ?_))); (case aB => exact q9y0); (case aF => exact (fun k_ hk => Kd.fresh' (Kd.R_lt q9y5) k_ hk)); (case aO => exact (by (with_reducible repeat (first | apply Kd.R_alloc | apply Kd.R_drewN | apply Kd.R_drew)); exact Kd.R_mono HO_5.out (fun _ hk => hk.2))); (case aS => exact (below_size q9y0)); (case aL => have := LMc47.out; omega); intro v252 w52 ho hb hg hat; rw [← Ny251.out] at ho; have n0_ := Aside0.mk (blk_grown (g := gb211) (o := .cells #[.int .u64 a1_0, .int .u64 a1_1, .int .u64 a1_2, .string a1_3, .string a1_4, .int .i64 a1_5, .int .i64 a1_6, .int .i64 a1_7, .slice A1_8 l1_8.length c1_8, .slice A1_9 l1_9.length c1_9, .slice A1_10 l1_10.length c1_10] 34 (0, 0)) q9y1 hg (Kd.R_ne HO_5.out BK211.out (by decide))); have n1_ := Aside0.mk (Kd.R_after (ok := (fun _ => True)) q9y5 hg hat); have n2_ := Aside0.mk (hb); have n3_ := Aside0.mk (ho); clear BK211; clear HO250; clear HB; clear HO_5; have BK211 := n0_; have HO250 := n1_; have HB := n2_; have HO253 := n3_; clear n0_ n1_ n2_ n3_; clear ho hb hg hat; have hcz54_0 : w52.cell? ⟨gb211, 0, none⟩ = some (.int .u64 a1_0) := (blk_cell BK211.out 0).trans rfl; have hcz54_1 : w52.cell? ⟨gb211, 1, none⟩ = some (.int .u64 a1_1) := (blk_cell BK211.out 1).trans rfl; have hcz54_2 : w52.cell? ⟨gb211, 2, none⟩ = some (.int .u64 a1_2) := (blk_cell BK211.out 2).trans rfl; have hcz54_3 : w52.cell? ⟨gb211, 3, none⟩ = some (.string a1_3) := (blk_cell BK211.out 3).trans rfl; have hcz54_4 : w52.cell? ⟨gb211, 4, none⟩ = some (.string a1_4) := (blk_cell BK211.out 4).trans rfl; have hcz54_5 : w52.cell? ⟨gb211, 5, none⟩ = some (.int .i64 a1_5) := (blk_cell BK211.out 5).trans rfl; have hcz54_6 : w52.cell? ⟨gb211, 6, none⟩ = some (.int .i64 a1_6) := (blk_cell BK211.out 6).trans rfl; have hcz54_7 : w52.cell? ⟨gb211, 7, none⟩ = some (.int .i64 a1_7) := (blk_cell BK211.out 7).trans rfl; have hcz54_8 : w52.cell? ⟨gb211, 8, none⟩ = some (.slice A1_8 l1_8.length c1_8) := (blk_cell BK211.out 8).trans rfl; have hcz54_9 : w52.cell? ⟨gb211, 9, none⟩ = some (.slice A1_9 l1_9.length c1_9) := (blk_cell BK211.out 9).trans rfl; have hcz54_10 : w52.cell? ⟨gb211, 10, none⟩ = some (.slice A1_10 l1_10.length c1_10) := (blk_cell BK211.out 10).trans rfl; have hfz54_0 := blk_frozen BK211.out 0; have hfz54_1 := blk_frozen BK211.out 1; have hfz54_2 := blk_frozen BK211.out 2; have hfz54_3 := blk_frozen BK211.out 3; have hfz54_4 := blk_frozen BK211.out 4; have hfz54_5 := blk_frozen BK211.out 5; have hfz54_6 := blk_frozen BK211.out 6; have hfz54_7 := blk_frozen BK211.out 7; have hfz54_8 := blk_frozen BK211.out 8; have hfz54_9 := blk_frozen BK211.out 9; have hfz54_10 := blk_frozen BK211.out 10) | ((with_reducible refine gate_callee (f := 11) rfl ?_); refine goesL_ (some 50) rfl rfl Try.func11 (by kernel_rfl) rfl #[.agg #[.int .u64 a1_0, .int .u64 a1_1, .int .u64 a1_2, .string a1_3, .string a1_4, .int .i64 a1_5, .int .i64 a1_6, .int .i64 a1_7, .slice A1_8 l1_8.length c1_8, .slice A1_9 l1_9.length c1_9, .slice A1_10 l1_10.length c1_10]] rfl q9y2 ?_; (with_reducible refine (cambiumref18_Primary.calls kj2 a1_0 a1_1 a1_2 a1_3 a1_4 a1_5 a1_6 a1_7 _ _ l1_8 _ _ l1_9 _ _ l1_10 t254 _ ?side1 ?side2 ?side3 ?side4 ?side5 ?side6 A48.out).mono ?_); (case side1 => repeat (first | exact (Kd.C_below HR1_8.out HB.out) | (with_reducible refine Kd.C_alloc ?_ _) | (with_reducible refine Kd.C_drewN ?_ _) | (with_reducible refine Kd.C_drew ?_))); (case side2 => exact HC1_8.out); (case side3 => repeat (first | exact (Kd.C_below HR1_9.out HB.out) | (with_reducible refine Kd.C_alloc ?_ _) | (with_reducible refine Kd.C_drewN ?_ _) | (with_reducible refine Kd.C_drew ?_))); (case side4 => exact HC1_9.out); (case side5 => repeat (first | exact (Kd.C_below HR1_10.out HB.out) | (with_reducible refine Kd.C_alloc ?_ _) | (with_reducible refine Kd.C_drewN ?_ _) | (with_reducible refine Kd.C_drew ?_))); (case side6 => exact HC1_10.out); rintro e w55 ⟨v255, rfl, ho0, hb⟩; refine ⟨_, rfl, ?_⟩; have n0_ := Aside0.mk (Kd.R_elder' q9y5 (Kd.R_base ho0) hb); have n1_ := Aside0.mk (Kd.R_elder' (by (with_reducible repeat (first | apply Kd.R_alloc | apply Kd.R_drewN | apply Kd.R_drew)); exact HO253.out) (Kd.R_base ho0) hb); have n2_ := Aside0.mk (Kd.R_lower (Kd.R_new' (Kd.R_new' ho0 (Kd.R_lt q9y5)) (Kd.R_lt (by (with_reducible repeat (first | apply Kd.R_alloc | apply Kd.R_drewN | apply Kd.R_drew)); exact HO253.out))) (below_size q9y0)); have n3_ := Aside0.mk (blk_below (g := gb211) (o := .cells #[.int .u64 a1_0, .int .u64 a1_1, .int .u64 a1_2, .string a1_3, .string a1_4, .int .i64 a1_5, .int .i64 a1_6, .int .i64 a1_7, .slice A1_8 l1_8.length c1_8, .slice A1_9 l1_9.length c1_9, .slice A1_10 l1_10.length c1_10] 34 (0, 0)) q9y1 hb); have n4_ := Aside0.mk (below_step q9y0 hb); clear HO250; clear HO253; clear BK211; clear HB; have HO250 := n0_; have HO253 := n1_; have HO256 := n2_; have BK211 := n3_; have HB := n4_; clear n0_ n1_ n2_ n3_ n4_; (try clear hb); (try clear hb2); (try clear hk); (try clear hi); (try clear ho0); obtain ⟨Ao57, co57, eo57⟩ := Kd.R_slice HO256.out; subst eo57) | ((with_reducible refine gate_builtin (b := .append) (xs := #[.tmp 48, .tmp 50]) rfl ?_); at_builtin; refine Kd.R_append_rows (Kd.int .u8) (w0 := w) w.heap.size rfl (.tmp 48) (.tmp 50) 22 5 (.int .u8 0) 1 rfl Try.underlying22 info5 rfl (by decide) (by omega) v252 y251 t254 _ _ _ (fun k_ => some k_ ≠ (.slice Ao53 t248.length co53 : Value).ownBlock ∧ some k_ ≠ (.slice Ao57 t254.length co57 : Value).ownBlock) (fun _ => False) rfl rfl ?aO ?aR (fun _ _ h => h) (fun _ h => h.elim) ?aF ?aB ?aS ?aL ?_; (case aR => repeat (first | exact (Kd.R_reads' HO256.out).2.2 | (with_reducible refine Kd.C_alloc ?_ _) | (with_reducible refine Kd.C_drewN ?_ _) | (with_reducible refine Kd.C_drew ?_))); (case aB => exact q9y0); (case aF => exact (fun k_ hk => ⟨Kd.fresh' (Kd.R_lt q9y5) k_ hk, Kd.fresh' (Kd.R_lt (by (with_reducible repeat (first | apply Kd.R_alloc | apply Kd.R_drewN | apply Kd.R_drew)); exact HO256.out)) k_ hk⟩)); (case aO => exact (by (with_reducible repeat (first | apply Kd.R_alloc | apply Kd.R_drewN | apply Kd.R_drew)); exact HO253.out)); (case aS => exact (below_size q9y0)); (case aL => have := LMc49.out; omega); intro v258 w56 ho hb hg hat; rw [← Ny257.out] at ho; have n0_ := Aside0.mk (blk_grown (g := gb211) (o := .cells #[.int .u64 a1_0, .int .u64 a1_1, .int .u64 a1_2, .string a1_3, .string a1_4, .int .i64 a1_5, .int .i64 a1_6, .int .i64 a1_7, .slice A1_8 l1_8.length c1_8, .slice A1_9 l1_9.length c1_9, .slice A1_10 l1_10.length c1_10] 34 (0, 0)) q9y1 hg (Kd.R_ne HO253.out BK211.out (by decide))); have n1_ := Aside0.mk (Kd.R_after (ok := (fun k_ => some k_ ≠ (.slice Ao57 t254.length co57 : Value).ownBlock)) (by (with_reducible repeat (first | apply Kd.R_alloc | apply Kd.R_drewN | apply Kd.R_drew)); exact Kd.R_mono HO250.out (fun _ hk => ⟨hk.2, hk.1.2⟩)) hg hat); have n2_ := Aside0.mk (Kd.R_after (ok := (fun k_ => some k_ ≠ (.slice Ao53 t248.length co53 : Value).ownBlock)) (by (with_reducible repeat (first | apply Kd.R_alloc | apply Kd.R_drewN | apply Kd.R_drew)); exact Kd.R_mono HO256.out (fun _ hk => ⟨hk.1.2, hk.2⟩)) hg hat); have n3_ := Aside0.mk (hb); have n4_ := Aside0.mk (ho); clear BK211; clear HO250; clear HO256; clear HB; clear HO253; have BK211 := n0_; have HO250 := n1_; have HO256 := n2_; have HB := n3_; have HO259 := n4_; clear n0_ n1_ n2_ n3_ n4_; clear ho hb hg hat))
     go_ret
     exact ⟨_, by first | rfl | (simp [errW_none, errW_some] <;> rfl) | (simp [*, errW_none, errW_some] <;> rfl), by (with_reducible repeat (first | apply Kd.R_alloc | apply Kd.R_drewN | apply Kd.R_drew)); exact Kd.R_mono HO259.out (fun _ hk => trivial), by repeat (first | (with_reducible first | exact HB.out | apply below_alloc | apply pw_below_drewN | apply below_drew1 | refine below_set ?_ GE211.out) | exact HB.out)⟩
    rw [if_neg c45] at H
    have c45b0 : (a0 == 3) = false := beq_eq_false_iff_ne.mpr c45
    have c45b1 : (a0 != 3) = true := bne_iff_ne.mpr c45
    by_cases c58 : a0 = 4
    rotate_left
    ·rw [if_neg c58] at H
     have c58b0 : (a0 == 4) = false := beq_eq_false_iff_ne.mpr c58
     have c58b1 : (a0 != 4) = true := bne_iff_ne.mpr c58
     obtain rfl := Option.some.inj H
     go_wp2
     go_ret
     exact ⟨_, by first | rfl | (simp [errW_none, errW_some] <;> rfl) | (simp [*, errW_none, errW_some] <;> rfl), by first | exact Kd.R_nil _ _ _ _ _ | exact Kd.N_nil _ _ _ _ _ | exact Kd.V_nil _ _ _ _ _ | exact Kd.Q_nil _ _ _ _ _ | exact Kd.S_nil _ _ _ _ _, by repeat (first | (with_reducible first | exact HB.out | apply below_alloc | apply pw_below_drewN | apply below_drew1 | refine below_set ?_ GE211.out) | exact HB.out)⟩

    rw [if_pos c58] at H
    have c58b0 : (a0 == 4) = true := beq_iff_eq.mpr c58
    have c58b1 : (a0 != 4) = false := bne_eq_false_iff_eq.mpr c58
    clear c58
    replace H := Option.bind_eq_some_iff.mp H
    obtain ⟨t260, A590, H⟩ := H
    replace H : (if ([] : List Int).length + t260.length < 140737488355328 then ((some (([] : List Int) ++ t260 : List Int)).bind fun y263 => ((cambiumref18_Primary.f kj2 a1_0 a1_1 a1_2 a1_3 a1_4 a1_5 a1_6 a1_7 l1_8 l1_9 l1_10).bind fun t266 => (if y263.length + t266.length < 140737488355328 then (some (y263 ++ t266)) else (none)))) else (none)) = some r := H
    have A59 := Aside0.mk A590
    clear A590
    by_cases c60 : ([] : List Int).length + t260.length < 140737488355328
    rotate_left
    ·rw [if_neg c60] at H
     exact absurd H (by simp)
    rw [if_pos c60] at H
    have LMc60 := Aside0.mk c60
    clear c60
    obtain ⟨y263, hy263⟩ : ∃ y_ : List Int, y_ = (([] : List Int) ++ t260) := ⟨_, rfl⟩
    replace H : ((cambiumref18_Primary.f kj2 a1_0 a1_1 a1_2 a1_3 a1_4 a1_5 a1_6 a1_7 l1_8 l1_9 l1_10).bind fun t266 => (if y263.length + t266.length < 140737488355328 then (some (y263 ++ t266)) else (none))) = some r := by first | (rw [hy263]; with_reducible exact H) | (have H2_ := (Option.bind_some _ _).symm.trans H; rw [hy263]; with_reducible exact H2_) | (have H2_ := (Option.bind_some _ _).symm.trans H; with_reducible exact H2_) | with_reducible exact H | (rw [hy263]; exact H) | exact H
    have Ny263 := Aside0.mk hy263
    clear hy263
    replace H := Option.bind_eq_some_iff.mp H
    obtain ⟨t266, A610, H⟩ := H
    replace H : (if y263.length + t266.length < 140737488355328 then (some (y263 ++ t266)) else (none)) = some r := H
    have A61 := Aside0.mk A610
    clear A610
    by_cases c62 : y263.length + t266.length < 140737488355328
    rotate_left
    ·rw [if_neg c62] at H
     exact absurd H (by simp)
    rw [if_pos c62] at H
    have LMc62 := Aside0.mk c62
    clear c62
    obtain ⟨y269, hy269⟩ : ∃ y_ : List Int, y_ = (y263 ++ t266) := ⟨_, rfl⟩
    replace H : (some y269) = some r := by first | (rw [hy269]; with_reducible exact H) | (have H2_ := (Option.bind_some _ _).symm.trans H; rw [hy269]; with_reducible exact H2_) | (have H2_ := (Option.bind_some _ _).symm.trans H; with_reducible exact H2_) | with_reducible exact H | (rw [hy269]; exact H) | exact H
    have Ny269 := Aside0.mk hy269
    clear hy269
    obtain rfl := Option.some.inj H
    have hcz63_0 : wc.cell? ⟨gb211, 0, none⟩ = some (.int .u64 a1_0) := (blk_cell BK211.out 0).trans rfl
    have hcz63_1 : wc.cell? ⟨gb211, 1, none⟩ = some (.int .u64 a1_1) := (blk_cell BK211.out 1).trans rfl
    have hcz63_2 : wc.cell? ⟨gb211, 2, none⟩ = some (.int .u64 a1_2) := (blk_cell BK211.out 2).trans rfl
    have hcz63_3 : wc.cell? ⟨gb211, 3, none⟩ = some (.string a1_3) := (blk_cell BK211.out 3).trans rfl
    have hcz63_4 : wc.cell? ⟨gb211, 4, none⟩ = some (.string a1_4) := (blk_cell BK211.out 4).trans rfl
    have hcz63_5 : wc.cell? ⟨gb211, 5, none⟩ = some (.int .i64 a1_5) := (blk_cell BK211.out 5).trans rfl
    have hcz63_6 : wc.cell? ⟨gb211, 6, none⟩ = some (.int .i64 a1_6) := (blk_cell BK211.out 6).trans rfl
    have hcz63_7 : wc.cell? ⟨gb211, 7, none⟩ = some (.int .i64 a1_7) := (blk_cell BK211.out 7).trans rfl
    have hcz63_8 : wc.cell? ⟨gb211, 8, none⟩ = some (.slice A1_8 l1_8.length c1_8) := (blk_cell BK211.out 8).trans rfl
    have hcz63_9 : wc.cell? ⟨gb211, 9, none⟩ = some (.slice A1_9 l1_9.length c1_9) := (blk_cell BK211.out 9).trans rfl
    have hcz63_10 : wc.cell? ⟨gb211, 10, none⟩ = some (.slice A1_10 l1_10.length c1_10) := (blk_cell BK211.out 10).trans rfl
    have hfz63_0 := blk_frozen BK211.out 0
    have hfz63_1 := blk_frozen BK211.out 1
    have hfz63_2 := blk_frozen BK211.out 2
    have hfz63_3 := blk_frozen BK211.out 3
    have hfz63_4 := blk_frozen BK211.out 4
    have hfz63_5 := blk_frozen BK211.out 5
    have hfz63_6 := blk_frozen BK211.out 6
    have hfz63_7 := blk_frozen BK211.out 7
    have hfz63_8 := blk_frozen BK211.out 8
    have hfz63_9 := blk_frozen BK211.out 9
    have hfz63_10 := blk_frozen BK211.out 10
    go_wp2_with (first | ((with_reducible refine gate_callee (f := 26) rfl ?_); refine goesL_ (some 46) rfl rfl Try.func26 (by kernel_rfl) rfl #[.int .u64 (IntKind.u64.wrap (a1_5))] rfl q9y2 ?_; (with_reducible refine (cambiumref01_Key.calls kj2 (IntKind.u64.wrap (a1_5)) t260 _ A59.out).mono ?_); rintro e w64 ⟨v261, rfl, ho0, hb⟩; refine ⟨_, rfl, ?_⟩; have n0_ := Aside0.mk (Kd.R_elder' q9y3 (Kd.R_base ho0) hb); have n1_ := Aside0.mk (Kd.R_lower (Kd.R_new' ho0 (Kd.R_lt q9y3)) (below_size q9y0)); have n2_ := Aside0.mk (blk_below (g := gb211) (o := .cells #[.int .u64 a1_0, .int .u64 a1_1, .int .u64 a1_2, .string a1_3, .string a1_4, .int .i64 a1_5, .int .i64 a1_6, .int .i64 a1_7, .slice A1_8 l1_8.length c1_8, .slice A1_9 l1_9.length c1_9, .slice A1_10 l1_10.length c1_10] 34 (0, 0)) q9y1 hb); have n3_ := Aside0.mk (below_step q9y0 hb); clear HO_5; clear BK211; clear HB; have HO_5 := n0_; have HO262 := n1_; have BK211 := n2_; have HB := n3_; clear n0_ n1_ n2_ n3_; (try clear hb); (try clear hb2); (try clear hk); (try clear hi); (try clear ho0); obtain ⟨Ao66, co66, eo66⟩ := Kd.R_slice HO262.out; subst eo66) | ((with_reducible refine gate_builtin (b := .append) (xs := #[.tmp 42, .tmp 46]) rfl ?_); at_builtin; refine Kd.R_append_rows (Kd.int .u8) (w0 := w) w.heap.size rfl (.tmp 42) (.tmp 46) 22 5 (.int .u8 0) 1 rfl Try.underlying22 info5 rfl (by decide) (by omega) (.slice none 0 0) ([] : List Int) t260 _ _ _ (fun k_ => some k_ ≠ (.slice Ao66 t260.length co66 : Value).ownBlock) (fun _ => False) rfl rfl ?aO ?aR (fun _ _ h => h) (fun _ h => h.elim) ?aF ?aB ?aS ?aL ?_; (case aR => repeat (first | exact (Kd.R_reads' HO262.out).2.2 | (with_reducible refine Kd.C_alloc ?_ _) | (with_reducible refine Kd.C_drewN ?_ _) | (with_reducible refine Kd.C_drew ?_))); (case aB => exact q9y0); (case aF => exact (fun k_ hk => Kd.fresh' (Kd.R_lt q9y4) k_ hk)); (case aO => exact (by (with_reducible repeat (first | apply Kd.R_alloc | apply Kd.R_drewN | apply Kd.R_drew)); exact Kd.R_mono HO_5.out (fun _ hk => hk.2))); (case aS => exact (below_size q9y0)); (case aL => have := LMc60.out; omega); intro v264 w65 ho hb hg hat; rw [← Ny263.out] at ho; have n0_ := Aside0.mk (blk_grown (g := gb211) (o := .cells #[.int .u64 a1_0, .int .u64 a1_1, .int .u64 a1_2, .string a1_3, .string a1_4, .int .i64 a1_5, .int .i64 a1_6, .int .i64 a1_7, .slice A1_8 l1_8.length c1_8, .slice A1_9 l1_9.length c1_9, .slice A1_10 l1_10.length c1_10] 34 (0, 0)) q9y1 hg (Kd.R_ne HO_5.out BK211.out (by decide))); have n1_ := Aside0.mk (Kd.R_after (ok := (fun _ => True)) q9y4 hg hat); have n2_ := Aside0.mk (hb); have n3_ := Aside0.mk (ho); clear BK211; clear HO262; clear HB; clear HO_5; have BK211 := n0_; have HO262 := n1_; have HB := n2_; have HO265 := n3_; clear n0_ n1_ n2_ n3_; clear ho hb hg hat; have hcz67_0 : w65.cell? ⟨gb211, 0, none⟩ = some (.int .u64 a1_0) := (blk_cell BK211.out 0).trans rfl; have hcz67_1 : w65.cell? ⟨gb211, 1, none⟩ = some (.int .u64 a1_1) := (blk_cell BK211.out 1).trans rfl; have hcz67_2 : w65.cell? ⟨gb211, 2, none⟩ = some (.int .u64 a1_2) := (blk_cell BK211.out 2).trans rfl; have hcz67_3 : w65.cell? ⟨gb211, 3, none⟩ = some (.string a1_3) := (blk_cell BK211.out 3).trans rfl; have hcz67_4 : w65.cell? ⟨gb211, 4, none⟩ = some (.string a1_4) := (blk_cell BK211.out 4).trans rfl; have hcz67_5 : w65.cell? ⟨gb211, 5, none⟩ = some (.int .i64 a1_5) := (blk_cell BK211.out 5).trans rfl; have hcz67_6 : w65.cell? ⟨gb211, 6, none⟩ = some (.int .i64 a1_6) := (blk_cell BK211.out 6).trans rfl; have hcz67_7 : w65.cell? ⟨gb211, 7, none⟩ = some (.int .i64 a1_7) := (blk_cell BK211.out 7).trans rfl; have hcz67_8 : w65.cell? ⟨gb211, 8, none⟩ = some (.slice A1_8 l1_8.length c1_8) := (blk_cell BK211.out 8).trans rfl; have hcz67_9 : w65.cell? ⟨gb211, 9, none⟩ = some (.slice A1_9 l1_9.length c1_9) := (blk_cell BK211.out 9).trans rfl; have hcz67_10 : w65.cell? ⟨gb211, 10, none⟩ = some (.slice A1_10 l1_10.length c1_10) := (blk_cell BK211.out 10).trans rfl; have hfz67_0 := blk_frozen BK211.out 0; have hfz67_1 := blk_frozen BK211.out 1; have hfz67_2 := blk_frozen BK211.out 2; have hfz67_3 := blk_frozen BK211.out 3; have hfz67_4 := blk_frozen BK211.out 4; have hfz67_5 := blk_frozen BK211.out 5; have hfz67_6 := blk_frozen BK211.out 6; have hfz67_7 := blk_frozen BK211.out 7; have hfz67_8 := blk_frozen BK211.out 8; have hfz67_9 := blk_frozen BK211.out 9; have hfz67_10 := blk_frozen BK211.out 10) | ((with_reducible refine gate_callee (f := 11) rfl ?_); refine goesL_ (some 50) rfl rfl Try.func11 (by kernel_rfl) rfl #[.agg #[.int .u64 a1_0, .int .u64 a1_1, .int .u64 a1_2, .string a1_3, .string a1_4, .int .i64 a1_5, .int .i64 a1_6, .int .i64 a1_7, .slice A1_8 l1_8.length c1_8, .slice A1_9 l1_9.length c1_9, .slice A1_10 l1_10.length c1_10]] rfl q9y2 ?_; (with_reducible refine (cambiumref18_Primary.calls kj2 a1_0 a1_1 a1_2 a1_3 a1_4 a1_5 a1_6 a1_7 _ _ l1_8 _ _ l1_9 _ _ l1_10 t266 _ ?side1 ?side2 ?side3 ?side4 ?side5 ?side6 A61.out).mono ?_); (case side1 => repeat (first | exact (Kd.C_below HR1_8.out HB.out) | (with_reducible refine Kd.C_alloc ?_ _) | (with_reducible refine Kd.C_drewN ?_ _) | (with_reducible refine Kd.C_drew ?_))); (case side2 => exact HC1_8.out); (case side3 => repeat (first | exact (Kd.C_below HR1_9.out HB.out) | (with_reducible refine Kd.C_alloc ?_ _) | (with_reducible refine Kd.C_drewN ?_ _) | (with_reducible refine Kd.C_drew ?_))); (case side4 => exact HC1_9.out); (case side5 => repeat (first | exact (Kd.C_below HR1_10.out HB.out) | (with_reducible refine Kd.C_alloc ?_ _) | (with_reducible refine Kd.C_drewN ?_ _) | (with_reducible refine Kd.C_drew ?_))); (case side6 => exact HC1_10.out); rintro e w68 ⟨v267, rfl, ho0, hb⟩; refine ⟨_, rfl, ?_⟩; have n0_ := Aside0.mk (Kd.R_elder' q9y4 (Kd.R_base ho0) hb); have n1_ := Aside0.mk (Kd.R_elder' (by (with_reducible repeat (first | apply Kd.R_alloc | apply Kd.R_drewN | apply Kd.R_drew)); exact HO265.out) (Kd.R_base ho0) hb); have n2_ := Aside0.mk (Kd.R_lower (Kd.R_new' (Kd.R_new' ho0 (Kd.R_lt q9y4)) (Kd.R_lt (by (with_reducible repeat (first | apply Kd.R_alloc | apply Kd.R_drewN | apply Kd.R_drew)); exact HO265.out))) (below_size q9y0)); have n3_ := Aside0.mk (blk_below (g := gb211) (o := .cells #[.int .u64 a1_0, .int .u64 a1_1, .int .u64 a1_2, .string a1_3, .string a1_4, .int .i64 a1_5, .int .i64 a1_6, .int .i64 a1_7, .slice A1_8 l1_8.length c1_8, .slice A1_9 l1_9.length c1_9, .slice A1_10 l1_10.length c1_10] 34 (0, 0)) q9y1 hb); have n4_ := Aside0.mk (below_step q9y0 hb); clear HO262; clear HO265; clear BK211; clear HB; have HO262 := n0_; have HO265 := n1_; have HO268 := n2_; have BK211 := n3_; have HB := n4_; clear n0_ n1_ n2_ n3_ n4_; (try clear hb); (try clear hb2); (try clear hk); (try clear hi); (try clear ho0); obtain ⟨Ao70, co70, eo70⟩ := Kd.R_slice HO268.out; subst eo70) | ((with_reducible refine gate_builtin (b := .append) (xs := #[.tmp 48, .tmp 50]) rfl ?_); at_builtin; refine Kd.R_append_rows (Kd.int .u8) (w0 := w) w.heap.size rfl (.tmp 48) (.tmp 50) 22 5 (.int .u8 0) 1 rfl Try.underlying22 info5 rfl (by decide) (by omega) v264 y263 t266 _ _ _ (fun k_ => some k_ ≠ (.slice Ao66 t260.length co66 : Value).ownBlock ∧ some k_ ≠ (.slice Ao70 t266.length co70 : Value).ownBlock) (fun _ => False) rfl rfl ?aO ?aR (fun _ _ h => h) (fun _ h => h.elim) ?aF ?aB ?aS ?aL ?_; (case aR => repeat (first | exact (Kd.R_reads' HO268.out).2.2 | (with_reducible refine Kd.C_alloc ?_ _) | (with_reducible refine Kd.C_drewN ?_ _) | (with_reducible refine Kd.C_drew ?_))); (case aB => exact q9y0); (case aF => exact (fun k_ hk => ⟨Kd.fresh' (Kd.R_lt q9y4) k_ hk, Kd.fresh' (Kd.R_lt (by (with_reducible repeat (first | apply Kd.R_alloc | apply Kd.R_drewN | apply Kd.R_drew)); exact HO268.out)) k_ hk⟩)); (case aO => exact (by (with_reducible repeat (first | apply Kd.R_alloc | apply Kd.R_drewN | apply Kd.R_drew)); exact HO265.out)); (case aS => exact (below_size q9y0)); (case aL => have := LMc62.out; omega); intro v270 w69 ho hb hg hat; rw [← Ny269.out] at ho; have n0_ := Aside0.mk (blk_grown (g := gb211) (o := .cells #[.int .u64 a1_0, .int .u64 a1_1, .int .u64 a1_2, .string a1_3, .string a1_4, .int .i64 a1_5, .int .i64 a1_6, .int .i64 a1_7, .slice A1_8 l1_8.length c1_8, .slice A1_9 l1_9.length c1_9, .slice A1_10 l1_10.length c1_10] 34 (0, 0)) q9y1 hg (Kd.R_ne HO265.out BK211.out (by decide))); have n1_ := Aside0.mk (Kd.R_after (ok := (fun k_ => some k_ ≠ (.slice Ao70 t266.length co70 : Value).ownBlock)) (by (with_reducible repeat (first | apply Kd.R_alloc | apply Kd.R_drewN | apply Kd.R_drew)); exact Kd.R_mono HO262.out (fun _ hk => ⟨hk.2, hk.1.2⟩)) hg hat); have n2_ := Aside0.mk (Kd.R_after (ok := (fun k_ => some k_ ≠ (.slice Ao66 t260.length co66 : Value).ownBlock)) (by (with_reducible repeat (first | apply Kd.R_alloc | apply Kd.R_drewN | apply Kd.R_drew)); exact Kd.R_mono HO268.out (fun _ hk => ⟨hk.1.2, hk.2⟩)) hg hat); have n3_ := Aside0.mk (hb); have n4_ := Aside0.mk (ho); clear BK211; clear HO262; clear HO268; clear HB; clear HO265; have BK211 := n0_; have HO262 := n1_; have HO268 := n2_; have HB := n3_; have HO271 := n4_; clear n0_ n1_ n2_ n3_ n4_; clear ho hb hg hat))
    go_ret
    exact ⟨_, by first | rfl | (simp [errW_none, errW_some] <;> rfl) | (simp [*, errW_none, errW_some] <;> rfl), by (with_reducible repeat (first | apply Kd.R_alloc | apply Kd.R_drewN | apply Kd.R_drew)); exact Kd.R_mono HO271.out (fun _ hk => trivial), by repeat (first | (with_reducible first | exact HB.out | apply below_alloc | apply pw_below_drewN | apply below_drew1 | refine below_set ?_ GE211.out) | exact HB.out)⟩
   subst c6
   have H1 : (if ([] : List Int).length + a1_3.size < 140737488355328 then ((some (([] : List Int) ++ bytesOf a1_3 : List Int)).bind fun y212 => (if y212.length < 140737488355328 then ((some (y212 ++ [0] : List Int)).bind fun y215 => (if a0 = 2 then (if y215.length + a1_4.size < 140737488355328 then ((some (y215 ++ bytesOf a1_4 : List Int)).bind fun y218 => (if y218.length < 140737488355328 then ((some (y218 ++ [0] : List Int)).bind fun y221 => ((cambiumref01_Key.f kj2 (IntKind.u64.wrap (a1_5))).bind fun t224 => (if y221.length + t224.length < 140737488355328 then ((some (y221 ++ t224 : List Int)).bind fun y227 => ((cambiumref18_Primary.f kj2 a1_0 a1_1 a1_2 a1_3 a1_4 a1_5 a1_6 a1_7 l1_8 l1_9 l1_10).bind fun t230 => (if y227.length + t230.length < 140737488355328 then (some (y227 ++ t230)) else (none)))) else (none)))) else (none))) else (none)) else ((cambiumref01_Key.f kj2 (IntKind.u64.wrap (a1_5))).bind fun t236 => (if y215.length + t236.length < 140737488355328 then ((some (y215 ++ t236 : List Int)).bind fun y239 => ((cambiumref18_Primary.f kj2 a1_0 a1_1 a1_2 a1_3 a1_4 a1_5 a1_6 a1_7 l1_8 l1_9 l1_10).bind fun t242 => (if y239.length + t242.length < 140737488355328 then (some (y239 ++ t242)) else (none)))) else (none))))) else (none))) else (none)) = some r := by rw [if_pos rfl] at H; exact H
   clear H
   have H := H1
   clear H1
   by_cases c7 : ([] : List Int).length + a1_3.size < 140737488355328
   rotate_left
   ·rw [if_neg c7] at H
    exact absurd H (by simp)
   rw [if_pos c7] at H
   have LMc7 := Aside0.mk c7
   clear c7
   obtain ⟨y212, hy212⟩ : ∃ y_ : List Int, y_ = (([] : List Int) ++ bytesOf a1_3) := ⟨_, rfl⟩
   replace H : (if y212.length < 140737488355328 then ((some (y212 ++ [0] : List Int)).bind fun y215 => (if a0 = 2 then (if y215.length + a1_4.size < 140737488355328 then ((some (y215 ++ bytesOf a1_4 : List Int)).bind fun y218 => (if y218.length < 140737488355328 then ((some (y218 ++ [0] : List Int)).bind fun y221 => ((cambiumref01_Key.f kj2 (IntKind.u64.wrap (a1_5))).bind fun t224 => (if y221.length + t224.length < 140737488355328 then ((some (y221 ++ t224 : List Int)).bind fun y227 => ((cambiumref18_Primary.f kj2 a1_0 a1_1 a1_2 a1_3 a1_4 a1_5 a1_6 a1_7 l1_8 l1_9 l1_10).bind fun t230 => (if y227.length + t230.length < 140737488355328 then (some (y227 ++ t230)) else (none)))) else (none)))) else (none))) else (none)) else ((cambiumref01_Key.f kj2 (IntKind.u64.wrap (a1_5))).bind fun t236 => (if y215.length + t236.length < 140737488355328 then ((some (y215 ++ t236 : List Int)).bind fun y239 => ((cambiumref18_Primary.f kj2 a1_0 a1_1 a1_2 a1_3 a1_4 a1_5 a1_6 a1_7 l1_8 l1_9 l1_10).bind fun t242 => (if y239.length + t242.length < 140737488355328 then (some (y239 ++ t242)) else (none)))) else (none))))) else (none)) = some r := by first | (rw [hy212]; with_reducible exact H) | (have H2_ := (Option.bind_some _ _).symm.trans H; rw [hy212]; with_reducible exact H2_) | (have H2_ := (Option.bind_some _ _).symm.trans H; with_reducible exact H2_) | with_reducible exact H | (rw [hy212]; exact H) | exact H
   have Ny212 := Aside0.mk hy212
   clear hy212
   by_cases c8 : y212.length < 140737488355328
   rotate_left
   ·rw [if_neg c8] at H
    exact absurd H (by simp)
   rw [if_pos c8] at H
   have LMc8 := Aside0.mk c8
   clear c8
   obtain ⟨y215, hy215⟩ : ∃ y_ : List Int, y_ = (y212 ++ [0]) := ⟨_, rfl⟩
   replace H : (if a0 = 2 then (if y215.length + a1_4.size < 140737488355328 then ((some (y215 ++ bytesOf a1_4 : List Int)).bind fun y218 => (if y218.length < 140737488355328 then ((some (y218 ++ [0] : List Int)).bind fun y221 => ((cambiumref01_Key.f kj2 (IntKind.u64.wrap (a1_5))).bind fun t224 => (if y221.length + t224.length < 140737488355328 then ((some (y221 ++ t224 : List Int)).bind fun y227 => ((cambiumref18_Primary.f kj2 a1_0 a1_1 a1_2 a1_3 a1_4 a1_5 a1_6 a1_7 l1_8 l1_9 l1_10).bind fun t230 => (if y227.length + t230.length < 140737488355328 then (some (y227 ++ t230)) else (none)))) else (none)))) else (none))) else (none)) else ((cambiumref01_Key.f kj2 (IntKind.u64.wrap (a1_5))).bind fun t236 => (if y215.length + t236.length < 140737488355328 then ((some (y215 ++ t236 : List Int)).bind fun y239 => ((cambiumref18_Primary.f kj2 a1_0 a1_1 a1_2 a1_3 a1_4 a1_5 a1_6 a1_7 l1_8 l1_9 l1_10).bind fun t242 => (if y239.length + t242.length < 140737488355328 then (some (y239 ++ t242)) else (none)))) else (none)))) = some r := by first | (rw [hy215]; with_reducible exact H) | (have H2_ := (Option.bind_some _ _).symm.trans H; rw [hy215]; with_reducible exact H2_) | (have H2_ := (Option.bind_some _ _).symm.trans H; with_reducible exact H2_) | with_reducible exact H | (rw [hy215]; exact H) | exact H
   have Ny215 := Aside0.mk hy215
   clear hy215
   by_cases c9 : a0 = 2
   rotate_left
   ·rw [if_neg c9] at H
    have c9b0 : (a0 == 2) = false := beq_eq_false_iff_ne.mpr c9
    have c9b1 : (a0 != 2) = true := bne_iff_ne.mpr c9
    replace H := Option.bind_eq_some_iff.mp H
    obtain ⟨t236, A300, H⟩ := H
    replace H : (if y215.length + t236.length < 140737488355328 then ((some (y215 ++ t236 : List Int)).bind fun y239 => ((cambiumref18_Primary.f kj2 a1_0 a1_1 a1_2 a1_3 a1_4 a1_5 a1_6 a1_7 l1_8 l1_9 l1_10).bind fun t242 => (if y239.length + t242.length < 140737488355328 then (some (y239 ++ t242)) else (none)))) else (none)) = some r := H
    have A30 := Aside0.mk A300
    clear A300
    by_cases c31 : y215.length + t236.length < 140737488355328
    rotate_left
    ·rw [if_neg c31] at H
     exact absurd H (by simp)
    rw [if_pos c31] at H
    have LMc31 := Aside0.mk c31
    clear c31
    obtain ⟨y239, hy239⟩ : ∃ y_ : List Int, y_ = (y215 ++ t236) := ⟨_, rfl⟩
    replace H : ((cambiumref18_Primary.f kj2 a1_0 a1_1 a1_2 a1_3 a1_4 a1_5 a1_6 a1_7 l1_8 l1_9 l1_10).bind fun t242 => (if y239.length + t242.length < 140737488355328 then (some (y239 ++ t242)) else (none))) = some r := by first | (rw [hy239]; with_reducible exact H) | (have H2_ := (Option.bind_some _ _).symm.trans H; rw [hy239]; with_reducible exact H2_) | (have H2_ := (Option.bind_some _ _).symm.trans H; with_reducible exact H2_) | with_reducible exact H | (rw [hy239]; exact H) | exact H
    have Ny239 := Aside0.mk hy239
    clear hy239
    replace H := Option.bind_eq_some_iff.mp H
    obtain ⟨t242, A320, H⟩ := H
    replace H : (if y239.length + t242.length < 140737488355328 then (some (y239 ++ t242)) else (none)) = some r := H
    have A32 := Aside0.mk A320
    clear A320
    by_cases c33 : y239.length + t242.length < 140737488355328
    rotate_left
    ·rw [if_neg c33] at H
     exact absurd H (by simp)
    rw [if_pos c33] at H
    have LMc33 := Aside0.mk c33
    clear c33
    obtain ⟨y245, hy245⟩ : ∃ y_ : List Int, y_ = (y239 ++ t242) := ⟨_, rfl⟩
    replace H : (some y245) = some r := by first | (rw [hy245]; with_reducible exact H) | (have H2_ := (Option.bind_some _ _).symm.trans H; rw [hy245]; with_reducible exact H2_) | (have H2_ := (Option.bind_some _ _).symm.trans H; with_reducible exact H2_) | with_reducible exact H | (rw [hy245]; exact H) | exact H
    have Ny245 := Aside0.mk hy245
    clear hy245
    obtain rfl := Option.some.inj H
    have hcz34_0 : wc.cell? ⟨gb211, 0, none⟩ = some (.int .u64 a1_0) := (blk_cell BK211.out 0).trans rfl
    have hcz34_1 : wc.cell? ⟨gb211, 1, none⟩ = some (.int .u64 a1_1) := (blk_cell BK211.out 1).trans rfl
    have hcz34_2 : wc.cell? ⟨gb211, 2, none⟩ = some (.int .u64 a1_2) := (blk_cell BK211.out 2).trans rfl
    have hcz34_3 : wc.cell? ⟨gb211, 3, none⟩ = some (.string a1_3) := (blk_cell BK211.out 3).trans rfl
    have hcz34_4 : wc.cell? ⟨gb211, 4, none⟩ = some (.string a1_4) := (blk_cell BK211.out 4).trans rfl
    have hcz34_5 : wc.cell? ⟨gb211, 5, none⟩ = some (.int .i64 a1_5) := (blk_cell BK211.out 5).trans rfl
    have hcz34_6 : wc.cell? ⟨gb211, 6, none⟩ = some (.int .i64 a1_6) := (blk_cell BK211.out 6).trans rfl
    have hcz34_7 : wc.cell? ⟨gb211, 7, none⟩ = some (.int .i64 a1_7) := (blk_cell BK211.out 7).trans rfl
    have hcz34_8 : wc.cell? ⟨gb211, 8, none⟩ = some (.slice A1_8 l1_8.length c1_8) := (blk_cell BK211.out 8).trans rfl
    have hcz34_9 : wc.cell? ⟨gb211, 9, none⟩ = some (.slice A1_9 l1_9.length c1_9) := (blk_cell BK211.out 9).trans rfl
    have hcz34_10 : wc.cell? ⟨gb211, 10, none⟩ = some (.slice A1_10 l1_10.length c1_10) := (blk_cell BK211.out 10).trans rfl
    have hfz34_0 := blk_frozen BK211.out 0
    have hfz34_1 := blk_frozen BK211.out 1
    have hfz34_2 := blk_frozen BK211.out 2
    have hfz34_3 := blk_frozen BK211.out 3
    have hfz34_4 := blk_frozen BK211.out 4
    have hfz34_5 := blk_frozen BK211.out 5
    have hfz34_6 := blk_frozen BK211.out 6
    have hfz34_7 := blk_frozen BK211.out 7
    have hfz34_8 := blk_frozen BK211.out 8
    have hfz34_9 := blk_frozen BK211.out 9
    have hfz34_10 := blk_frozen BK211.out 10
    go_wp2_with (first | (at_builtin; refine print_append_str (w0 := w) w.heap.size rfl (.tmp 12) _ 22 9 5 rfl Try.underlying22 Try.underlying9 info5 (.slice none 0 0) ([] : List Int) a1_3 rfl rfl ?aO ?aB ?aS ?aL ?_; (case aB => exact q9y0); (case aO => exact (Kd.own_of_R q9y3)); (case aS => exact (below_size q9y0)); (case aL => have := LMc7.out; omega); intro v213 w35 ho0 hb hg; have ho := Kd.R_of_own (h1 := fun _ => rfl) (ok := fun _ => True) ho0 (fun _ _ => trivial); clear ho0; have hat := True.intro; rw [← Ny212.out] at ho; change Kd.R (Kd.int .u8) 5 w35 w.heap.size (fun _ => True) v213 y212 at ho; have n0_ := Aside0.mk (blk_grown (g := gb211) (o := .cells #[.int .u64 a1_0, .int .u64 a1_1, .int .u64 a1_2, .string a1_3, .string a1_4, .int .i64 a1_5, .int .i64 a1_6, .int .i64 a1_7, .slice A1_8 l1_8.length c1_8, .slice A1_9 l1_9.length c1_9, .slice A1_10 l1_10.length c1_10] 34 (0, 0)) q9y1 hg (Kd.R_ne HO_5.out BK211.out (by decide))); have n1_ := Aside0.mk (hb); have n2_ := Aside0.mk (ho); clear BK211; clear HB; clear HO_5; have BK211 := n0_; have HB := n1_; have HO214 := n2_; clear n0_ n1_ n2_; clear ho hb hg hat) | ((with_reducible refine gate_builtin (b := .append) (xs := #[.tmp 15, .tmp 16]) rfl ?_); at_builtin; refine Kd.R_append (Kd.int .u8) (w0 := w) w.heap.size rfl (.tmp 15) (.tmp 16) 22 5 (.int .u8 0) 1 rfl Try.underlying22 info5 rfl (by decide) (by omega) v213 y212 0 [.int .u8 0] (fun _ => True) (fun _ => False) rfl rfl ?aP (fun _ hk => hk.elim) ?aF ?aO ?aB ?aS ?aL ?_; (case aP => exact rfl); (case aB => exact q9y0); (case aF => exact (fun _ _ => trivial)); (case aO => exact (by (with_reducible repeat (first | apply Kd.R_alloc | apply Kd.R_drewN | apply Kd.R_drew)); exact HO214.out)); (case aS => exact (below_size q9y0)); (case aL => have := LMc8.out; omega); intro v216 w36 ho hb hg hat; rw [← Ny215.out] at ho; have n0_ := Aside0.mk (blk_grown (g := gb211) (o := .cells #[.int .u64 a1_0, .int .u64 a1_1, .int .u64 a1_2, .string a1_3, .string a1_4, .int .i64 a1_5, .int .i64 a1_6, .int .i64 a1_7, .slice A1_8 l1_8.length c1_8, .slice A1_9 l1_9.length c1_9, .slice A1_10 l1_10.length c1_10] 34 (0, 0)) q9y1 hg (Kd.R_ne HO214.out BK211.out (by decide))); have n1_ := Aside0.mk (hb); have n2_ := Aside0.mk (ho); clear BK211; clear HB; clear HO214; have BK211 := n0_; have HB := n1_; have HO217 := n2_; clear n0_ n1_ n2_; clear ho hb hg hat; have hcz37_0 : w36.cell? ⟨gb211, 0, none⟩ = some (.int .u64 a1_0) := (blk_cell BK211.out 0).trans rfl; have hcz37_1 : w36.cell? ⟨gb211, 1, none⟩ = some (.int .u64 a1_1) := (blk_cell BK211.out 1).trans rfl; have hcz37_2 : w36.cell? ⟨gb211, 2, none⟩ = some (.int .u64 a1_2) := (blk_cell BK211.out 2).trans rfl; have hcz37_3 : w36.cell? ⟨gb211, 3, none⟩ = some (.string a1_3) := (blk_cell BK211.out 3).trans rfl; have hcz37_4 : w36.cell? ⟨gb211, 4, none⟩ = some (.string a1_4) := (blk_cell BK211.out 4).trans rfl; have hcz37_5 : w36.cell? ⟨gb211, 5, none⟩ = some (.int .i64 a1_5) := (blk_cell BK211.out 5).trans rfl; have hcz37_6 : w36.cell? ⟨gb211, 6, none⟩ = some (.int .i64 a1_6) := (blk_cell BK211.out 6).trans rfl; have hcz37_7 : w36.cell? ⟨gb211, 7, none⟩ = some (.int .i64 a1_7) := (blk_cell BK211.out 7).trans rfl; have hcz37_8 : w36.cell? ⟨gb211, 8, none⟩ = some (.slice A1_8 l1_8.length c1_8) := (blk_cell BK211.out 8).trans rfl; have hcz37_9 : w36.cell? ⟨gb211, 9, none⟩ = some (.slice A1_9 l1_9.length c1_9) := (blk_cell BK211.out 9).trans rfl; have hcz37_10 : w36.cell? ⟨gb211, 10, none⟩ = some (.slice A1_10 l1_10.length c1_10) := (blk_cell BK211.out 10).trans rfl; have hfz37_0 := blk_frozen BK211.out 0; have hfz37_1 := blk_frozen BK211.out 1; have hfz37_2 := blk_frozen BK211.out 2; have hfz37_3 := blk_frozen BK211.out 3; have hfz37_4 := blk_frozen BK211.out 4; have hfz37_5 := blk_frozen BK211.out 5; have hfz37_6 := blk_frozen BK211.out 6; have hfz37_7 := blk_frozen BK211.out 7; have hfz37_8 := blk_frozen BK211.out 8; have hfz37_9 := blk_frozen BK211.out 9; have hfz37_10 := blk_frozen BK211.out 10) | ((with_reducible refine gate_callee (f := 26) rfl ?_); refine goesL_ (some 30) rfl rfl Try.func26 (by kernel_rfl) rfl #[.int .u64 (IntKind.u64.wrap (a1_5))] rfl q9y2 ?_; (with_reducible refine (cambiumref01_Key.calls kj2 (IntKind.u64.wrap (a1_5)) t236 _ A30.out).mono ?_); rintro e w38 ⟨v237, rfl, ho0, hb⟩; refine ⟨_, rfl, ?_⟩; have n0_ := Aside0.mk (Kd.R_elder' (by (with_reducible repeat (first | apply Kd.R_alloc | apply Kd.R_drewN | apply Kd.R_drew)); exact HO217.out) (Kd.R_base ho0) hb); have n1_ := Aside0.mk (Kd.R_lower (Kd.R_new' ho0 (Kd.R_lt (by (with_reducible repeat (first | apply Kd.R_alloc | apply Kd.R_drewN | apply Kd.R_drew)); exact HO217.out))) (below_size q9y0)); have n2_ := Aside0.mk (blk_below (g := gb211) (o := .cells #[.int .u64 a1_0, .int .u64 a1_1, .int .u64 a1_2, .string a1_3, .string a1_4, .int .i64 a1_5, .int .i64 a1_6, .int .i64 a1_7, .slice A1_8 l1_8.length c1_8, .slice A1_9 l1_9.length c1_9, .slice A1_10 l1_10.length c1_10] 34 (0, 0)) q9y1 hb); have n3_ := Aside0.mk (below_step q9y0 hb); clear HO217; clear BK211; clear HB; have HO217 := n0_; have HO238 := n1_; have BK211 := n2_; have HB := n3_; clear n0_ n1_ n2_ n3_; (try clear hb); (try clear hb2); (try clear hk); (try clear hi); (try clear ho0); obtain ⟨Ao40, co40, eo40⟩ := Kd.R_slice HO238.out; subst eo40) | ((with_reducible refine gate_builtin (b := .append) (xs := #[.tmp 26, .tmp 30]) rfl ?_); at_builtin; refine Kd.R_append_rows (Kd.int .u8) (w0 := w) w.heap.size rfl (.tmp 26) (.tmp 30) 22 5 (.int .u8 0) 1 rfl Try.underlying22 info5 rfl (by decide) (by omega) v216 y215 t236 _ _ _ (fun k_ => some k_ ≠ (.slice Ao40 t236.length co40 : Value).ownBlock) (fun _ => False) rfl rfl ?aO ?aR (fun _ _ h => h) (fun _ h => h.elim) ?aF ?aB ?aS ?aL ?_; (case aR => repeat (first | exact (Kd.R_reads' HO238.out).2.2 | (with_reducible refine Kd.C_alloc ?_ _) | (with_reducible refine Kd.C_drewN ?_ _) | (with_reducible refine Kd.C_drew ?_))); (case aB => exact q9y0); (case aF => exact (fun k_ hk => Kd.fresh' (Kd.R_lt q9y6) k_ hk)); (case aO => exact (by (with_reducible repeat (first | apply Kd.R_alloc | apply Kd.R_drewN | apply Kd.R_drew)); exact Kd.R_mono HO217.out (fun _ hk => hk.2))); (case aS => exact (below_size q9y0)); (case aL => have := LMc31.out; omega); intro v240 w39 ho hb hg hat; rw [← Ny239.out] at ho; have n0_ := Aside0.mk (blk_grown (g := gb211) (o := .cells #[.int .u64 a1_0, .int .u64 a1_1, .int .u64 a1_2, .string a1_3, .string a1_4, .int .i64 a1_5, .int .i64 a1_6, .int .i64 a1_7, .slice A1_8 l1_8.length c1_8, .slice A1_9 l1_9.length c1_9, .slice A1_10 l1_10.length c1_10] 34 (0, 0)) q9y1 hg (Kd.R_ne HO217.out BK211.out (by decide))); have n1_ := Aside0.mk (Kd.R_after (ok := (fun _ => True)) q9y6 hg hat); have n2_ := Aside0.mk (hb); have n3_ := Aside0.mk (ho); clear BK211; clear HO238; clear HB; clear HO217; have BK211 := n0_; have HO238 := n1_; have HB := n2_; have HO241 := n3_; clear n0_ n1_ n2_ n3_; clear ho hb hg hat; have hcz41_0 : w39.cell? ⟨gb211, 0, none⟩ = some (.int .u64 a1_0) := (blk_cell BK211.out 0).trans rfl; have hcz41_1 : w39.cell? ⟨gb211, 1, none⟩ = some (.int .u64 a1_1) := (blk_cell BK211.out 1).trans rfl; have hcz41_2 : w39.cell? ⟨gb211, 2, none⟩ = some (.int .u64 a1_2) := (blk_cell BK211.out 2).trans rfl; have hcz41_3 : w39.cell? ⟨gb211, 3, none⟩ = some (.string a1_3) := (blk_cell BK211.out 3).trans rfl; have hcz41_4 : w39.cell? ⟨gb211, 4, none⟩ = some (.string a1_4) := (blk_cell BK211.out 4).trans rfl; have hcz41_5 : w39.cell? ⟨gb211, 5, none⟩ = some (.int .i64 a1_5) := (blk_cell BK211.out 5).trans rfl; have hcz41_6 : w39.cell? ⟨gb211, 6, none⟩ = some (.int .i64 a1_6) := (blk_cell BK211.out 6).trans rfl; have hcz41_7 : w39.cell? ⟨gb211, 7, none⟩ = some (.int .i64 a1_7) := (blk_cell BK211.out 7).trans rfl; have hcz41_8 : w39.cell? ⟨gb211, 8, none⟩ = some (.slice A1_8 l1_8.length c1_8) := (blk_cell BK211.out 8).trans rfl; have hcz41_9 : w39.cell? ⟨gb211, 9, none⟩ = some (.slice A1_9 l1_9.length c1_9) := (blk_cell BK211.out 9).trans rfl; have hcz41_10 : w39.cell? ⟨gb211, 10, none⟩ = some (.slice A1_10 l1_10.length c1_10) := (blk_cell BK211.out 10).trans rfl; have hfz41_0 := blk_frozen BK211.out 0; have hfz41_1 := blk_frozen BK211.out 1; have hfz41_2 := blk_frozen BK211.out 2; have hfz41_3 := blk_frozen BK211.out 3; have hfz41_4 := blk_frozen BK211.out 4; have hfz41_5 := blk_frozen BK211.out 5; have hfz41_6 := blk_frozen BK211.out 6; have hfz41_7 := blk_frozen BK211.out 7; have hfz41_8 := blk_frozen BK211.out 8; have hfz41_9 := blk_frozen BK211.out 9; have hfz41_10 := blk_frozen BK211.out 10) | ((with_reducible refine gate_callee (f := 11) rfl ?_); refine goesL_ (some 50) rfl rfl Try.func11 (by kernel_rfl) rfl #[.agg #[.int .u64 a1_0, .int .u64 a1_1, .int .u64 a1_2, .string a1_3, .string a1_4, .int .i64 a1_5, .int .i64 a1_6, .int .i64 a1_7, .slice A1_8 l1_8.length c1_8, .slice A1_9 l1_9.length c1_9, .slice A1_10 l1_10.length c1_10]] rfl q9y2 ?_; (with_reducible refine (cambiumref18_Primary.calls kj2 a1_0 a1_1 a1_2 a1_3 a1_4 a1_5 a1_6 a1_7 _ _ l1_8 _ _ l1_9 _ _ l1_10 t242 _ ?side1 ?side2 ?side3 ?side4 ?side5 ?side6 A32.out).mono ?_); (case side1 => repeat (first | exact (Kd.C_below HR1_8.out HB.out) | (with_reducible refine Kd.C_alloc ?_ _) | (with_reducible refine Kd.C_drewN ?_ _) | (with_reducible refine Kd.C_drew ?_))); (case side2 => exact HC1_8.out); (case side3 => repeat (first | exact (Kd.C_below HR1_9.out HB.out) | (with_reducible refine Kd.C_alloc ?_ _) | (with_reducible refine Kd.C_drewN ?_ _) | (with_reducible refine Kd.C_drew ?_))); (case side4 => exact HC1_9.out); (case side5 => repeat (first | exact (Kd.C_below HR1_10.out HB.out) | (with_reducible refine Kd.C_alloc ?_ _) | (with_reducible refine Kd.C_drewN ?_ _) | (with_reducible refine Kd.C_drew ?_))); (case side6 => exact HC1_10.out); rintro e w42 ⟨v243, rfl, ho0, hb⟩; refine ⟨_, rfl, ?_⟩; have n0_ := Aside0.mk (Kd.R_elder' q9y6 (Kd.R_base ho0) hb); have n1_ := Aside0.mk (Kd.R_elder' (by (with_reducible repeat (first | apply Kd.R_alloc | apply Kd.R_drewN | apply Kd.R_drew)); exact HO241.out) (Kd.R_base ho0) hb); have n2_ := Aside0.mk (Kd.R_lower (Kd.R_new' (Kd.R_new' ho0 (Kd.R_lt q9y6)) (Kd.R_lt (by (with_reducible repeat (first | apply Kd.R_alloc | apply Kd.R_drewN | apply Kd.R_drew)); exact HO241.out))) (below_size q9y0)); have n3_ := Aside0.mk (blk_below (g := gb211) (o := .cells #[.int .u64 a1_0, .int .u64 a1_1, .int .u64 a1_2, .string a1_3, .string a1_4, .int .i64 a1_5, .int .i64 a1_6, .int .i64 a1_7, .slice A1_8 l1_8.length c1_8, .slice A1_9 l1_9.length c1_9, .slice A1_10 l1_10.length c1_10] 34 (0, 0)) q9y1 hb); have n4_ := Aside0.mk (below_step q9y0 hb); clear HO238; clear HO241; clear BK211; clear HB; have HO238 := n0_; have HO241 := n1_; have HO244 := n2_; have BK211 := n3_; have HB := n4_; clear n0_ n1_ n2_ n3_ n4_; (try clear hb); (try clear hb2); (try clear hk); (try clear hi); (try clear ho0); obtain ⟨Ao44, co44, eo44⟩ := Kd.R_slice HO244.out; subst eo44) | ((with_reducible refine gate_builtin (b := .append) (xs := #[.tmp 48, .tmp 50]) rfl ?_); at_builtin; refine Kd.R_append_rows (Kd.int .u8) (w0 := w) w.heap.size rfl (.tmp 48) (.tmp 50) 22 5 (.int .u8 0) 1 rfl Try.underlying22 info5 rfl (by decide) (by omega) v240 y239 t242 _ _ _ (fun k_ => some k_ ≠ (.slice Ao40 t236.length co40 : Value).ownBlock ∧ some k_ ≠ (.slice Ao44 t242.length co44 : Value).ownBlock) (fun _ => False) rfl rfl ?aO ?aR (fun _ _ h => h) (fun _ h => h.elim) ?aF ?aB ?aS ?aL ?_; (case aR => repeat (first | exact (Kd.R_reads' HO244.out).2.2 | (with_reducible refine Kd.C_alloc ?_ _) | (with_reducible refine Kd.C_drewN ?_ _) | (with_reducible refine Kd.C_drew ?_))); (case aB => exact q9y0); (case aF => exact (fun k_ hk => ⟨Kd.fresh' (Kd.R_lt q9y6) k_ hk, Kd.fresh' (Kd.R_lt (by (with_reducible repeat (first | apply Kd.R_alloc | apply Kd.R_drewN | apply Kd.R_drew)); exact HO244.out)) k_ hk⟩)); (case aO => exact (by (with_reducible repeat (first | apply Kd.R_alloc | apply Kd.R_drewN | apply Kd.R_drew)); exact HO241.out)); (case aS => exact (below_size q9y0)); (case aL => have := LMc33.out; omega); intro v246 w43 ho hb hg hat; rw [← Ny245.out] at ho; have n0_ := Aside0.mk (blk_grown (g := gb211) (o := .cells #[.int .u64 a1_0, .int .u64 a1_1, .int .u64 a1_2, .string a1_3, .string a1_4, .int .i64 a1_5, .int .i64 a1_6, .int .i64 a1_7, .slice A1_8 l1_8.length c1_8, .slice A1_9 l1_9.length c1_9, .slice A1_10 l1_10.length c1_10] 34 (0, 0)) q9y1 hg (Kd.R_ne HO241.out BK211.out (by decide))); have n1_ := Aside0.mk (Kd.R_after (ok := (fun k_ => some k_ ≠ (.slice Ao44 t242.length co44 : Value).ownBlock)) (by (with_reducible repeat (first | apply Kd.R_alloc | apply Kd.R_drewN | apply Kd.R_drew)); exact Kd.R_mono HO238.out (fun _ hk => ⟨hk.2, hk.1.2⟩)) hg hat); have n2_ := Aside0.mk (Kd.R_after (ok := (fun k_ => some k_ ≠ (.slice Ao40 t236.length co40 : Value).ownBlock)) (by (with_reducible repeat (first | apply Kd.R_alloc | apply Kd.R_drewN | apply Kd.R_drew)); exact Kd.R_mono HO244.out (fun _ hk => ⟨hk.1.2, hk.2⟩)) hg hat); have n3_ := Aside0.mk (hb); have n4_ := Aside0.mk (ho); clear BK211; clear HO238; clear HO244; clear HB; clear HO241; have BK211 := n0_; have HO238 := n1_; have HO244 := n2_; have HB := n3_; have HO247 := n4_; clear n0_ n1_ n2_ n3_ n4_; clear ho hb hg hat))
    go_ret
    exact ⟨_, by first | rfl | (simp [errW_none, errW_some] <;> rfl) | (simp [*, errW_none, errW_some] <;> rfl), by (with_reducible repeat (first | apply Kd.R_alloc | apply Kd.R_drewN | apply Kd.R_drew)); exact Kd.R_mono HO247.out (fun _ hk => trivial), by repeat (first | (with_reducible first | exact HB.out | apply below_alloc | apply pw_below_drewN | apply below_drew1 | refine below_set ?_ GE211.out) | exact HB.out)⟩
   rw [if_pos c9] at H
   have c9b0 : (a0 == 2) = true := beq_iff_eq.mpr c9
   have c9b1 : (a0 != 2) = false := bne_eq_false_iff_eq.mpr c9
   clear c9
   by_cases c10 : y215.length + a1_4.size < 140737488355328
   rotate_left
   ·rw [if_neg c10] at H
    exact absurd H (by simp)
   rw [if_pos c10] at H
   have LMc10 := Aside0.mk c10
   clear c10
   obtain ⟨y218, hy218⟩ : ∃ y_ : List Int, y_ = (y215 ++ bytesOf a1_4) := ⟨_, rfl⟩
   replace H : (if y218.length < 140737488355328 then ((some (y218 ++ [0] : List Int)).bind fun y221 => ((cambiumref01_Key.f kj2 (IntKind.u64.wrap (a1_5))).bind fun t224 => (if y221.length + t224.length < 140737488355328 then ((some (y221 ++ t224 : List Int)).bind fun y227 => ((cambiumref18_Primary.f kj2 a1_0 a1_1 a1_2 a1_3 a1_4 a1_5 a1_6 a1_7 l1_8 l1_9 l1_10).bind fun t230 => (if y227.length + t230.length < 140737488355328 then (some (y227 ++ t230)) else (none)))) else (none)))) else (none)) = some r := by first | (rw [hy218]; with_reducible exact H) | (have H2_ := (Option.bind_some _ _).symm.trans H; rw [hy218]; with_reducible exact H2_) | (have H2_ := (Option.bind_some _ _).symm.trans H; with_reducible exact H2_) | with_reducible exact H | (rw [hy218]; exact H) | exact H
   have Ny218 := Aside0.mk hy218
   clear hy218
   by_cases c11 : y218.length < 140737488355328
   rotate_left
   ·rw [if_neg c11] at H
    exact absurd H (by simp)
   rw [if_pos c11] at H
   have LMc11 := Aside0.mk c11
   clear c11
   obtain ⟨y221, hy221⟩ : ∃ y_ : List Int, y_ = (y218 ++ [0]) := ⟨_, rfl⟩
   replace H : ((cambiumref01_Key.f kj2 (IntKind.u64.wrap (a1_5))).bind fun t224 => (if y221.length + t224.length < 140737488355328 then ((some (y221 ++ t224 : List Int)).bind fun y227 => ((cambiumref18_Primary.f kj2 a1_0 a1_1 a1_2 a1_3 a1_4 a1_5 a1_6 a1_7 l1_8 l1_9 l1_10).bind fun t230 => (if y227.length + t230.length < 140737488355328 then (some (y227 ++ t230)) else (none)))) else (none))) = some r := by first | (rw [hy221]; with_reducible exact H) | (have H2_ := (Option.bind_some _ _).symm.trans H; rw [hy221]; with_reducible exact H2_) | (have H2_ := (Option.bind_some _ _).symm.trans H; with_reducible exact H2_) | with_reducible exact H | (rw [hy221]; exact H) | exact H
   have Ny221 := Aside0.mk hy221
   clear hy221
   replace H := Option.bind_eq_some_iff.mp H
   obtain ⟨t224, A120, H⟩ := H
   replace H : (if y221.length + t224.length < 140737488355328 then ((some (y221 ++ t224 : List Int)).bind fun y227 => ((cambiumref18_Primary.f kj2 a1_0 a1_1 a1_2 a1_3 a1_4 a1_5 a1_6 a1_7 l1_8 l1_9 l1_10).bind fun t230 => (if y227.length + t230.length < 140737488355328 then (some (y227 ++ t230)) else (none)))) else (none)) = some r := H
   have A12 := Aside0.mk A120
   clear A120
   by_cases c13 : y221.length + t224.length < 140737488355328
   rotate_left
   ·rw [if_neg c13] at H
    exact absurd H (by simp)
   rw [if_pos c13] at H
   have LMc13 := Aside0.mk c13
   clear c13
   obtain ⟨y227, hy227⟩ : ∃ y_ : List Int, y_ = (y221 ++ t224) := ⟨_, rfl⟩
   replace H : ((cambiumref18_Primary.f kj2 a1_0 a1_1 a1_2 a1_3 a1_4 a1_5 a1_6 a1_7 l1_8 l1_9 l1_10).bind fun t230 => (if y227.length + t230.length < 140737488355328 then (some (y227 ++ t230)) else (none))) = some r := by first | (rw [hy227]; with_reducible exact H) | (have H2_ := (Option.bind_some _ _).symm.trans H; rw [hy227]; with_reducible exact H2_) | (have H2_ := (Option.bind_some _ _).symm.trans H; with_reducible exact H2_) | with_reducible exact H | (rw [hy227]; exact H) | exact H
   have Ny227 := Aside0.mk hy227
   clear hy227
   replace H := Option.bind_eq_some_iff.mp H
   obtain ⟨t230, A140, H⟩ := H
   replace H : (if y227.length + t230.length < 140737488355328 then (some (y227 ++ t230)) else (none)) = some r := H
   have A14 := Aside0.mk A140
   clear A140
   by_cases c15 : y227.length + t230.length < 140737488355328
   rotate_left
   ·rw [if_neg c15] at H
    exact absurd H (by simp)
   rw [if_pos c15] at H
   have LMc15 := Aside0.mk c15
   clear c15
   obtain ⟨y233, hy233⟩ : ∃ y_ : List Int, y_ = (y227 ++ t230) := ⟨_, rfl⟩
   replace H : (some y233) = some r := by first | (rw [hy233]; with_reducible exact H) | (have H2_ := (Option.bind_some _ _).symm.trans H; rw [hy233]; with_reducible exact H2_) | (have H2_ := (Option.bind_some _ _).symm.trans H; with_reducible exact H2_) | with_reducible exact H | (rw [hy233]; exact H) | exact H
   have Ny233 := Aside0.mk hy233
   clear hy233
   obtain rfl := Option.some.inj H
   have hcz16_0 : wc.cell? ⟨gb211, 0, none⟩ = some (.int .u64 a1_0) := (blk_cell BK211.out 0).trans rfl
   have hcz16_1 : wc.cell? ⟨gb211, 1, none⟩ = some (.int .u64 a1_1) := (blk_cell BK211.out 1).trans rfl
   have hcz16_2 : wc.cell? ⟨gb211, 2, none⟩ = some (.int .u64 a1_2) := (blk_cell BK211.out 2).trans rfl
   have hcz16_3 : wc.cell? ⟨gb211, 3, none⟩ = some (.string a1_3) := (blk_cell BK211.out 3).trans rfl
   have hcz16_4 : wc.cell? ⟨gb211, 4, none⟩ = some (.string a1_4) := (blk_cell BK211.out 4).trans rfl
   have hcz16_5 : wc.cell? ⟨gb211, 5, none⟩ = some (.int .i64 a1_5) := (blk_cell BK211.out 5).trans rfl
   have hcz16_6 : wc.cell? ⟨gb211, 6, none⟩ = some (.int .i64 a1_6) := (blk_cell BK211.out 6).trans rfl
   have hcz16_7 : wc.cell? ⟨gb211, 7, none⟩ = some (.int .i64 a1_7) := (blk_cell BK211.out 7).trans rfl
   have hcz16_8 : wc.cell? ⟨gb211, 8, none⟩ = some (.slice A1_8 l1_8.length c1_8) := (blk_cell BK211.out 8).trans rfl
   have hcz16_9 : wc.cell? ⟨gb211, 9, none⟩ = some (.slice A1_9 l1_9.length c1_9) := (blk_cell BK211.out 9).trans rfl
   have hcz16_10 : wc.cell? ⟨gb211, 10, none⟩ = some (.slice A1_10 l1_10.length c1_10) := (blk_cell BK211.out 10).trans rfl
   have hfz16_0 := blk_frozen BK211.out 0
   have hfz16_1 := blk_frozen BK211.out 1
   have hfz16_2 := blk_frozen BK211.out 2
   have hfz16_3 := blk_frozen BK211.out 3
   have hfz16_4 := blk_frozen BK211.out 4
   have hfz16_5 := blk_frozen BK211.out 5
   have hfz16_6 := blk_frozen BK211.out 6
   have hfz16_7 := blk_frozen BK211.out 7
   have hfz16_8 := blk_frozen BK211.out 8
   have hfz16_9 := blk_frozen BK211.out 9
   have hfz16_10 := blk_frozen BK211.out 10
   go_wp2_with (first | (at_builtin; refine print_append_str (w0 := w) w.heap.size rfl (.tmp 12) _ 22 9 5 rfl Try.underlying22 Try.underlying9 info5 (.slice none 0 0) ([] : List Int) a1_3 rfl rfl ?aO ?aB ?aS ?aL ?_; (case aB => exact q9y0); (case aO => exact (Kd.own_of_R q9y3)); (case aS => exact (below_size q9y0)); (case aL => have := LMc7.out; omega); intro v213 w17 ho0 hb hg; have ho := Kd.R_of_own (h1 := fun _ => rfl) (ok := fun _ => True) ho0 (fun _ _ => trivial); clear ho0; have hat := True.intro; rw [← Ny212.out] at ho; change Kd.R (Kd.int .u8) 5 w17 w.heap.size (fun _ => True) v213 y212 at ho; have n0_ := Aside0.mk (blk_grown (g := gb211) (o := .cells #[.int .u64 a1_0, .int .u64 a1_1, .int .u64 a1_2, .string a1_3, .string a1_4, .int .i64 a1_5, .int .i64 a1_6, .int .i64 a1_7, .slice A1_8 l1_8.length c1_8, .slice A1_9 l1_9.length c1_9, .slice A1_10 l1_10.length c1_10] 34 (0, 0)) q9y1 hg (Kd.R_ne HO_5.out BK211.out (by decide))); have n1_ := Aside0.mk (hb); have n2_ := Aside0.mk (ho); clear BK211; clear HB; clear HO_5; have BK211 := n0_; have HB := n1_; have HO214 := n2_; clear n0_ n1_ n2_; clear ho hb hg hat) | ((with_reducible refine gate_builtin (b := .append) (xs := #[.tmp 15, .tmp 16]) rfl ?_); at_builtin; refine Kd.R_append (Kd.int .u8) (w0 := w) w.heap.size rfl (.tmp 15) (.tmp 16) 22 5 (.int .u8 0) 1 rfl Try.underlying22 info5 rfl (by decide) (by omega) v213 y212 0 [.int .u8 0] (fun _ => True) (fun _ => False) rfl rfl ?aP (fun _ hk => hk.elim) ?aF ?aO ?aB ?aS ?aL ?_; (case aP => exact rfl); (case aB => exact q9y0); (case aF => exact (fun _ _ => trivial)); (case aO => exact (by (with_reducible repeat (first | apply Kd.R_alloc | apply Kd.R_drewN | apply Kd.R_drew)); exact HO214.out)); (case aS => exact (below_size q9y0)); (case aL => have := LMc8.out; omega); intro v216 w18 ho hb hg hat; rw [← Ny215.out] at ho; have n0_ := Aside0.mk (blk_grown (g := gb211) (o := .cells #[.int .u64 a1_0, .int .u64 a1_1, .int .u64 a1_2, .string a1_3, .string a1_4, .int .i64 a1_5, .int .i64 a1_6, .int .i64 a1_7, .slice A1_8 l1_8.length c1_8, .slice A1_9 l1_9.length c1_9, .slice A1_10 l1_10.length c1_10] 34 (0, 0)) q9y1 hg (Kd.R_ne HO214.out BK211.out (by decide))); have n1_ := Aside0.mk (hb); have n2_ := Aside0.mk (ho); clear BK211; clear HB; clear HO214; have BK211 := n0_; have HB := n1_; have HO217 := n2_; clear n0_ n1_ n2_; clear ho hb hg hat; have hcz19_0 : w18.cell? ⟨gb211, 0, none⟩ = some (.int .u64 a1_0) := (blk_cell BK211.out 0).trans rfl; have hcz19_1 : w18.cell? ⟨gb211, 1, none⟩ = some (.int .u64 a1_1) := (blk_cell BK211.out 1).trans rfl; have hcz19_2 : w18.cell? ⟨gb211, 2, none⟩ = some (.int .u64 a1_2) := (blk_cell BK211.out 2).trans rfl; have hcz19_3 : w18.cell? ⟨gb211, 3, none⟩ = some (.string a1_3) := (blk_cell BK211.out 3).trans rfl; have hcz19_4 : w18.cell? ⟨gb211, 4, none⟩ = some (.string a1_4) := (blk_cell BK211.out 4).trans rfl; have hcz19_5 : w18.cell? ⟨gb211, 5, none⟩ = some (.int .i64 a1_5) := (blk_cell BK211.out 5).trans rfl; have hcz19_6 : w18.cell? ⟨gb211, 6, none⟩ = some (.int .i64 a1_6) := (blk_cell BK211.out 6).trans rfl; have hcz19_7 : w18.cell? ⟨gb211, 7, none⟩ = some (.int .i64 a1_7) := (blk_cell BK211.out 7).trans rfl; have hcz19_8 : w18.cell? ⟨gb211, 8, none⟩ = some (.slice A1_8 l1_8.length c1_8) := (blk_cell BK211.out 8).trans rfl; have hcz19_9 : w18.cell? ⟨gb211, 9, none⟩ = some (.slice A1_9 l1_9.length c1_9) := (blk_cell BK211.out 9).trans rfl; have hcz19_10 : w18.cell? ⟨gb211, 10, none⟩ = some (.slice A1_10 l1_10.length c1_10) := (blk_cell BK211.out 10).trans rfl; have hfz19_0 := blk_frozen BK211.out 0; have hfz19_1 := blk_frozen BK211.out 1; have hfz19_2 := blk_frozen BK211.out 2; have hfz19_3 := blk_frozen BK211.out 3; have hfz19_4 := blk_frozen BK211.out 4; have hfz19_5 := blk_frozen BK211.out 5; have hfz19_6 := blk_frozen BK211.out 6; have hfz19_7 := blk_frozen BK211.out 7; have hfz19_8 := blk_frozen BK211.out 8; have hfz19_9 := blk_frozen BK211.out 9; have hfz19_10 := blk_frozen BK211.out 10) | (at_builtin; refine print_append_str (w0 := w) w.heap.size rfl (.tmp 20) _ 22 9 5 rfl Try.underlying22 Try.underlying9 info5 v216 y215 a1_4 rfl rfl ?aO ?aB ?aS ?aL ?_; (case aB => exact q9y0); (case aO => exact (Kd.own_of_R (by (with_reducible repeat (first | apply Kd.R_alloc | apply Kd.R_drewN | apply Kd.R_drew)); exact HO217.out))); (case aS => exact (below_size q9y0)); (case aL => have := LMc10.out; omega); intro v219 w20 ho0 hb hg; have ho := Kd.R_of_own (h1 := fun _ => rfl) (ok := fun _ => True) ho0 (fun _ _ => trivial); clear ho0; have hat := True.intro; rw [← Ny218.out] at ho; change Kd.R (Kd.int .u8) 5 w20 w.heap.size (fun _ => True) v219 y218 at ho; have n0_ := Aside0.mk (blk_grown (g := gb211) (o := .cells #[.int .u64 a1_0, .int .u64 a1_1, .int .u64 a1_2, .string a1_3, .string a1_4, .int .i64 a1_5, .int .i64 a1_6, .int .i64 a1_7, .slice A1_8 l1_8.length c1_8, .slice A1_9 l1_9.length c1_9, .slice A1_10 l1_10.length c1_10] 34 (0, 0)) q9y1 hg (Kd.R_ne HO217.out BK211.out (by decide))); have n1_ := Aside0.mk (hb); have n2_ := Aside0.mk (ho); clear BK211; clear HB; clear HO217; have BK211 := n0_; have HB := n1_; have HO220 := n2_; clear n0_ n1_ n2_; clear ho hb hg hat) | ((with_reducible refine gate_builtin (b := .append) (xs := #[.tmp 23, .tmp 24]) rfl ?_); at_builtin; refine Kd.R_append (Kd.int .u8) (w0 := w) w.heap.size rfl (.tmp 23) (.tmp 24) 22 5 (.int .u8 0) 1 rfl Try.underlying22 info5 rfl (by decide) (by omega) v219 y218 0 [.int .u8 0] (fun _ => True) (fun _ => False) rfl rfl ?aP (fun _ hk => hk.elim) ?aF ?aO ?aB ?aS ?aL ?_; (case aP => exact rfl); (case aB => exact q9y0); (case aF => exact (fun _ _ => trivial)); (case aO => exact (by (with_reducible repeat (first | apply Kd.R_alloc | apply Kd.R_drewN | apply Kd.R_drew)); exact HO220.out)); (case aS => exact (below_size q9y0)); (case aL => have := LMc11.out; omega); intro v222 w21 ho hb hg hat; rw [← Ny221.out] at ho; have n0_ := Aside0.mk (blk_grown (g := gb211) (o := .cells #[.int .u64 a1_0, .int .u64 a1_1, .int .u64 a1_2, .string a1_3, .string a1_4, .int .i64 a1_5, .int .i64 a1_6, .int .i64 a1_7, .slice A1_8 l1_8.length c1_8, .slice A1_9 l1_9.length c1_9, .slice A1_10 l1_10.length c1_10] 34 (0, 0)) q9y1 hg (Kd.R_ne HO220.out BK211.out (by decide))); have n1_ := Aside0.mk (hb); have n2_ := Aside0.mk (ho); clear BK211; clear HB; clear HO220; have BK211 := n0_; have HB := n1_; have HO223 := n2_; clear n0_ n1_ n2_; clear ho hb hg hat; have hcz22_0 : w21.cell? ⟨gb211, 0, none⟩ = some (.int .u64 a1_0) := (blk_cell BK211.out 0).trans rfl; have hcz22_1 : w21.cell? ⟨gb211, 1, none⟩ = some (.int .u64 a1_1) := (blk_cell BK211.out 1).trans rfl; have hcz22_2 : w21.cell? ⟨gb211, 2, none⟩ = some (.int .u64 a1_2) := (blk_cell BK211.out 2).trans rfl; have hcz22_3 : w21.cell? ⟨gb211, 3, none⟩ = some (.string a1_3) := (blk_cell BK211.out 3).trans rfl; have hcz22_4 : w21.cell? ⟨gb211, 4, none⟩ = some (.string a1_4) := (blk_cell BK211.out 4).trans rfl; have hcz22_5 : w21.cell? ⟨gb211, 5, none⟩ = some (.int .i64 a1_5) := (blk_cell BK211.out 5).trans rfl; have hcz22_6 : w21.cell? ⟨gb211, 6, none⟩ = some (.int .i64 a1_6) := (blk_cell BK211.out 6).trans rfl; have hcz22_7 : w21.cell? ⟨gb211, 7, none⟩ = some (.int .i64 a1_7) := (blk_cell BK211.out 7).trans rfl; have hcz22_8 : w21.cell? ⟨gb211, 8, none⟩ = some (.slice A1_8 l1_8.length c1_8) := (blk_cell BK211.out 8).trans rfl; have hcz22_9 : w21.cell? ⟨gb211, 9, none⟩ = some (.slice A1_9 l1_9.length c1_9) := (blk_cell BK211.out 9).trans rfl; have hcz22_10 : w21.cell? ⟨gb211, 10, none⟩ = some (.slice A1_10 l1_10.length c1_10) := (blk_cell BK211.out 10).trans rfl; have hfz22_0 := blk_frozen BK211.out 0; have hfz22_1 := blk_frozen BK211.out 1; have hfz22_2 := blk_frozen BK211.out 2; have hfz22_3 := blk_frozen BK211.out 3; have hfz22_4 := blk_frozen BK211.out 4; have hfz22_5 := blk_frozen BK211.out 5; have hfz22_6 := blk_frozen BK211.out 6; have hfz22_7 := blk_frozen BK211.out 7; have hfz22_8 := blk_frozen BK211.out 8; have hfz22_9 := blk_frozen BK211.out 9; have hfz22_10 := blk_frozen BK211.out 10) | ((with_reducible refine gate_callee (f := 26) rfl ?_); refine goesL_ (some 30) rfl rfl Try.func26 (by kernel_rfl) rfl #[.int .u64 (IntKind.u64.wrap (a1_5))] rfl q9y2 ?_; (with_reducible refine (cambiumref01_Key.calls kj2 (IntKind.u64.wrap (a1_5)) t224 _ A12.out).mono ?_); rintro e w23 ⟨v225, rfl, ho0, hb⟩; refine ⟨_, rfl, ?_⟩; have n0_ := Aside0.mk (Kd.R_elder' (by (with_reducible repeat (first | apply Kd.R_alloc | apply Kd.R_drewN | apply Kd.R_drew)); exact HO223.out) (Kd.R_base ho0) hb); have n1_ := Aside0.mk (Kd.R_lower (Kd.R_new' ho0 (Kd.R_lt (by (with_reducible repeat (first | apply Kd.R_alloc | apply Kd.R_drewN | apply Kd.R_drew)); exact HO223.out))) (below_size q9y0)); have n2_ := Aside0.mk (blk_below (g := gb211) (o := .cells #[.int .u64 a1_0, .int .u64 a1_1, .int .u64 a1_2, .string a1_3, .string a1_4, .int .i64 a1_5, .int .i64 a1_6, .int .i64 a1_7, .slice A1_8 l1_8.length c1_8, .slice A1_9 l1_9.length c1_9, .slice A1_10 l1_10.length c1_10] 34 (0, 0)) q9y1 hb); have n3_ := Aside0.mk (below_step q9y0 hb); clear HO223; clear BK211; clear HB; have HO223 := n0_; have HO226 := n1_; have BK211 := n2_; have HB := n3_; clear n0_ n1_ n2_ n3_; (try clear hb); (try clear hb2); (try clear hk); (try clear hi); (try clear ho0); obtain ⟨Ao25, co25, eo25⟩ := Kd.R_slice HO226.out; subst eo25) | ((with_reducible refine gate_builtin (b := .append) (xs := #[.tmp 26, .tmp 30]) rfl ?_); at_builtin; refine Kd.R_append_rows (Kd.int .u8) (w0 := w) w.heap.size rfl (.tmp 26) (.tmp 30) 22 5 (.int .u8 0) 1 rfl Try.underlying22 info5 rfl (by decide) (by omega) v222 y221 t224 _ _ _ (fun k_ => some k_ ≠ (.slice Ao25 t224.length co25 : Value).ownBlock) (fun _ => False) rfl rfl ?aO ?aR (fun _ _ h => h) (fun _ h => h.elim) ?aF ?aB ?aS ?aL ?_; (case aR => repeat (first | exact (Kd.R_reads' HO226.out).2.2 | (with_reducible refine Kd.C_alloc ?_ _) | (with_reducible refine Kd.C_drewN ?_ _) | (with_reducible refine Kd.C_drew ?_))); (case aB => exact q9y0); (case aF => exact (fun k_ hk => Kd.fresh' (Kd.R_lt q9y7) k_ hk)); (case aO => exact (by (with_reducible repeat (first | apply Kd.R_alloc | apply Kd.R_drewN | apply Kd.R_drew)); exact Kd.R_mono HO223.out (fun _ hk => hk.2))); (case aS => exact (below_size q9y0)); (case aL => have := LMc13.out; omega); intro v228 w24 ho hb hg hat; rw [← Ny227.out] at ho; have n0_ := Aside0.mk (blk_grown (g := gb211) (o := .cells #[.int .u64 a1_0, .int .u64 a1_1, .int .u64 a1_2, .string a1_3, .string a1_4, .int .i64 a1_5, .int .i64 a1_6, .int .i64 a1_7, .slice A1_8 l1_8.length c1_8, .slice A1_9 l1_9.length c1_9, .slice A1_10 l1_10.length c1_10] 34 (0, 0)) q9y1 hg (Kd.R_ne HO223.out BK211.out (by decide))); have n1_ := Aside0.mk (Kd.R_after (ok := (fun _ => True)) q9y7 hg hat); have n2_ := Aside0.mk (hb); have n3_ := Aside0.mk (ho); clear BK211; clear HO226; clear HB; clear HO223; have BK211 := n0_; have HO226 := n1_; have HB := n2_; have HO229 := n3_; clear n0_ n1_ n2_ n3_; clear ho hb hg hat; have hcz26_0 : w24.cell? ⟨gb211, 0, none⟩ = some (.int .u64 a1_0) := (blk_cell BK211.out 0).trans rfl; have hcz26_1 : w24.cell? ⟨gb211, 1, none⟩ = some (.int .u64 a1_1) := (blk_cell BK211.out 1).trans rfl; have hcz26_2 : w24.cell? ⟨gb211, 2, none⟩ = some (.int .u64 a1_2) := (blk_cell BK211.out 2).trans rfl; have hcz26_3 : w24.cell? ⟨gb211, 3, none⟩ = some (.string a1_3) := (blk_cell BK211.out 3).trans rfl; have hcz26_4 : w24.cell? ⟨gb211, 4, none⟩ = some (.string a1_4) := (blk_cell BK211.out 4).trans rfl; have hcz26_5 : w24.cell? ⟨gb211, 5, none⟩ = some (.int .i64 a1_5) := (blk_cell BK211.out 5).trans rfl; have hcz26_6 : w24.cell? ⟨gb211, 6, none⟩ = some (.int .i64 a1_6) := (blk_cell BK211.out 6).trans rfl; have hcz26_7 : w24.cell? ⟨gb211, 7, none⟩ = some (.int .i64 a1_7) := (blk_cell BK211.out 7).trans rfl; have hcz26_8 : w24.cell? ⟨gb211, 8, none⟩ = some (.slice A1_8 l1_8.length c1_8) := (blk_cell BK211.out 8).trans rfl; have hcz26_9 : w24.cell? ⟨gb211, 9, none⟩ = some (.slice A1_9 l1_9.length c1_9) := (blk_cell BK211.out 9).trans rfl; have hcz26_10 : w24.cell? ⟨gb211, 10, none⟩ = some (.slice A1_10 l1_10.length c1_10) := (blk_cell BK211.out 10).trans rfl; have hfz26_0 := blk_frozen BK211.out 0; have hfz26_1 := blk_frozen BK211.out 1; have hfz26_2 := blk_frozen BK211.out 2; have hfz26_3 := blk_frozen BK211.out 3; have hfz26_4 := blk_frozen BK211.out 4; have hfz26_5 := blk_frozen BK211.out 5; have hfz26_6 := blk_frozen BK211.out 6; have hfz26_7 := blk_frozen BK211.out 7; have hfz26_8 := blk_frozen BK211.out 8; have hfz26_9 := blk_frozen BK211.out 9; have hfz26_10 := blk_frozen BK211.out 10) | ((with_reducible refine gate_callee (f := 11) rfl ?_); refine goesL_ (some 50) rfl rfl Try.func11 (by kernel_rfl) rfl #[.agg #[.int .u64 a1_0, .int .u64 a1_1, .int .u64 a1_2, .string a1_3, .string a1_4, .int .i64 a1_5, .int .i64 a1_6, .int .i64 a1_7, .slice A1_8 l1_8.length c1_8, .slice A1_9 l1_9.length c1_9, .slice A1_10 l1_10.length c1_10]] rfl q9y2 ?_; (with_reducible refine (cambiumref18_Primary.calls kj2 a1_0 a1_1 a1_2 a1_3 a1_4 a1_5 a1_6 a1_7 _ _ l1_8 _ _ l1_9 _ _ l1_10 t230 _ ?side1 ?side2 ?side3 ?side4 ?side5 ?side6 A14.out).mono ?_); (case side1 => repeat (first | exact (Kd.C_below HR1_8.out HB.out) | (with_reducible refine Kd.C_alloc ?_ _) | (with_reducible refine Kd.C_drewN ?_ _) | (with_reducible refine Kd.C_drew ?_))); (case side2 => exact HC1_8.out); (case side3 => repeat (first | exact (Kd.C_below HR1_9.out HB.out) | (with_reducible refine Kd.C_alloc ?_ _) | (with_reducible refine Kd.C_drewN ?_ _) | (with_reducible refine Kd.C_drew ?_))); (case side4 => exact HC1_9.out); (case side5 => repeat (first | exact (Kd.C_below HR1_10.out HB.out) | (with_reducible refine Kd.C_alloc ?_ _) | (with_reducible refine Kd.C_drewN ?_ _) | (with_reducible refine Kd.C_drew ?_))); (case side6 => exact HC1_10.out); rintro e w27 ⟨v231, rfl, ho0, hb⟩; refine ⟨_, rfl, ?_⟩; have n0_ := Aside0.mk (Kd.R_elder' q9y7 (Kd.R_base ho0) hb); have n1_ := Aside0.mk (Kd.R_elder' (by (with_reducible repeat (first | apply Kd.R_alloc | apply Kd.R_drewN | apply Kd.R_drew)); exact HO229.out) (Kd.R_base ho0) hb); have n2_ := Aside0.mk (Kd.R_lower (Kd.R_new' (Kd.R_new' ho0 (Kd.R_lt q9y7)) (Kd.R_lt (by (with_reducible repeat (first | apply Kd.R_alloc | apply Kd.R_drewN | apply Kd.R_drew)); exact HO229.out))) (below_size q9y0)); have n3_ := Aside0.mk (blk_below (g := gb211) (o := .cells #[.int .u64 a1_0, .int .u64 a1_1, .int .u64 a1_2, .string a1_3, .string a1_4, .int .i64 a1_5, .int .i64 a1_6, .int .i64 a1_7, .slice A1_8 l1_8.length c1_8, .slice A1_9 l1_9.length c1_9, .slice A1_10 l1_10.length c1_10] 34 (0, 0)) q9y1 hb); have n4_ := Aside0.mk (below_step q9y0 hb); clear HO226; clear HO229; clear BK211; clear HB; have HO226 := n0_; have HO229 := n1_; have HO232 := n2_; have BK211 := n3_; have HB := n4_; clear n0_ n1_ n2_ n3_ n4_; (try clear hb); (try clear hb2); (try clear hk); (try clear hi); (try clear ho0); obtain ⟨Ao29, co29, eo29⟩ := Kd.R_slice HO232.out; subst eo29) | ((with_reducible refine gate_builtin (b := .append) (xs := #[.tmp 48, .tmp 50]) rfl ?_); at_builtin; refine Kd.R_append_rows (Kd.int .u8) (w0 := w) w.heap.size rfl (.tmp 48) (.tmp 50) 22 5 (.int .u8 0) 1 rfl Try.underlying22 info5 rfl (by decide) (by omega) v228 y227 t230 _ _ _ (fun k_ => some k_ ≠ (.slice Ao25 t224.length co25 : Value).ownBlock ∧ some k_ ≠ (.slice Ao29 t230.length co29 : Value).ownBlock) (fun _ => False) rfl rfl ?aO ?aR (fun _ _ h => h) (fun _ h => h.elim) ?aF ?aB ?aS ?aL ?_; (case aR => repeat (first | exact (Kd.R_reads' HO232.out).2.2 | (with_reducible refine Kd.C_alloc ?_ _) | (with_reducible refine Kd.C_drewN ?_ _) | (with_reducible refine Kd.C_drew ?_))); (case aB => exact q9y0); (case aF => exact (fun k_ hk => ⟨Kd.fresh' (Kd.R_lt q9y7) k_ hk, Kd.fresh' (Kd.R_lt (by (with_reducible repeat (first | apply Kd.R_alloc | apply Kd.R_drewN | apply Kd.R_drew)); exact HO232.out)) k_ hk⟩)); (case aO => exact (by (with_reducible repeat (first | apply Kd.R_alloc | apply Kd.R_drewN | apply Kd.R_drew)); exact HO229.out)); (case aS => exact (below_size q9y0)); (case aL => have := LMc15.out; omega); intro v234 w28 ho hb hg hat; rw [← Ny233.out] at ho; have n0_ := Aside0.mk (blk_grown (g := gb211) (o := .cells #[.int .u64 a1_0, .int .u64 a1_1, .int .u64 a1_2, .string a1_3, .string a1_4, .int .i64 a1_5, .int .i64 a1_6, .int .i64 a1_7, .slice A1_8 l1_8.length c1_8, .slice A1_9 l1_9.length c1_9, .slice A1_10 l1_10.length c1_10] 34 (0, 0)) q9y1 hg (Kd.R_ne HO229.out BK211.out (by decide))); have n1_ := Aside0.mk (Kd.R_after (ok := (fun k_ => some k_ ≠ (.slice Ao29 t230.length co29 : Value).ownBlock)) (by (with_reducible repeat (first | apply Kd.R_alloc | apply Kd.R_drewN | apply Kd.R_drew)); exact Kd.R_mono HO226.out (fun _ hk => ⟨hk.2, hk.1.2⟩)) hg hat); have n2_ := Aside0.mk (Kd.R_after (ok := (fun k_ => some k_ ≠ (.slice Ao25 t224.length co25 : Value).ownBlock)) (by (with_reducible repeat (first | apply Kd.R_alloc | apply Kd.R_drewN | apply Kd.R_drew)); exact Kd.R_mono HO232.out (fun _ hk => ⟨hk.1.2, hk.2⟩)) hg hat); have n3_ := Aside0.mk (hb); have n4_ := Aside0.mk (ho); clear BK211; clear HO226; clear HO232; clear HB; clear HO229; have BK211 := n0_; have HO226 := n1_; have HO232 := n2_; have HB := n3_; have HO235 := n4_; clear n0_ n1_ n2_ n3_ n4_; clear ho hb hg hat))
   go_ret
   exact ⟨_, by first | rfl | (simp [errW_none, errW_some] <;> rfl) | (simp [*, errW_none, errW_some] <;> rfl), by (with_reducible repeat (first | apply Kd.R_alloc | apply Kd.R_drewN | apply Kd.R_drew)); exact Kd.R_mono HO235.out (fun _ hk => trivial), by repeat (first | (with_reducible first | exact HB.out | apply below_alloc | apply pw_below_drewN | apply below_drew1 | refine below_set ?_ GE211.out) | exact HB.out)⟩
/-! ### cambiumref18_Name: function 23 -/
def cambiumref18_Name.f (a0 : Int) : Option (ByteArray) := if a0 = 0 then (some (⟨#[115, 112, 97, 110, 115]⟩ : ByteArray)) else (if a0 = 1 then (some (⟨#[98, 121, 45, 115, 101, 114, 118, 105, 99, 101]⟩ : ByteArray)) else (if a0 = 2 then (some (⟨#[98, 121, 45, 111, 112, 101, 114, 97, 116, 105, 111, 110]⟩ : ByteArray)) else (if a0 = 3 then (some (⟨#[98, 121, 45, 100, 117, 114, 97, 116, 105, 111, 110]⟩ : ByteArray)) else (if a0 = 4 then (some (⟨#[98, 121, 45, 116, 105, 109, 101]⟩ : ByteArray)) else (some (⟨#[]⟩ : ByteArray))))))
set_option maxHeartbeats 8000000 in
set_option maxRecDepth 100000 in
theorem cambiumref18_Name.calls (a0 : Int) (r : ByteArray) (w : World) (h : cambiumref18_Name.f a0 = some r) :
  Calls Try.prog 23 #[.int .i64 a0] w fun e w' => e = .returned (.string r) ∧ Drawn0 w w' := by
 have H : (if a0 = 0 then (some (⟨#[115, 112, 97, 110, 115]⟩ : ByteArray)) else (if a0 = 1 then (some (⟨#[98, 121, 45, 115, 101, 114, 118, 105, 99, 101]⟩ : ByteArray)) else (if a0 = 2 then (some (⟨#[98, 121, 45, 111, 112, 101, 114, 97, 116, 105, 111, 110]⟩ : ByteArray)) else (if a0 = 3 then (some (⟨#[98, 121, 45, 100, 117, 114, 97, 116, 105, 111, 110]⟩ : ByteArray)) else (if a0 = 4 then (some (⟨#[98, 121, 45, 116, 105, 109, 101]⟩ : ByteArray)) else (some (⟨#[]⟩ : ByteArray))))))) = some r := h
 clear h
 by_cases c2 : a0 = 0
 ·rw [if_pos c2] at H
  have c2b0 : (a0 == 0) = true := beq_iff_eq.mpr c2
  have c2b1 : (a0 != 0) = false := bne_eq_false_iff_eq.mpr c2
  clear c2
  obtain rfl := Option.some.inj H
  go_enter Try.func23, Try.ntmps23
  go_wp2
  go_ret
  exact ⟨by first | rfl | (simp; done) | (simp [*]; done), by repeat (first | exact Drawn0.refl _ | apply Drawn0.step)⟩
 rw [if_neg c2] at H
 have c2b0 : (a0 == 0) = false := beq_eq_false_iff_ne.mpr c2
 have c2b1 : (a0 != 0) = true := bne_iff_ne.mpr c2
 by_cases c3 : a0 = 1
 ·rw [if_pos c3] at H
  have c3b0 : (a0 == 1) = true := beq_iff_eq.mpr c3
  have c3b1 : (a0 != 1) = false := bne_eq_false_iff_eq.mpr c3
  clear c3
  obtain rfl := Option.some.inj H
  go_enter Try.func23, Try.ntmps23
  go_wp2
  go_ret
  exact ⟨by first | rfl | (simp; done) | (simp [*]; done), by repeat (first | exact Drawn0.refl _ | apply Drawn0.step)⟩
 rw [if_neg c3] at H
 have c3b0 : (a0 == 1) = false := beq_eq_false_iff_ne.mpr c3
 have c3b1 : (a0 != 1) = true := bne_iff_ne.mpr c3
 by_cases c4 : a0 = 2
 ·rw [if_pos c4] at H
  have c4b0 : (a0 == 2) = true := beq_iff_eq.mpr c4
  have c4b1 : (a0 != 2) = false := bne_eq_false_iff_eq.mpr c4
  clear c4
  obtain rfl := Option.some.inj H
  go_enter Try.func23, Try.ntmps23
  go_wp2
  go_ret
  exact ⟨by first | rfl | (simp; done) | (simp [*]; done), by repeat (first | exact Drawn0.refl _ | apply Drawn0.step)⟩
 rw [if_neg c4] at H
 have c4b0 : (a0 == 2) = false := beq_eq_false_iff_ne.mpr c4
 have c4b1 : (a0 != 2) = true := bne_iff_ne.mpr c4
 by_cases c5 : a0 = 3
 ·rw [if_pos c5] at H
  have c5b0 : (a0 == 3) = true := beq_iff_eq.mpr c5
  have c5b1 : (a0 != 3) = false := bne_eq_false_iff_eq.mpr c5
  clear c5
  obtain rfl := Option.some.inj H
  go_enter Try.func23, Try.ntmps23
  go_wp2
  go_ret
  exact ⟨by first | rfl | (simp; done) | (simp [*]; done), by repeat (first | exact Drawn0.refl _ | apply Drawn0.step)⟩
 rw [if_neg c5] at H
 have c5b0 : (a0 == 3) = false := beq_eq_false_iff_ne.mpr c5
 have c5b1 : (a0 != 3) = true := bne_iff_ne.mpr c5
 by_cases c6 : a0 = 4
 ·rw [if_pos c6] at H
  have c6b0 : (a0 == 4) = true := beq_iff_eq.mpr c6
  have c6b1 : (a0 != 4) = false := bne_eq_false_iff_eq.mpr c6
  clear c6
  obtain rfl := Option.some.inj H
  go_enter Try.func23, Try.ntmps23
  go_wp2
  go_ret
  exact ⟨by first | rfl | (simp; done) | (simp [*]; done), by repeat (first | exact Drawn0.refl _ | apply Drawn0.step)⟩
 rw [if_neg c6] at H
 have c6b0 : (a0 == 4) = false := beq_eq_false_iff_ne.mpr c6
 have c6b1 : (a0 != 4) = true := bne_iff_ne.mpr c6
 obtain rfl := Option.some.inj H
 go_enter Try.func23, Try.ntmps23
 go_wp2
 go_ret
 exact ⟨by first | rfl | (simp; done) | (simp [*]; done), by repeat (first | exact Drawn0.refl _ | apply Drawn0.step)⟩

end Go.Proofs.Ytenmjbcedadcbaa.PAll
