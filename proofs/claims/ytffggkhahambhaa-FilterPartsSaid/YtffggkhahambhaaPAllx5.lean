-- Written by a program: the kit's print.py, driven for several laws at once. Not trusted: Lean checks it.
import Derived.Test.YtffggkhahambhaaPAllx0
import Derived.Test.YtffggkhahambhaaRuns
import Derived.Test.YtffggkhahambhaaConv
namespace Go.Proofs.Ytffggkhahambhaa.PAll
open Go.Proofs.Ytffggkhahambhaa.Text
open Go.RowKit Go.Proofs.YtffggkhahambhaaW.PrintWords Go.Proofs.YtffggkhahambhaaW.PrintLast Go.Proofs.YtffggkhahambhaaW.PrintMore
attribute [local go_sem] max2_int min2_int max_two min_two max_three min_three max_four min_four   -- for this text's walks alone
set_option linter.unusedVariables false
set_option linter.unusedSimpArgs false

/-! ### text_Match: function 40 -/
def q5m (n m : Nat) : Array Bool := ((List.range n).map (Nat.testBit m)).toArray
theorem q5a {α : Type} (xs : List α) (i : Nat) (x : α) : xs.toArray.setIfInBounds i x = (xs.set i x).toArray := List.setIfInBounds_toArray ..
theorem q5b {α : Type} (x y : α) (xs : List α) : (x :: xs).set 0 y = y :: xs := List.set_cons_zero ..
theorem q5c {α : Type} (x y : α) (xs : List α) (n : Nat) : (x :: xs).set (n + 1) y = x :: xs.set n y := List.set_cons_succ ..
theorem q5h {w w' : World} {p : Addr} {v : Value} (h : Below w.heap.size w w') (x : w.cell? p = some v) : w'.cell? p = some v := (h.cell (World.block_lt_of_cell? w _ x)).trans x
theorem q5p {P : Program} {md : Region.Mode} {ops : Array Oper} {Q : Exit → Act → World → Prop} {S : World → Prop} {ds : List Nat} {T : Bool × List (List Nat × List Nat)} {i : Nat} {N : Option Tmp} {oi : Oper} {v : Value} {fuel : Nat} {l : Array Bool} {a : Act} {w : World} (l' : Array Bool) (hT : rtab md ops = T) {a' : Act}
    (h : wpAnyLast P md ops Q S ds fuel l' a' w) (hi : ops[i]? = some oi := by rfl) (hN : oi.dst = N := by rfl) (hc : anyT T l.toList l'.toList i = true := by kernel_rfl) (hQ : ∀ c a w, Q (.panic c) (a.put oi.dst v) w → Q (.panic c) a w := by exact fun _ _ _ h => h)
    (hw : Region.wanted oi (yielded ops a.tmps) = true := by rfl) (hy : ∀ w', (execOp a.eval oi).run P w' = .ok (.value v) w' := by intro w'; go_simp; with_reducible rfl) (ha : a.put N v = a' := by simp only [Act.put, q5a, q5b, q5c, i64_w, i32_w]; rfl) :
    wpAnyLast P md ops Q S ds (fuel + 1) l a w := pure_ l' hi hN (any_of hT hc) hQ (Or.inl ⟨hw, hy⟩) ha h
theorem q5u {P : Program} {md : Region.Mode} {ops : Array Oper} {Q : Exit → Act → World → Prop} {S : World → Prop} {ds : List Nat} {T : Bool × List (List Nat × List Nat)} {i : Nat} {N : Option Tmp} {oi : Oper} {fuel : Nat} {l : Array Bool} {a : Act} {w : World} (l' : Array Bool) (hT : rtab md ops = T) {a' : Act}
    (h : wpAnyLast P md ops Q S ds fuel l' a' w) (hi : ops[i]? = some oi := by rfl) (hN : oi.dst = N := by rfl) (hc : anyT T l.toList l'.toList i = true := by kernel_rfl) (hQ : ∀ c a w, Q (.panic c) (a.put oi.dst undef) w → Q (.panic c) a w := by exact fun _ _ _ h => h)
    (hw : Region.wanted oi (yielded ops a.tmps) = false := by rfl) (ha : a.put N undef = a' := by simp only [Act.put, q5a, q5b, q5c, i64_w, i32_w]; rfl) :
    wpAnyLast P md ops Q S ds (fuel + 1) l a w := pure_ l' hi hN (any_of hT hc) hQ (Or.inr ⟨hw, rfl⟩) ha h
theorem q5k {w : World} {g : Nat} {cs : Array Value} {t : TypeId} (h : w.heap[g]? = some (.cells cs t (0, 0))) (i : Nat) {v : Value} (e : cs[i]? = some v := by rfl) : w.cell? ⟨g, i, none⟩ = some v := (blk_cell h i).trans e
theorem q5y0 {P : Prop} (h : P := by repeat (first | (with_reducible first | exact HB.out | apply below_alloc | apply pw_below_drewN | apply below_drew1) | exact HB.out)) : P := h
theorem q5y1 {P : Prop} (h : P := by first | rfl | (simp; done) | (simp [*]; done)) : P := h
theorem q5y2 {P : Prop} (h : P := by first | (with_reducible assumption) | assumption) : P := h

mutual
def text_Match.l0 : Nat → List (S94) → List Int → Int → Int → Int → Int → Option (Bool)
 | 0, _, _, _, _, _, _ => none
 | k + 1, x5, x6, x7, x8, x9, x10 => if x8 < (x6.length : Int) then (if x7 < (x5.length : Int) then (if 0 ≤ x7 then (text_Match.j1 k x5 x6 x7 x8 x9 x10 ((rd_T94 x5 x7).f2)) else (none)) else (text_Match.j1 k x5 x6 x7 x8 x9 x10 false)) else (text_Match.l1 k x5 x7)
def text_Match.j1 : Nat → List (S94) → List Int → Int → Int → Int → Int → Bool → Option (Bool)
 | 0, _, _, _, _, _, _, _ => none
 | k + 1, x5, x6, x7, x8, x9, x10, x19 => if x19 = true then (text_Match.l0 k x5 x6 (wrap64 (x7 + 1)) x8 x7 x8) else (if x7 < (x5.length : Int) then (if 0 ≤ x7 then (if (rd_T94 x5 x7).f1 = true then (text_Match.j2 k x5 x6 x7 x8 x9 x10 true) else (if 0 ≤ x8 then (if x8 < (x6.length : Int) then (text_Match.j2 k x5 x6 x7 x8 x9 x10 (((rd_T94 x5 x7).f0) == (rd x6 x8))) else (none)) else (none))) else (none)) else (text_Match.j2 k x5 x6 x7 x8 x9 x10 false))
def text_Match.j2 : Nat → List (S94) → List Int → Int → Int → Int → Int → Bool → Option (Bool)
 | 0, _, _, _, _, _, _, _ => none
 | k + 1, x5, x6, x7, x8, x9, x10, x35 => if x35 = true then (text_Match.l0 k x5 x6 (wrap64 (x7 + 1)) (wrap64 (x8 + 1)) x9 x10) else (if x9 ≥ 0 then (text_Match.l0 k x5 x6 (wrap64 (x9 + 1)) (wrap64 (x10 + 1)) x9 (wrap64 (x10 + 1))) else (some false))
def text_Match.l1 : Nat → List (S94) → Int → Option (Bool)
 | 0, _, _ => none
 | k + 1, x5, x7 => if x7 < (x5.length : Int) then (if 0 ≤ x7 then (if (rd_T94 x5 x7).f2 = true then (text_Match.l1 k x5 (wrap64 (x7 + 1))) else (some (x7 == (x5.length : Int)))) else (none)) else (some (x7 == (x5.length : Int)))
end
def text_Match.f (k : Nat) (a0 : ByteArray) (a1 : ByteArray) : Option (Bool) := (text_signs.f a0).bind fun t118 => ((text_runes.f a1).bind fun t121 => (text_Match.l0 k t118 t121 0 0 (-1) 0))
theorem text_Match.mono_l : ∀ k, (∀ y0 y1 y2 y3 y4 y5, LeO (text_Match.l0 k y0 y1 y2 y3 y4 y5) (text_Match.l0 (k + 1) y0 y1 y2 y3 y4 y5)) ∧ (∀ y0 y1 y2 y3 y4 y5 y6, LeO (text_Match.j1 k y0 y1 y2 y3 y4 y5 y6) (text_Match.j1 (k + 1) y0 y1 y2 y3 y4 y5 y6)) ∧ (∀ y0 y1 y2 y3 y4 y5 y6, LeO (text_Match.j2 k y0 y1 y2 y3 y4 y5 y6) (text_Match.j2 (k + 1) y0 y1 y2 y3 y4 y5 y6)) ∧ (∀ y0 y1, LeO (text_Match.l1 k y0 y1) (text_Match.l1 (k + 1) y0 y1))
 | 0 => ⟨fun _ _ _ _ _ _ r h => by simp [text_Match.l0] at h, fun _ _ _ _ _ _ _ r h => by simp [text_Match.j1] at h, fun _ _ _ _ _ _ _ r h => by simp [text_Match.j2] at h, fun _ _ r h => by simp [text_Match.l1] at h⟩
 | k + 1 => by
  obtain ⟨ih0, ih1, ih2, ih3⟩ := text_Match.mono_l k
  refine ⟨?_, ?_, ?_, ?_⟩
  ·intro y0 y1 y2 y3 y4 y5
   unfold text_Match.l0
   repeat' first
   | (with_reducible exact ih0 _ _ _ _ _ _)
   | (with_reducible exact ih1 _ _ _ _ _ _ _)
   | (with_reducible exact ih2 _ _ _ _ _ _ _)
   | (with_reducible exact ih3 _ _)
   | (with_reducible exact LeO.refl _)
   | (with_reducible exact LeO.none _)
   | (with_reducible refine LeO.ite ?_ ?_)
   | (with_reducible refine LeO.bind ?_ (fun _ => ?_))
   | exact ih0 _ _ _ _ _ _
   | exact ih1 _ _ _ _ _ _ _
   | exact ih2 _ _ _ _ _ _ _
   | exact ih3 _ _
   | exact LeO.none _
   | refine LeO.ite ?_ ?_
   | refine LeO.bind ?_ (fun _ => ?_)
  ·intro y0 y1 y2 y3 y4 y5 y6
   unfold text_Match.j1
   repeat' first
   | (with_reducible exact ih0 _ _ _ _ _ _)
   | (with_reducible exact ih1 _ _ _ _ _ _ _)
   | (with_reducible exact ih2 _ _ _ _ _ _ _)
   | (with_reducible exact ih3 _ _)
   | (with_reducible exact LeO.refl _)
   | (with_reducible exact LeO.none _)
   | (with_reducible refine LeO.ite ?_ ?_)
   | (with_reducible refine LeO.bind ?_ (fun _ => ?_))
   | exact ih0 _ _ _ _ _ _
   | exact ih1 _ _ _ _ _ _ _
   | exact ih2 _ _ _ _ _ _ _
   | exact ih3 _ _
   | exact LeO.none _
   | refine LeO.ite ?_ ?_
   | refine LeO.bind ?_ (fun _ => ?_)
  ·intro y0 y1 y2 y3 y4 y5 y6
   unfold text_Match.j2
   repeat' first
   | (with_reducible exact ih0 _ _ _ _ _ _)
   | (with_reducible exact ih1 _ _ _ _ _ _ _)
   | (with_reducible exact ih2 _ _ _ _ _ _ _)
   | (with_reducible exact ih3 _ _)
   | (with_reducible exact LeO.refl _)
   | (with_reducible exact LeO.none _)
   | (with_reducible refine LeO.ite ?_ ?_)
   | (with_reducible refine LeO.bind ?_ (fun _ => ?_))
   | exact ih0 _ _ _ _ _ _
   | exact ih1 _ _ _ _ _ _ _
   | exact ih2 _ _ _ _ _ _ _
   | exact ih3 _ _
   | exact LeO.none _
   | refine LeO.ite ?_ ?_
   | refine LeO.bind ?_ (fun _ => ?_)
  ·intro y0 y1
   unfold text_Match.l1
   repeat' first
   | (with_reducible exact ih0 _ _ _ _ _ _)
   | (with_reducible exact ih1 _ _ _ _ _ _ _)
   | (with_reducible exact ih2 _ _ _ _ _ _ _)
   | (with_reducible exact ih3 _ _)
   | (with_reducible exact LeO.refl _)
   | (with_reducible exact LeO.none _)
   | (with_reducible refine LeO.ite ?_ ?_)
   | (with_reducible refine LeO.bind ?_ (fun _ => ?_))
   | exact ih0 _ _ _ _ _ _
   | exact ih1 _ _ _ _ _ _ _
   | exact ih2 _ _ _ _ _ _ _
   | exact ih3 _ _
   | exact LeO.none _
   | refine LeO.ite ?_ ?_
   | refine LeO.bind ?_ (fun _ => ?_)
theorem text_Match.mono : ∀ a0 a1 k, LeO (text_Match.f k a0 a1) (text_Match.f (k + 1) a0 a1) := by
 intro a0 a1 k
 obtain ⟨ih0, ih1, ih2, ih3⟩ := text_Match.mono_l k
 unfold text_Match.f
 repeat' first
   | (with_reducible exact ih0 _ _ _ _ _ _)
   | (with_reducible exact ih1 _ _ _ _ _ _ _)
   | (with_reducible exact ih2 _ _ _ _ _ _ _)
   | (with_reducible exact ih3 _ _)
   | (with_reducible exact LeO.refl _)
   | (with_reducible exact LeO.none _)
   | (with_reducible refine LeO.ite ?_ ?_)
   | (with_reducible refine LeO.bind ?_ (fun _ => ?_))
   | exact ih0 _ _ _ _ _ _
   | exact ih1 _ _ _ _ _ _ _
   | exact ih2 _ _ _ _ _ _ _
   | exact ih3 _ _
   | exact LeO.none _
   | refine LeO.ite ?_ ?_
   | refine LeO.bind ?_ (fun _ => ?_)
set_option maxHeartbeats 8000000 in
set_option maxRecDepth 100000 in
theorem text_Match.calls (k : Nat) (a0 : ByteArray) (a1 : ByteArray) (r : Bool) (w : World) (h : text_Match.f k a0 a1 = some r) :
  Calls Try.prog 40 #[.string a0, .string a1] w fun e w' => e = .returned (.bool r) ∧ Below w.heap.size w w' := by
 have HB := Aside0.mk (Below.refl w.heap.size w)
 have H : ((text_signs.f a0).bind fun t118 => ((text_runes.f a1).bind fun t121 => (text_Match.l0 k t118 t121 0 0 (-1) 0))) = some r := h
 clear h
 replace H := Option.bind_eq_some_iff.mp H
 obtain ⟨t118, A30, H⟩ := H
 replace H : ((text_runes.f a1).bind fun t121 => (text_Match.l0 k t118 t121 0 0 (-1) 0)) = some r := H
 have A3 := Aside0.mk A30
 clear A30
 replace H := Option.bind_eq_some_iff.mp H
 obtain ⟨t121, A40, H⟩ := H
 replace H : (text_Match.l0 k t118 t121 0 0 (-1) 0) = some r := H
 have A4 := Aside0.mk A40
 clear A40
 have H' := Aside0.mk H
 clear H
 go_enter Try.func40, Try.ntmps40
 go_wp2_with (first | (go_at_call 59; (with_reducible refine (text_signs.calls a0 t118 _ A3.out).mono ?_); rintro e w5 ⟨v119, rfl, ho0, hb⟩; have n0_ := Aside0.mk (Kd.R_lower ho0 (below_size q5y0)); have n1_ := Aside0.mk (below_step q5y0 hb); clear HB; have HO120 := n0_; have HB := n1_; clear n0_ n1_; (try clear hb); (try clear hb2); (try clear hk); (try clear hi); (try clear ho0)) | (go_at_call 60; (with_reducible refine (text_runes.calls a1 t121 _ A4.out).mono ?_); rintro e w6 ⟨v122, rfl, ho0, hb⟩; have n0_ := Aside0.mk (Kd.R_below (by (with_reducible repeat (first | apply Kd.R_alloc | apply Kd.R_drewN | apply Kd.R_drew)); exact HO120.out) hb); have n1_ := Aside0.mk (Kd.R_lower ho0 (below_size q5y0)); have n2_ := Aside0.mk (below_step q5y0 hb); clear HO120; clear HB; have HO120 := n0_; have HO123 := n1_; have HB := n2_; clear n0_ n1_ n2_; (try clear hb); (try clear hb2); (try clear hk); (try clear hi); (try clear ho0)))
 repeat (go_quiet (first | (go_at_call 59; (with_reducible refine (text_signs.calls a0 t118 _ A3.out).mono ?_); rintro e w5 ⟨v119, rfl, ho0, hb⟩; have n0_ := Aside0.mk (Kd.R_lower ho0 (below_size q5y0)); have n1_ := Aside0.mk (below_step q5y0 hb); clear HB; have HO120 := n0_; have HB := n1_; clear n0_ n1_; (try clear hb); (try clear hb2); (try clear hk); (try clear hi); (try clear ho0)) | (go_at_call 60; (with_reducible refine (text_runes.calls a1 t121 _ A4.out).mono ?_); rintro e w6 ⟨v122, rfl, ho0, hb⟩; have n0_ := Aside0.mk (Kd.R_below (by (with_reducible repeat (first | apply Kd.R_alloc | apply Kd.R_drewN | apply Kd.R_drew)); exact HO120.out) hb); have n1_ := Aside0.mk (Kd.R_lower ho0 (below_size q5y0)); have n2_ := Aside0.mk (below_step q5y0 hb); clear HO120; clear HB; have HO120 := n0_; have HO123 := n1_; have HB := n2_; clear n0_ n1_ n2_; (try clear hb); (try clear hb2); (try clear hk); (try clear hi); (try clear ho0))); try go_wp2_with (first | (go_at_call 59; (with_reducible refine (text_signs.calls a0 t118 _ A3.out).mono ?_); rintro e w5 ⟨v119, rfl, ho0, hb⟩; have n0_ := Aside0.mk (Kd.R_lower ho0 (below_size q5y0)); have n1_ := Aside0.mk (below_step q5y0 hb); clear HB; have HO120 := n0_; have HB := n1_; clear n0_ n1_; (try clear hb); (try clear hb2); (try clear hk); (try clear hi); (try clear ho0)) | (go_at_call 60; (with_reducible refine (text_runes.calls a1 t121 _ A4.out).mono ?_); rintro e w6 ⟨v122, rfl, ho0, hb⟩; have n0_ := Aside0.mk (Kd.R_below (by (with_reducible repeat (first | apply Kd.R_alloc | apply Kd.R_drewN | apply Kd.R_drew)); exact HO120.out) hb); have n1_ := Aside0.mk (Kd.R_lower ho0 (below_size q5y0)); have n2_ := Aside0.mk (below_step q5y0 hb); clear HO120; clear HB; have HO120 := n0_; have HO123 := n1_; have HB := n2_; clear n0_ n1_ n2_; (try clear hb); (try clear hb2); (try clear hk); (try clear hi); (try clear ho0))))
 go_loopg [7, 8, 9, 10] k (fun kq v7 v8 v9 v10 w' => ∃ (x7_1 : Int) (x8_1 : Int) (x9_1 : Int) (x10_1 : Int), v7 = .int .i64 x7_1 ∧ v8 = .int .i64 x8_1 ∧ v9 = .int .i64 x9_1 ∧ v10 = .int .i64 x10_1 ∧ Aside0 (text_Match.l0 kq t118 t121 x7_1 x8_1 x9_1 x10_1 = some r) ∧ Aside0 (kq ≤ k) ∧ Aside0 (Kd.R k94 94 w' w.heap.size (fun _ => True) v119 t118) ∧ Aside0 (Kd.R (Kd.int .i32) 21 w' w.heap.size (fun _ => True) v122 t121) ∧ Aside0 (Below w.heap.size w w'))
 case atStart => exact ⟨(0), (0), ((-1)), (0), q5y1, q5y1, q5y1, q5y1, H', ⟨Nat.le_refl _⟩, ⟨by (with_reducible repeat (first | apply Kd.R_alloc | apply Kd.R_drewN | apply Kd.R_drew)); exact HO120.out⟩, ⟨by (with_reducible repeat (first | apply Kd.R_alloc | apply Kd.R_drewN | apply Kd.R_drew)); exact HO123.out⟩, ⟨by repeat (first | (with_reducible first | exact HB.out | apply below_alloc | apply pw_below_drewN | apply below_drew1) | exact HB.out)⟩⟩
 case round =>
  clear H'
  try clear p2
  try clear c4
  obtain ⟨x7_1, x8_1, x9_1, x10_1, rfl, rfl, rfl, rfl, HA, HK1, HO_5, HO_6, HB⟩ := hrel
  cases gk with
  | zero => exact absurd HA.out (by simp [text_Match.l0])
  | succ k1 =>
   have H := HA.out
   clear HA
   simp only [text_Match.l0] at H
   by_cases c7 : x8_1 < (t121.length : Int)
   rotate_left
   ·rw [if_neg c7] at H
    have c7b0 : decide (x8_1 < (t121.length : Int)) = false := decide_eq_false c7
    clear c7
    have H' := Aside0.mk H
    clear H
    obtain ⟨Ao27, co27, eo27⟩ := Kd.R_slice HO_6.out
    subst eo27
    go_wp2
    repeat (go_quiet (fail); try go_wp2)
    go_loopg [7] k1 (fun kq v7 w' => ∃ (x7_2 : Int), v7 = .int .i64 x7_2 ∧ Aside0 (text_Match.l1 kq t118 x7_2 = some r) ∧ Aside0 (kq ≤ k1) ∧ Aside0 (Kd.R k94 94 w' w.heap.size (fun _ => True) v119 t118) ∧ Aside0 (Below w.heap.size w w'))
    case atStart => exact ⟨(x7_1), q5y1, H', ⟨Nat.le_refl _⟩, ⟨by (with_reducible repeat (first | apply Kd.R_alloc | apply Kd.R_drewN | apply Kd.R_drew)); exact HO_5.out⟩, ⟨by repeat (first | (with_reducible first | exact HB.out | apply below_alloc | apply pw_below_drewN | apply below_drew1) | exact HB.out)⟩⟩
    case round =>
     clear H'
     try clear c1
     try clear p1
     try clear q1
     try clear hx1
     try clear c2
     try clear p2
     try clear c4
     try clear p6
     try clear c7
     try clear c7b0
     try clear c10
     try clear c10b0
     try clear c11
     try clear c11b0
     try clear p12
     try clear q12
     try clear hx12
     try clear c14
     try clear c16
     try clear c16b0
     try clear c17
     try clear c17b0
     try clear q18
     try clear c19
     try clear c21
     try clear c21b0
     try clear c22
     try clear c22b0
     try clear c25
     try clear c26
     try clear c26b0
     try clear hx124_0
     try clear hx124_1
     try clear hx124_2
     try clear hx125_0
     try clear hx125_1
     try clear hx125_2
     try clear hx126_0
     try clear hx126_1
     try clear hx126_2
     try clear hx127_0
     try clear p1
     try clear p12
     try clear p124
     try clear p125
     try clear p126
     try clear p127
     try clear p2
     try clear p6
     try clear q1
     try clear q12
     try clear q124
     try clear q125
     try clear q126
     try clear q127
     try clear q18
     obtain ⟨x7_2, rfl, HA, HK2, HO_5, HB⟩ := hrel
     cases gk with
     | zero => exact absurd HA.out (by simp [text_Match.l1])
     | succ k2 =>
      have H := HA.out
      clear HA
      simp only [text_Match.l1] at H
      by_cases c28 : x7_2 < (t118.length : Int)
      rotate_left
      ·rw [if_neg c28] at H
       have c28b0 : decide (x7_2 < (t118.length : Int)) = false := decide_eq_false c28
       clear c28
       obtain rfl := Option.some.inj H
       obtain ⟨Ao34, co34, eo34⟩ := Kd.R_slice HO_5.out
       subst eo34
       go_wp2
       repeat (go_quiet (fail); try go_wp2)
       go_ret
       exact ⟨by first | rfl | (simp [errW_none, errW_some] <;> rfl) | (simp [*, errW_none, errW_some] <;> rfl), by repeat (first | (with_reducible first | exact HB.out | apply below_alloc | apply pw_below_drewN | apply below_drew1) | exact HB.out)⟩

      rw [if_pos c28] at H
      have c28b0 : decide (x7_2 < (t118.length : Int)) = true := decide_eq_true c28
      clear c28
      by_cases c29 : 0 ≤ x7_2
      rotate_left
      ·rw [if_neg c29] at H
       exact absurd H (by simp)
      rw [if_pos c29] at H
      have c29b0 : decide (0 ≤ x7_2) = true := decide_eq_true c29
      clear c29
      obtain ⟨bq30, hbq30⟩ : ∃ b_ : Bool, b_ = ((rd_T94 t118 x7_2).f2) := ⟨_, rfl⟩
      replace H : (if bq30 = true then (text_Match.l1 k2 t118 (wrap64 (x7_2 + 1))) else (some (x7_2 == (t118.length : Int)))) = some r := by rw [← hbq30] at H; exact H
      have Nbq30 := Aside0.mk hbq30
      clear hbq30
      by_cases c31 : bq30 = true
      rotate_left
      ·replace c31 := Bool.eq_false_iff.mpr c31
       subst c31
       have H1 : (some (x7_2 == (t118.length : Int))) = some r := by rw [if_neg (show ¬ (false = true) by decide)] at H; exact H
       clear H
       have H := H1
       clear H1
       obtain rfl := Option.some.inj H
       obtain ⟨Ao33, co33, eo33⟩ := Kd.R_slice HO_5.out
       subst eo33
       have p128 : 0 ≤ (x7_2 : Int) := of_decide_eq_true q5y2
       have q128 : x7_2 < (t118.length : Int) := of_decide_eq_true q5y2
       obtain ⟨ad128, e128, hx128_0, hx128_1, hx128_2⟩ := at_T94 (Kd.R_reads' HO_5.out).2.2 x7_2 p128 q128
       (try rw [← Nbq30.out] at hx128_1)
       (try rw [← Nbq30.out] at hx128_2)
       cases e128
       replace p128 := eq_true p128
       replace q128 := eq_true q128
       go_wp2
       repeat (go_quiet (fail); try go_wp2)
       go_ret
       exact ⟨by first | rfl | (simp [errW_none, errW_some] <;> rfl) | (simp [*, errW_none, errW_some] <;> rfl), by repeat (first | (with_reducible first | exact HB.out | apply below_alloc | apply pw_below_drewN | apply below_drew1) | exact HB.out)⟩
      subst c31
      have H1 : (text_Match.l1 k2 t118 (wrap64 (x7_2 + 1))) = some r := by rw [if_pos rfl] at H; exact H
      clear H
      have H := H1
      clear H1
      have H' := Aside0.mk H
      clear H
      obtain ⟨Ao32, co32, eo32⟩ := Kd.R_slice HO_5.out
      subst eo32
      have p128 : 0 ≤ (x7_2 : Int) := of_decide_eq_true q5y2
      have q128 : x7_2 < (t118.length : Int) := of_decide_eq_true q5y2
      obtain ⟨ad128, e128, hx128_0, hx128_1, hx128_2⟩ := at_T94 (Kd.R_reads' HO_5.out).2.2 x7_2 p128 q128
      (try rw [← Nbq30.out] at hx128_1)
      (try rw [← Nbq30.out] at hx128_2)
      cases e128
      replace p128 := eq_true p128
      replace q128 := eq_true q128
      go_wp2
      repeat (go_quiet (fail); try go_wp2)
      go_roundg k2
      case measure => have := HK1.out; have := HK2.out; omega
      case rel => exact ⟨(wrap64 (x7_2 + 1)), q5y1, H', ⟨by have := HK1.out; have := HK2.out; omega⟩, ⟨by (with_reducible repeat (first | apply Kd.R_alloc | apply Kd.R_drewN | apply Kd.R_drew)); exact HO_5.out⟩, ⟨by repeat (first | (with_reducible first | exact HB.out | apply below_alloc | apply pw_below_drewN | apply below_drew1) | exact HB.out)⟩⟩
   rw [if_pos c7] at H
   have c7b0 : decide (x8_1 < (t121.length : Int)) = true := decide_eq_true c7
   clear c7
   have HC8 := Aside0.mk H
   clear H
   obtain ⟨Ao9, co9, eo9⟩ := Kd.R_slice HO_6.out
   subst eo9
   go_upto_region 6 with (fail)
   repeat (go_quiet (fail); go_upto_region 6 with (fail))
   go_cut [19] (fun v19 wc => ∃ (kq : Nat) (x19_7 : Bool), v19 = .bool x19_7 ∧ Aside0 (text_Match.j1 kq t118 t121 x7_1 x8_1 x9_1 x10_1 x19_7 = some r) ∧ Aside0 (kq ≤ k1) ∧ Aside0 (Kd.R k94 94 wc w.heap.size (fun _ => True) v119 t118) ∧ Aside0 (Kd.R (Kd.int .i32) 21 wc w.heap.size (fun _ => True) (.slice Ao9 t121.length co9) t121) ∧ Aside0 (Below w.heap.size w wc))
   case first =>
    have H := HC8.out
    clear HC8
    by_cases c10 : x7_1 < (t118.length : Int)
    rotate_left
    ·rw [if_neg c10] at H
     have c10b0 : decide (x7_1 < (t118.length : Int)) = false := decide_eq_false c10
     clear c10
     (first | rw [c10b0] | (simp only [i64_w, i32_w]; rw [c10b0]) | skip)
     have H' := Aside0.mk H
     clear H
     obtain ⟨Ao13, co13, eo13⟩ := Kd.R_slice HO_5.out
     subst eo13
     go_wp2
     repeat (go_quiet (fail); try go_wp2)
     go_meet
     case rel => exact ⟨_, (false), q5y1, H', ⟨by have := HK1.out; first | omega | exact Nat.le_refl _⟩, ⟨by (with_reducible repeat (first | apply Kd.R_alloc | apply Kd.R_drewN | apply Kd.R_drew)); exact HO_5.out⟩, ⟨by (with_reducible repeat (first | apply Kd.R_alloc | apply Kd.R_drewN | apply Kd.R_drew)); exact HO_6.out⟩, ⟨by repeat (first | (with_reducible first | exact HB.out | apply below_alloc | apply pw_below_drewN | apply below_drew1) | exact HB.out)⟩⟩
    rw [if_pos c10] at H
    have c10b0 : decide (x7_1 < (t118.length : Int)) = true := decide_eq_true c10
    clear c10
    (first | rw [c10b0] | (simp only [i64_w, i32_w]; rw [c10b0]) | skip)
    by_cases c11 : 0 ≤ x7_1
    rotate_left
    ·rw [if_neg c11] at H
     exact absurd H (by simp)
    rw [if_pos c11] at H
    have c11b0 : decide (0 ≤ x7_1) = true := decide_eq_true c11
    clear c11
    have H' := Aside0.mk H
    clear H
    obtain ⟨Ao12, co12, eo12⟩ := Kd.R_slice HO_5.out
    subst eo12
    have p124 : 0 ≤ (x7_1 : Int) := of_decide_eq_true q5y2
    have q124 : x7_1 < (t118.length : Int) := of_decide_eq_true q5y2
    obtain ⟨ad124, e124, hx124_0, hx124_1, hx124_2⟩ := at_T94 (Kd.R_reads' HO_5.out).2.2 x7_1 p124 q124
    cases e124
    replace p124 := eq_true p124
    replace q124 := eq_true q124
    go_wp2
    repeat (go_quiet (fail); try go_wp2)
    go_meet
    case rel => exact ⟨_, ((rd_T94 t118 x7_1).f2), q5y1, H', ⟨by have := HK1.out; first | omega | exact Nat.le_refl _⟩, ⟨by (with_reducible repeat (first | apply Kd.R_alloc | apply Kd.R_drewN | apply Kd.R_drew)); exact HO_5.out⟩, ⟨by (with_reducible repeat (first | apply Kd.R_alloc | apply Kd.R_drewN | apply Kd.R_drew)); exact HO_6.out⟩, ⟨by repeat (first | (with_reducible first | exact HB.out | apply below_alloc | apply pw_below_drewN | apply below_drew1) | exact HB.out)⟩⟩
   case rest =>
    clear HC8
    try clear c1
    try clear p1
    try clear q1
    try clear hx1
    try clear p2
    try clear c4
    try clear c7
    try clear c7b0
    try clear c10
    try clear c10b0
    try clear c11
    try clear c11b0
    try clear p12
    try clear q12
    try clear hx12
    try clear hx124_0
    try clear hx124_1
    try clear hx124_2
    try clear p124
    try clear p2
    try clear q124
    obtain ⟨kq, x19_7, rfl, HA, HJ7, HO_5, HO_6, HB⟩ := hcut
    cases kq with
    | zero => exact absurd HA.out (by simp [text_Match.j1])
    | succ kj7 =>
     have H := HA.out
     clear HA
     simp only [text_Match.j1] at H
     by_cases c14 : x19_7 = true
     ·subst c14
      have H1 : (text_Match.l0 kj7 t118 t121 (wrap64 (x7_1 + 1)) x8_1 x7_1 x8_1) = some r := by rw [if_pos rfl] at H; exact H
      clear H
      have H := H1
      clear H1
      have H' := Aside0.mk H
      clear H
      go_wp2
      repeat (go_quiet (fail); try go_wp2)
      go_roundg kj7
      case measure => have := HK1.out; have := HJ7.out; omega
      case rel => exact ⟨(wrap64 (x7_1 + 1)), (x8_1), (x7_1), (x8_1), q5y1, q5y1, q5y1, q5y1, H', ⟨by have := HK1.out; have := HJ7.out; omega⟩, ⟨by (with_reducible repeat (first | apply Kd.R_alloc | apply Kd.R_drewN | apply Kd.R_drew)); exact HO_5.out⟩, ⟨by (with_reducible repeat (first | apply Kd.R_alloc | apply Kd.R_drewN | apply Kd.R_drew)); exact HO_6.out⟩, ⟨by repeat (first | (with_reducible first | exact HB.out | apply below_alloc | apply pw_below_drewN | apply below_drew1) | exact HB.out)⟩⟩
     replace c14 := Bool.eq_false_iff.mpr c14
     subst c14
     have H1 : (if x7_1 < (t118.length : Int) then (if 0 ≤ x7_1 then (if (rd_T94 t118 x7_1).f1 = true then (text_Match.j2 kj7 t118 t121 x7_1 x8_1 x9_1 x10_1 true) else (if 0 ≤ x8_1 then (if x8_1 < (t121.length : Int) then (text_Match.j2 kj7 t118 t121 x7_1 x8_1 x9_1 x10_1 (((rd_T94 t118 x7_1).f0) == (rd t121 x8_1))) else (none)) else (none))) else (none)) else (text_Match.j2 kj7 t118 t121 x7_1 x8_1 x9_1 x10_1 false)) = some r := by rw [if_neg (show ¬ (false = true) by decide)] at H; exact H
     clear H
     have H := H1
     clear H1
     have HC15 := Aside0.mk H
     clear H
     go_upto_region 9 with (fail)
     repeat (go_quiet (fail); go_upto_region 9 with (fail))
     go_cut [35] (fun v35 wc => ∃ (kq : Nat) (x35_14 : Bool), v35 = .bool x35_14 ∧ Aside0 (text_Match.j2 kq t118 t121 x7_1 x8_1 x9_1 x10_1 x35_14 = some r) ∧ Aside0 (kq ≤ kj7) ∧ Aside0 (Kd.R k94 94 wc w.heap.size (fun _ => True) v119 t118) ∧ Aside0 (Kd.R (Kd.int .i32) 21 wc w.heap.size (fun _ => True) (.slice Ao9 t121.length co9) t121) ∧ Aside0 (Below w.heap.size w wc))
     case first =>
      have H := HC15.out
      clear HC15
      by_cases c16 : x7_1 < (t118.length : Int)
      rotate_left
      ·rw [if_neg c16] at H
       have c16b0 : decide (x7_1 < (t118.length : Int)) = false := decide_eq_false c16
       clear c16
       (first | rw [c16b0] | (simp only [i64_w, i32_w]; rw [c16b0]) | skip)
       have H' := Aside0.mk H
       clear H
       obtain ⟨Ao24, co24, eo24⟩ := Kd.R_slice HO_5.out
       subst eo24
       go_wp2
       repeat (go_quiet (fail); try go_wp2)
       go_meet
       case rel => exact ⟨_, (false), q5y1, H', ⟨by have := HK1.out; have := HJ7.out; first | omega | exact Nat.le_refl _⟩, ⟨by (with_reducible repeat (first | apply Kd.R_alloc | apply Kd.R_drewN | apply Kd.R_drew)); exact HO_5.out⟩, ⟨by (with_reducible repeat (first | apply Kd.R_alloc | apply Kd.R_drewN | apply Kd.R_drew)); exact HO_6.out⟩, ⟨by repeat (first | (with_reducible first | exact HB.out | apply below_alloc | apply pw_below_drewN | apply below_drew1) | exact HB.out)⟩⟩
      rw [if_pos c16] at H
      have c16b0 : decide (x7_1 < (t118.length : Int)) = true := decide_eq_true c16
      clear c16
      (first | rw [c16b0] | (simp only [i64_w, i32_w]; rw [c16b0]) | skip)
      by_cases c17 : 0 ≤ x7_1
      rotate_left
      ·rw [if_neg c17] at H
       exact absurd H (by simp)
      rw [if_pos c17] at H
      have c17b0 : decide (0 ≤ x7_1) = true := decide_eq_true c17
      clear c17
      obtain ⟨bq18, hbq18⟩ : ∃ b_ : Bool, b_ = ((rd_T94 t118 x7_1).f1) := ⟨_, rfl⟩
      replace H : (if bq18 = true then (text_Match.j2 kj7 t118 t121 x7_1 x8_1 x9_1 x10_1 true) else (if 0 ≤ x8_1 then (if x8_1 < (t121.length : Int) then (text_Match.j2 kj7 t118 t121 x7_1 x8_1 x9_1 x10_1 (((rd_T94 t118 x7_1).f0) == (rd t121 x8_1))) else (none)) else (none))) = some r := by rw [← hbq18] at H; exact H
      have Nbq18 := Aside0.mk hbq18
      clear hbq18
      by_cases c19 : bq18 = true
      ·subst c19
       have H1 : (text_Match.j2 kj7 t118 t121 x7_1 x8_1 x9_1 x10_1 true) = some r := by rw [if_pos rfl] at H; exact H
       clear H
       have H := H1
       clear H1
       have H' := Aside0.mk H
       clear H
       obtain ⟨Ao20, co20, eo20⟩ := Kd.R_slice HO_5.out
       subst eo20
       have p125 : 0 ≤ (x7_1 : Int) := of_decide_eq_true q5y2
       have q125 : x7_1 < (t118.length : Int) := of_decide_eq_true q5y2
       obtain ⟨ad125, e125, hx125_0, hx125_1, hx125_2⟩ := at_T94 (Kd.R_reads' HO_5.out).2.2 x7_1 p125 q125
       (try rw [← Nbq18.out] at hx125_1)
       (try rw [← Nbq18.out] at hx125_2)
       cases e125
       replace p125 := eq_true p125
       replace q125 := eq_true q125
       go_wp2
       repeat (go_quiet (fail); try go_wp2)
       go_meet
       case rel => exact ⟨_, (true), q5y1, H', ⟨by have := HK1.out; have := HJ7.out; first | omega | exact Nat.le_refl _⟩, ⟨by (with_reducible repeat (first | apply Kd.R_alloc | apply Kd.R_drewN | apply Kd.R_drew)); exact HO_5.out⟩, ⟨by (with_reducible repeat (first | apply Kd.R_alloc | apply Kd.R_drewN | apply Kd.R_drew)); exact HO_6.out⟩, ⟨by repeat (first | (with_reducible first | exact HB.out | apply below_alloc | apply pw_below_drewN | apply below_drew1) | exact HB.out)⟩⟩
      replace c19 := Bool.eq_false_iff.mpr c19
      subst c19
      have H1 : (if 0 ≤ x8_1 then (if x8_1 < (t121.length : Int) then (text_Match.j2 kj7 t118 t121 x7_1 x8_1 x9_1 x10_1 (((rd_T94 t118 x7_1).f0) == (rd t121 x8_1))) else (none)) else (none)) = some r := by rw [if_neg (show ¬ (false = true) by decide)] at H; exact H
      clear H
      have H := H1
      clear H1
      by_cases c21 : 0 ≤ x8_1
      rotate_left
      ·rw [if_neg c21] at H
       exact absurd H (by simp)
      rw [if_pos c21] at H
      have c21b0 : decide (0 ≤ x8_1) = true := decide_eq_true c21
      clear c21
      by_cases c22 : x8_1 < (t121.length : Int)
      rotate_left
      ·rw [if_neg c22] at H
       exact absurd H (by simp)
      rw [if_pos c22] at H
      have c22b0 : decide (x8_1 < (t121.length : Int)) = true := decide_eq_true c22
      clear c22
      have H' := Aside0.mk H
      clear H
      obtain ⟨Ao23, co23, eo23⟩ := Kd.R_slice HO_5.out
      subst eo23
      have p125 : 0 ≤ (x7_1 : Int) := of_decide_eq_true q5y2
      have q125 : x7_1 < (t118.length : Int) := of_decide_eq_true q5y2
      obtain ⟨ad125, e125, hx125_0, hx125_1, hx125_2⟩ := at_T94 (Kd.R_reads' HO_5.out).2.2 x7_1 p125 q125
      (try rw [← Nbq18.out] at hx125_1)
      (try rw [← Nbq18.out] at hx125_2)
      cases e125
      replace p125 := eq_true p125
      replace q125 := eq_true q125
      have p126 : 0 ≤ (x7_1 : Int) := of_decide_eq_true q5y2
      have q126 : x7_1 < (t118.length : Int) := of_decide_eq_true q5y2
      obtain ⟨ad126, e126, hx126_0, hx126_1, hx126_2⟩ := at_T94 (Kd.R_reads' HO_5.out).2.2 x7_1 p126 q126
      (try rw [← Nbq18.out] at hx126_1)
      (try rw [← Nbq18.out] at hx126_2)
      obtain rfl : ad125 = ad126 := (by injection e126)
      replace p126 := eq_true p126
      replace q126 := eq_true q126
      have p127 : 0 ≤ (x8_1 : Int) := of_decide_eq_true q5y2
      have q127 : x8_1 < (t121.length : Int) := of_decide_eq_true q5y2
      obtain ⟨ad127, e127, hx127_0⟩ := Kd.at_int (Kd.R_reads' HO_6.out).2.2 x8_1 p127 q127
      cases e127
      replace p127 := eq_true p127
      replace q127 := eq_true q127
      go_wp2
      repeat (go_quiet (fail); try go_wp2)
      go_meet
      case rel => exact ⟨_, ((((rd_T94 t118 x7_1).f0) == (rd t121 x8_1))), q5y1, H', ⟨by have := HK1.out; have := HJ7.out; first | omega | exact Nat.le_refl _⟩, ⟨by (with_reducible repeat (first | apply Kd.R_alloc | apply Kd.R_drewN | apply Kd.R_drew)); exact HO_5.out⟩, ⟨by (with_reducible repeat (first | apply Kd.R_alloc | apply Kd.R_drewN | apply Kd.R_drew)); exact HO_6.out⟩, ⟨by repeat (first | (with_reducible first | exact HB.out | apply below_alloc | apply pw_below_drewN | apply below_drew1) | exact HB.out)⟩⟩
     case rest =>
      clear HC15
      try clear c1
      try clear p1
      try clear q1
      try clear hx1
      try clear c2
      try clear p2
      try clear c4
      try clear p6
      try clear c7
      try clear c7b0
      try clear c10
      try clear c10b0
      try clear c11
      try clear c11b0
      try clear p12
      try clear q12
      try clear hx12
      try clear c14
      try clear c16
      try clear c16b0
      try clear c17
      try clear c17b0
      try clear q18
      try clear c19
      try clear c21
      try clear c21b0
      try clear c22
      try clear c22b0
      try clear hx124_0
      try clear hx124_1
      try clear hx124_2
      try clear hx125_0
      try clear hx125_1
      try clear hx125_2
      try clear hx126_0
      try clear hx126_1
      try clear hx126_2
      try clear hx127_0
      try clear p1
      try clear p12
      try clear p124
      try clear p125
      try clear p126
      try clear p127
      try clear p2
      try clear q1
      try clear q12
      try clear q124
      try clear q125
      try clear q126
      try clear q127
      obtain ⟨kq, x35_14, rfl, HA, HJ14, HO_5, HO_6, HB⟩ := hcut
      cases kq with
      | zero => exact absurd HA.out (by simp [text_Match.j2])
      | succ kj14 =>
       have H := HA.out
       clear HA
       simp only [text_Match.j2] at H
       by_cases c25 : x35_14 = true
       ·subst c25
        have H1 : (text_Match.l0 kj14 t118 t121 (wrap64 (x7_1 + 1)) (wrap64 (x8_1 + 1)) x9_1 x10_1) = some r := by rw [if_pos rfl] at H; exact H
        clear H
        have H := H1
        clear H1
        have H' := Aside0.mk H
        clear H
        go_wp2
        repeat (go_quiet (fail); try go_wp2)
        go_roundg kj14
        case measure => have := HK1.out; have := HJ7.out; have := HJ14.out; omega
        case rel => exact ⟨(wrap64 (x7_1 + 1)), (wrap64 (x8_1 + 1)), (x9_1), (x10_1), q5y1, q5y1, q5y1, q5y1, H', ⟨by have := HK1.out; have := HJ7.out; have := HJ14.out; omega⟩, ⟨by (with_reducible repeat (first | apply Kd.R_alloc | apply Kd.R_drewN | apply Kd.R_drew)); exact HO_5.out⟩, ⟨by (with_reducible repeat (first | apply Kd.R_alloc | apply Kd.R_drewN | apply Kd.R_drew)); exact HO_6.out⟩, ⟨by repeat (first | (with_reducible first | exact HB.out | apply below_alloc | apply pw_below_drewN | apply below_drew1) | exact HB.out)⟩⟩
       replace c25 := Bool.eq_false_iff.mpr c25
       subst c25
       have H1 : (if x9_1 ≥ 0 then (text_Match.l0 kj14 t118 t121 (wrap64 (x9_1 + 1)) (wrap64 (x10_1 + 1)) x9_1 (wrap64 (x10_1 + 1))) else (some false)) = some r := by rw [if_neg (show ¬ (false = true) by decide)] at H; exact H
       clear H
       have H := H1
       clear H1
       by_cases c26 : x9_1 ≥ 0
       rotate_left
       ·rw [if_neg c26] at H
        have c26b0 : decide (0 ≤ x9_1) = false := decide_eq_false c26
        clear c26
        obtain rfl := Option.some.inj H
        go_wp2
        repeat (go_quiet (fail); try go_wp2)
        go_ret
        exact ⟨by first | rfl | (simp [errW_none, errW_some] <;> rfl) | (simp [*, errW_none, errW_some] <;> rfl), by repeat (first | (with_reducible first | exact HB.out | apply below_alloc | apply pw_below_drewN | apply below_drew1) | exact HB.out)⟩
       rw [if_pos c26] at H
       have c26b0 : decide (0 ≤ x9_1) = true := decide_eq_true c26
       clear c26
       have H' := Aside0.mk H
       clear H
       go_wp2
       repeat (go_quiet (fail); try go_wp2)
       go_roundg kj14
       case measure => have := HK1.out; have := HJ7.out; have := HJ14.out; omega
       case rel => exact ⟨(wrap64 (x9_1 + 1)), (wrap64 (x10_1 + 1)), (x9_1), (wrap64 (x10_1 + 1)), q5y1, q5y1, q5y1, q5y1, H', ⟨by have := HK1.out; have := HJ7.out; have := HJ14.out; omega⟩, ⟨by (with_reducible repeat (first | apply Kd.R_alloc | apply Kd.R_drewN | apply Kd.R_drew)); exact HO_5.out⟩, ⟨by (with_reducible repeat (first | apply Kd.R_alloc | apply Kd.R_drewN | apply Kd.R_drew)); exact HO_6.out⟩, ⟨by repeat (first | (with_reducible first | exact HB.out | apply below_alloc | apply pw_below_drewN | apply below_drew1) | exact HB.out)⟩⟩
-- NOT PRINTED: function 15 (filter_Holds)

/-! ### num_Key: function 45 -/
def num_Key.l0 : Nat → Int → List Int → Int → Int → Option (List Int)
 | 0, _, _, _, _ => none
 | k + 1, x0, x3, x7, x8 => if x8 < x7 then (if 0 ≤ (wrap64 (8 * x8)) then (if 0 ≤ (wrap64 (7 - x8)) then (if (wrap64 (7 - x8)) < (x3.length : Int) then (num_Key.l0 k x0 (x3.set ((wrap64 (7 - x8)) : Int).toNat ((shr .u64 x0 (wrap64 (8 * x8))) % 256)) x7 (wrap64 (x8 + 1))) else (none)) else (none)) else (none)) else (some x3)
def num_Key.f (k : Nat) (a0 : Int) : Option (List Int) := if 8 ≤ 281474976710656 then ((some (List.replicate 8 0 : List Int)).bind fun y131 => (num_Key.l0 k a0 y131 (y131.length : Int) 0)) else (none)
theorem num_Key.mono_l : ∀ k, (∀ y0 y1 y2 y3, LeO (num_Key.l0 k y0 y1 y2 y3) (num_Key.l0 (k + 1) y0 y1 y2 y3))
 | 0 => fun _ _ _ _ r h => by simp [num_Key.l0] at h
 | k + 1 => by
  have ih0 := num_Key.mono_l k
  ·intro y0 y1 y2 y3
   unfold num_Key.l0
   repeat' first
   | (with_reducible exact ih0 _ _ _ _)
   | (with_reducible exact LeO.refl _)
   | (with_reducible exact LeO.none _)
   | (with_reducible refine LeO.ite ?_ ?_)
   | (with_reducible refine LeO.bind ?_ (fun _ => ?_))
   | exact ih0 _ _ _ _
   | exact LeO.none _
   | refine LeO.ite ?_ ?_
   | refine LeO.bind ?_ (fun _ => ?_)
theorem num_Key.mono : ∀ a0 k, LeO (num_Key.f k a0) (num_Key.f (k + 1) a0) := by
 intro a0 k
 have ih0 := num_Key.mono_l k
 unfold num_Key.f
 repeat' first
   | (with_reducible exact ih0 _ _ _ _)
   | (with_reducible exact LeO.refl _)
   | (with_reducible exact LeO.none _)
   | (with_reducible refine LeO.ite ?_ ?_)
   | (with_reducible refine LeO.bind ?_ (fun _ => ?_))
   | exact ih0 _ _ _ _
   | exact LeO.none _
   | refine LeO.ite ?_ ?_
   | refine LeO.bind ?_ (fun _ => ?_)
set_option maxHeartbeats 8000000 in
set_option maxRecDepth 100000 in
theorem num_Key.calls (k : Nat) (a0 : Int) (r : List Int) (w : World) (h : num_Key.f k a0 = some r) :
  Calls Try.prog 45 #[.int .u64 a0] w fun e w' => ∃ v0_ : Value, e = .returned (v0_) ∧ Kd.R (Kd.int .u8) 5 w' w.heap.size (fun _ => True) v0_ r ∧ Below w.heap.size w w' := by
 have HB := Aside0.mk (Below.refl w.heap.size w)
 have H : (if 8 ≤ 281474976710656 then ((some (List.replicate 8 0 : List Int)).bind fun y131 => (num_Key.l0 k a0 y131 (y131.length : Int) 0)) else (none)) = some r := h
 clear h
 by_cases c2 : 8 ≤ 281474976710656
 rotate_left
 ·rw [if_neg c2] at H
  exact absurd H (by simp)

 rw [if_pos c2] at H
 have c2b0 := eq_true c2
 have c2b1 : decide (8 ≤ 281474976710656) = true := decide_eq_true c2
 clear c2
 obtain ⟨y131, hy131⟩ : ∃ y_ : List Int, y_ = (List.replicate 8 0) := ⟨_, rfl⟩
 replace H : (num_Key.l0 k a0 y131 (y131.length : Int) 0) = some r := by first | (rw [hy131]; with_reducible exact H) | (have H2_ := (Option.bind_some _ _).symm.trans H; rw [hy131]; with_reducible exact H2_) | (have H2_ := (Option.bind_some _ _).symm.trans H; with_reducible exact H2_) | with_reducible exact H | (rw [hy131]; exact H) | exact H
 have Ny131 := Aside0.mk hy131
 clear hy131
 have H' := Aside0.mk H
 clear H
 go_enter Try.func45, Try.ntmps45
 go_wp2_with (first | ((with_reducible refine gate_dst (N := 5) rfl ?_); refine Kd.R_make (Kd.int .u8) _ 5 rfl (N := 5) rfl 50 _ _ rfl 8 rfl rfl Try.underlying50 (.int .u8 0) 1 info5 rfl (by decide) (by omega) 0 (ok := fun _ => True) (okp := fun _ => True) rfl (fun _ hk => hk) trivial (by omega) (by omega) (Below.refl _ _) (Nat.le_refl _) ?_; intro v132 w3 ho4 hb hg_ hnew_; clear hg_ hnew_; (first | rw [← Ny131.out] at ho4 | (simp only [Int.reduceToNat] at ho4; rw [← Ny131.out] at ho4)); have n0_ := Aside0.mk (Kd.R_lower ho4 (below_size q5y0)); have n1_ := Aside0.mk (below_step q5y0 hb); clear HB; have HO133 := n0_; have HB := n1_; clear n0_ n1_; clear hb ho4; obtain ⟨Ao5, co5, eo5⟩ := Kd.R_slice HO133.out; subst eo5))
 go_loopg [8] k (fun kq v8 w' => ∃ (x3_1 : List Int) (x8_1 : Int), v8 = .int .i64 x8_1 ∧ Aside0 (num_Key.l0 kq a0 x3_1 (y131.length : Int) x8_1 = some r) ∧ Aside0 (kq ≤ k) ∧ Aside0 (Kd.R (Kd.int .u8) 5 w' w.heap.size (fun _ => True) (.slice Ao5 y131.length co5) x3_1) ∧ Aside0 (Below w.heap.size w w'))
 case atStart => exact ⟨(y131), (0), q5y1, H', ⟨Nat.le_refl _⟩, ⟨by (with_reducible repeat (first | apply Kd.R_alloc | apply Kd.R_drewN | apply Kd.R_drew)); exact HO133.out⟩, ⟨by repeat (first | (with_reducible first | exact HB.out | apply below_alloc | apply pw_below_drewN | apply below_drew1) | exact HB.out)⟩⟩
 case round =>
  clear H'
  try clear c2
  try clear c2b0
  try clear c2b1
  try clear p2
  try clear c4
  obtain ⟨x3_1, x8_1, rfl, HA, HK1, HO_3, HB⟩ := hrel
  have hl3_1 := (Kd.R_reads' HO_3.out).1
  rw [hl3_1] at HO_3
  (try simp only [hl3_1])
  cases gk with
  | zero => exact absurd HA.out (by simp [num_Key.l0])
  | succ k1 =>
   have H := HA.out
   clear HA
   simp only [num_Key.l0] at H
   by_cases c6 : x8_1 < (y131.length : Int)
   rotate_left
   ·rw [if_neg c6] at H
    have c6b0 : decide (x8_1 < (y131.length : Int)) = false := decide_eq_false c6
    (try simp only [hl3_1] at c6b0)
    clear c6
    obtain rfl := Option.some.inj H
    go_wp2
    go_ret
    exact ⟨_, by first | rfl | (simp [errW_none, errW_some] <;> rfl) | (simp [*, errW_none, errW_some] <;> rfl), by (with_reducible repeat (first | apply Kd.R_alloc | apply Kd.R_drewN | apply Kd.R_drew)); exact HO_3.out, by repeat (first | (with_reducible first | exact HB.out | apply below_alloc | apply pw_below_drewN | apply below_drew1) | exact HB.out)⟩
   rw [if_pos c6] at H
   have c6b0 : decide (x8_1 < (y131.length : Int)) = true := decide_eq_true c6
   (try simp only [hl3_1] at c6b0)
   clear c6
   obtain ⟨ji7, hji7⟩ : ∃ j_ : Int, (wrap64 (8 * x8_1)) = j_ := ⟨_, rfl⟩
   replace H : (if 0 ≤ (ji7) then (if 0 ≤ (wrap64 (7 - x8_1)) then (if (wrap64 (7 - x8_1)) < (x3_1.length : Int) then (num_Key.l0 k1 a0 (x3_1.set ((wrap64 (7 - x8_1)) : Int).toNat ((shr .u64 a0 (ji7)) % 256)) (y131.length : Int) (wrap64 (x8_1 + 1))) else (none)) else (none)) else (none)) = some r := by first | (rw [hji7] at H; exact H) | (simp only [hji7] at H ⊢; exact H)
   have hji7w : (IntKind.i64.wrap (8 * x8_1)) = ji7 := (i64_w _).trans hji7
   by_cases c8 : 0 ≤ (ji7)
   rotate_left
   ·rw [if_neg c8] at H
    exact absurd H (by simp)
   rw [if_pos c8] at H
   have c8b0 := eq_true c8
   (try simp only [hl3_1] at c8b0)
   have c8b1 : decide (0 ≤ (ji7)) = true := decide_eq_true c8
   (try simp only [hl3_1] at c8b1)
   clear c8
   obtain ⟨ji9, hji9⟩ : ∃ j_ : Int, (shr .u64 a0 (ji7)) = j_ := ⟨_, rfl⟩
   replace H : (if 0 ≤ (wrap64 (7 - x8_1)) then (if (wrap64 (7 - x8_1)) < (x3_1.length : Int) then (num_Key.l0 k1 a0 (x3_1.set ((wrap64 (7 - x8_1)) : Int).toNat ((ji9) % 256)) (y131.length : Int) (wrap64 (x8_1 + 1))) else (none)) else (none)) = some r := by first | (rw [hji9] at H; exact H) | (simp only [hji9] at H ⊢; exact H)
   have hji9_ : (a0 / 2 ^ min (ji7).toNat 64) = ji9 := hji9
   have hji9z : (ji7) ≤ 64 → (a0 / 2 ^ (ji7).toNat) = ji9 := shr_small hji9
   obtain ⟨ji10, hji10⟩ : ∃ j_ : Int, (wrap64 (7 - x8_1)) = j_ := ⟨_, rfl⟩
   replace H : (if 0 ≤ (ji10) then (if (ji10) < (x3_1.length : Int) then (num_Key.l0 k1 a0 (x3_1.set ((ji10) : Int).toNat ((ji9) % 256)) (y131.length : Int) (wrap64 (x8_1 + 1))) else (none)) else (none)) = some r := by first | (rw [hji10] at H; exact H) | (simp only [hji10] at H ⊢; exact H)
   have hji10w : (IntKind.i64.wrap (7 - x8_1)) = ji10 := (i64_w _).trans hji10
   by_cases c11 : 0 ≤ (ji10)
   rotate_left
   ·rw [if_neg c11] at H
    exact absurd H (by simp)
   rw [if_pos c11] at H
   have c11b0 : decide (0 ≤ (ji10)) = true := decide_eq_true c11
   (try simp only [hl3_1] at c11b0)
   clear c11
   by_cases c12 : (ji10) < (x3_1.length : Int)
   rotate_left
   ·rw [if_neg c12] at H
    exact absurd H (by simp)
   rw [if_pos c12] at H
   have c12b0 : decide ((ji10) < (x3_1.length : Int)) = true := decide_eq_true c12
   (try simp only [hl3_1] at c12b0)
   clear c12
   obtain ⟨y134, hy134⟩ : ∃ y_ : List Int, y_ = (x3_1.set ((ji10) : Int).toNat ((ji9) % 256)) := ⟨_, rfl⟩
   replace H : (num_Key.l0 k1 a0 y134 (y131.length : Int) (wrap64 (x8_1 + 1))) = some r := by first | (rw [hy134]; with_reducible exact H) | (have H2_ := (Option.bind_some _ _).symm.trans H; rw [hy134]; with_reducible exact H2_) | (have H2_ := (Option.bind_some _ _).symm.trans H; with_reducible exact H2_) | with_reducible exact H | (rw [hy134]; exact H) | exact H
   have Ny134 := Aside0.mk hy134
   clear hy134
   have H' := Aside0.mk H
   clear H
   have p13 : 0 ≤ ((ji10) : Int) := of_decide_eq_true q5y2
   have q13 : ((ji10) : Int) < ((x3_1.length : Int) : Int) := of_decide_eq_true q5y2
   obtain ⟨go13, co13, eo13, gb13, gl13, cl13, HG13⟩ := Kd.R_form HO_3.out (by omega)
   (first | cases eo13 | (injection eo13 with ea_ en_ ec_; (first | subst ea_ | (injection ea_ with ea_; subst ea_)); subst ec_; clear en_))
   have GB13 := Aside0.mk gb13
   have GG13 := Aside0.mk HG13
   clear gb13 gl13 HG13
   obtain ⟨hx13_0, hf13_0⟩ := Kd.R_celln 0 HO_3.out ((ji10) : Int) p13 q13
   replace p13 := eq_true p13
   replace q13 := eq_true q13
   have HP14 := Kd.R_putg HO_3.out ((ji10) : Int) ((ji9) % 256)
   go_wp2_with (first | ((with_reducible refine gate_store (t := 5) (p := 19) rfl ?_); refine store_event (t := 5) (p := 19) (v := ?vo_w15) (w1 := (wr.setCell ⟨go13, ((ji10) : Int).toNat, none⟩ (.int .u8 ((ji9) % 256)))) ?hg ?ho ?hn ?hr ?_; (case ho => rfl); (case hg => rfl); (case hn => rfl); (case hr => first | (go_simp; done) | (go_simp; rfl)); intro w15 hw; have hg : wr.grownBy w15 (some go13) := (by rw [hw]; exact HP14.2); have hp_ : Kd.R (Kd.int .u8) 5 w15 w.heap.size (fun _ => True) (.slice (some ⟨go13, 0, none⟩) x3_1.length co5) y134 := (by rw [hw, Ny134.out]; exact HP14.1); clear HP14; have n0_ := Aside0.mk (hp_); have n1_ := Aside0.mk ((by rw [hw]; exact below_set (HB.out) GB13.out : Below w.heap.size w w15)); clear HO_3; clear HB; have HO_3 := n0_; have HB := n1_; clear n0_ n1_; clear hg hw hp_))
   (try simp only [← hl3_1])
   go_roundg k1
   case measure => have := HK1.out; omega
   case rel => exact ⟨(y134), (wrap64 (x8_1 + 1)), q5y1, H', ⟨by have := HK1.out; omega⟩, ⟨by (try simp only [hl3_1]); (with_reducible repeat (first | apply Kd.R_alloc | apply Kd.R_drewN | apply Kd.R_drew)); exact HO_3.out⟩, ⟨by repeat (first | (with_reducible first | exact HB.out | apply below_alloc | apply pw_below_drewN | apply below_drew1) | exact HB.out)⟩⟩
end Go.Proofs.Ytffggkhahambhaa.PAll
