-- Written by a program: the kit's print.py, driven for several laws at once. Not trusted: Lean checks it.
import Derived.Test.YtffggkhahambhaaPAllx0
namespace Go.Proofs.Ytffggkhahambhaa.PAll
open Go.RowKit Go.Proofs.YtffggkhahambhaaW.PrintWords Go.Proofs.YtffggkhahambhaaW.PrintLast Go.Proofs.YtffggkhahambhaaW.PrintMore
attribute [local go_sem] max2_int min2_int max_two min_two max_three min_three max_four min_four   -- for this text's walks alone
set_option linter.unusedVariables false
set_option linter.unusedSimpArgs false

/-! ### cambiumref16_Small: function 20 -/
def q14m (n m : Nat) : Array Bool := ((List.range n).map (Nat.testBit m)).toArray
theorem q14a {α : Type} (xs : List α) (i : Nat) (x : α) : xs.toArray.setIfInBounds i x = (xs.set i x).toArray := List.setIfInBounds_toArray ..
theorem q14b {α : Type} (x y : α) (xs : List α) : (x :: xs).set 0 y = y :: xs := List.set_cons_zero ..
theorem q14c {α : Type} (x y : α) (xs : List α) (n : Nat) : (x :: xs).set (n + 1) y = x :: xs.set n y := List.set_cons_succ ..
theorem q14h {w w' : World} {p : Addr} {v : Value} (h : Below w.heap.size w w') (x : w.cell? p = some v) : w'.cell? p = some v := (h.cell (World.block_lt_of_cell? w _ x)).trans x
theorem q14p {P : Program} {md : Region.Mode} {ops : Array Oper} {Q : Exit → Act → World → Prop} {S : World → Prop} {ds : List Nat} {T : Bool × List (List Nat × List Nat)} {i : Nat} {N : Option Tmp} {oi : Oper} {v : Value} {fuel : Nat} {l : Array Bool} {a : Act} {w : World} (l' : Array Bool) (hT : rtab md ops = T) {a' : Act}
    (h : wpAnyLast P md ops Q S ds fuel l' a' w) (hi : ops[i]? = some oi := by rfl) (hN : oi.dst = N := by rfl) (hc : anyT T l.toList l'.toList i = true := by kernel_rfl) (hQ : ∀ c a w, Q (.panic c) (a.put oi.dst v) w → Q (.panic c) a w := by exact fun _ _ _ h => h)
    (hw : Region.wanted oi (yielded ops a.tmps) = true := by rfl) (hy : ∀ w', (execOp a.eval oi).run P w' = .ok (.value v) w' := by intro w'; go_simp; with_reducible rfl) (ha : a.put N v = a' := by simp only [Act.put, q14a, q14b, q14c, i64_w, i32_w]; rfl) :
    wpAnyLast P md ops Q S ds (fuel + 1) l a w := pure_ l' hi hN (any_of hT hc) hQ (Or.inl ⟨hw, hy⟩) ha h
theorem q14u {P : Program} {md : Region.Mode} {ops : Array Oper} {Q : Exit → Act → World → Prop} {S : World → Prop} {ds : List Nat} {T : Bool × List (List Nat × List Nat)} {i : Nat} {N : Option Tmp} {oi : Oper} {fuel : Nat} {l : Array Bool} {a : Act} {w : World} (l' : Array Bool) (hT : rtab md ops = T) {a' : Act}
    (h : wpAnyLast P md ops Q S ds fuel l' a' w) (hi : ops[i]? = some oi := by rfl) (hN : oi.dst = N := by rfl) (hc : anyT T l.toList l'.toList i = true := by kernel_rfl) (hQ : ∀ c a w, Q (.panic c) (a.put oi.dst undef) w → Q (.panic c) a w := by exact fun _ _ _ h => h)
    (hw : Region.wanted oi (yielded ops a.tmps) = false := by rfl) (ha : a.put N undef = a' := by simp only [Act.put, q14a, q14b, q14c, i64_w, i32_w]; rfl) :
    wpAnyLast P md ops Q S ds (fuel + 1) l a w := pure_ l' hi hN (any_of hT hc) hQ (Or.inr ⟨hw, rfl⟩) ha h
theorem q14k {w : World} {g : Nat} {cs : Array Value} {t : TypeId} (h : w.heap[g]? = some (.cells cs t (0, 0))) (i : Nat) {v : Value} (e : cs[i]? = some v := by rfl) : w.cell? ⟨g, i, none⟩ = some v := (blk_cell h i).trans e
theorem q14y0 {P : Prop} (h : P := by repeat (first | (with_reducible first | exact HB.out | apply below_alloc | apply pw_below_drewN | apply below_drew1) | exact HB.out)) : P := h
theorem q14y1 {P : Prop} (h : P := by first | rfl | (simp; done) | (simp [*]; done)) : P := h
theorem q14y2 {P : Prop} (h : P := by first | (with_reducible assumption) | assumption) : P := h

mutual
def cambiumref16_Small.j1 : Nat → Int → Int → Int → Int → ByteArray → ByteArray → Int → Int → Int → List (S45) → List (S77) → List (S80) → Option (Bool)
 | 0, _, _, _, _, _, _, _, _, _, _, _, _ => none
 | k + 1, x3, x222000, x222001, x222002, x222003, x222004, x222005, x222006, x222007, x222008, x222009, x222010 => cambiumref16_Small.l1 k x3 0 x222000 x222001 x222002 x222003 x222004 x222005 x222006 x222007 x222008 x222009 x222010
def cambiumref16_Small.l1 : Nat → Int → Int → Int → Int → Int → ByteArray → ByteArray → Int → Int → Int → List (S45) → List (S77) → List (S80) → Option (Bool)
 | 0, _, _, _, _, _, _, _, _, _, _, _, _, _ => none
 | k + 1, x3, x5, x222000, x222001, x222002, x222003, x222004, x222005, x222006, x222007, x222008, x222009, x222010 => if x5 < (x222009.length : Int) then (if x3 ≤ 6000 then (if 0 ≤ x5 then (cambiumref16_Small.l1 k (wrap64 ((wrap64 (x3 + 1)) + (((rd_T77 x222009 x5).f1).size : Int))) (wrap64 (x5 + 1)) x222000 x222001 x222002 x222003 x222004 x222005 x222006 x222007 x222008 x222009 x222010) else (none)) else (some (decide ((wrap64 (x3 + (x222010.length : Int))) ≤ 6000)))) else (some (decide ((wrap64 (x3 + (x222010.length : Int))) ≤ 6000)))
def cambiumref16_Small.l0 : Nat → Int → Int → Int → Int → Int → ByteArray → ByteArray → Int → Int → Int → List (S45) → List (S77) → List (S80) → Option (Bool)
 | 0, _, _, _, _, _, _, _, _, _, _, _, _, _ => none
 | k + 1, x3, x4, x222000, x222001, x222002, x222003, x222004, x222005, x222006, x222007, x222008, x222009, x222010 => if x4 < (x222008.length : Int) then (if x3 ≤ 6000 then (if 0 ≤ x4 then (cambiumref16_Small.l0 k (wrap64 ((wrap64 ((wrap64 (x3 + 1)) + (((rd_T45 x222008 x4).f0).size : Int))) + (((rd_T45 x222008 x4).f1.f1).size : Int))) (wrap64 (x4 + 1)) x222000 x222001 x222002 x222003 x222004 x222005 x222006 x222007 x222008 x222009 x222010) else (none)) else (cambiumref16_Small.j1 k x3 x222000 x222001 x222002 x222003 x222004 x222005 x222006 x222007 x222008 x222009 x222010)) else (cambiumref16_Small.j1 k x3 x222000 x222001 x222002 x222003 x222004 x222005 x222006 x222007 x222008 x222009 x222010)
end
def cambiumref16_Small.f (k : Nat) (a0_0 : Int) (a0_1 : Int) (a0_2 : Int) (a0_3 : ByteArray) (a0_4 : ByteArray) (a0_5 : Int) (a0_6 : Int) (a0_7 : Int) (l0_8 : List (S45)) (l0_9 : List (S77)) (l0_10 : List (S80)) : Option (Bool) := cambiumref16_Small.l0 k (wrap64 ((a0_3.size : Int) + (a0_4.size : Int))) 0 a0_0 a0_1 a0_2 a0_3 a0_4 a0_5 a0_6 a0_7 l0_8 l0_9 l0_10
theorem cambiumref16_Small.mono_l : ∀ k, (∀ y0 y1 y2 y3 y4 y5 y6 y7 y8 y9 y10 y11, LeO (cambiumref16_Small.j1 k y0 y1 y2 y3 y4 y5 y6 y7 y8 y9 y10 y11) (cambiumref16_Small.j1 (k + 1) y0 y1 y2 y3 y4 y5 y6 y7 y8 y9 y10 y11)) ∧ (∀ y0 y1 y2 y3 y4 y5 y6 y7 y8 y9 y10 y11 y12, LeO (cambiumref16_Small.l1 k y0 y1 y2 y3 y4 y5 y6 y7 y8 y9 y10 y11 y12) (cambiumref16_Small.l1 (k + 1) y0 y1 y2 y3 y4 y5 y6 y7 y8 y9 y10 y11 y12)) ∧ (∀ y0 y1 y2 y3 y4 y5 y6 y7 y8 y9 y10 y11 y12, LeO (cambiumref16_Small.l0 k y0 y1 y2 y3 y4 y5 y6 y7 y8 y9 y10 y11 y12) (cambiumref16_Small.l0 (k + 1) y0 y1 y2 y3 y4 y5 y6 y7 y8 y9 y10 y11 y12))
 | 0 => ⟨fun _ _ _ _ _ _ _ _ _ _ _ _ r h => by simp [cambiumref16_Small.j1] at h, fun _ _ _ _ _ _ _ _ _ _ _ _ _ r h => by simp [cambiumref16_Small.l1] at h, fun _ _ _ _ _ _ _ _ _ _ _ _ _ r h => by simp [cambiumref16_Small.l0] at h⟩
 | k + 1 => by
  obtain ⟨ih0, ih1, ih2⟩ := cambiumref16_Small.mono_l k
  refine ⟨?_, ?_, ?_⟩
  ·intro y0 y1 y2 y3 y4 y5 y6 y7 y8 y9 y10 y11
   unfold cambiumref16_Small.j1
   repeat' first
   | (with_reducible exact ih0 _ _ _ _ _ _ _ _ _ _ _ _)
   | (with_reducible exact ih1 _ _ _ _ _ _ _ _ _ _ _ _ _)
   | (with_reducible exact ih2 _ _ _ _ _ _ _ _ _ _ _ _ _)
   | (with_reducible exact LeO.refl _)
   | (with_reducible exact LeO.none _)
   | (with_reducible refine LeO.ite ?_ ?_)
   | (with_reducible refine LeO.bind ?_ (fun _ => ?_))
   | exact ih0 _ _ _ _ _ _ _ _ _ _ _ _
   | exact ih1 _ _ _ _ _ _ _ _ _ _ _ _ _
   | exact ih2 _ _ _ _ _ _ _ _ _ _ _ _ _
   | exact LeO.none _
   | refine LeO.ite ?_ ?_
   | refine LeO.bind ?_ (fun _ => ?_)
  ·intro y0 y1 y2 y3 y4 y5 y6 y7 y8 y9 y10 y11 y12
   unfold cambiumref16_Small.l1
   repeat' first
   | (with_reducible exact ih0 _ _ _ _ _ _ _ _ _ _ _ _)
   | (with_reducible exact ih1 _ _ _ _ _ _ _ _ _ _ _ _ _)
   | (with_reducible exact ih2 _ _ _ _ _ _ _ _ _ _ _ _ _)
   | (with_reducible exact LeO.refl _)
   | (with_reducible exact LeO.none _)
   | (with_reducible refine LeO.ite ?_ ?_)
   | (with_reducible refine LeO.bind ?_ (fun _ => ?_))
   | exact ih0 _ _ _ _ _ _ _ _ _ _ _ _
   | exact ih1 _ _ _ _ _ _ _ _ _ _ _ _ _
   | exact ih2 _ _ _ _ _ _ _ _ _ _ _ _ _
   | exact LeO.none _
   | refine LeO.ite ?_ ?_
   | refine LeO.bind ?_ (fun _ => ?_)
  ·intro y0 y1 y2 y3 y4 y5 y6 y7 y8 y9 y10 y11 y12
   unfold cambiumref16_Small.l0
   repeat' first
   | (with_reducible exact ih0 _ _ _ _ _ _ _ _ _ _ _ _)
   | (with_reducible exact ih1 _ _ _ _ _ _ _ _ _ _ _ _ _)
   | (with_reducible exact ih2 _ _ _ _ _ _ _ _ _ _ _ _ _)
   | (with_reducible exact LeO.refl _)
   | (with_reducible exact LeO.none _)
   | (with_reducible refine LeO.ite ?_ ?_)
   | (with_reducible refine LeO.bind ?_ (fun _ => ?_))
   | exact ih0 _ _ _ _ _ _ _ _ _ _ _ _
   | exact ih1 _ _ _ _ _ _ _ _ _ _ _ _ _
   | exact ih2 _ _ _ _ _ _ _ _ _ _ _ _ _
   | exact LeO.none _
   | refine LeO.ite ?_ ?_
   | refine LeO.bind ?_ (fun _ => ?_)
theorem cambiumref16_Small.mono : ∀ a0 a1 a2 a3 a4 a5 a6 a7 a8 a9 a10 k, LeO (cambiumref16_Small.f k a0 a1 a2 a3 a4 a5 a6 a7 a8 a9 a10) (cambiumref16_Small.f (k + 1) a0 a1 a2 a3 a4 a5 a6 a7 a8 a9 a10) := by
 intro a0 a1 a2 a3 a4 a5 a6 a7 a8 a9 a10 k
 obtain ⟨ih0, ih1, ih2⟩ := cambiumref16_Small.mono_l k
 unfold cambiumref16_Small.f
 repeat' first
   | (with_reducible exact ih0 _ _ _ _ _ _ _ _ _ _ _ _)
   | (with_reducible exact ih1 _ _ _ _ _ _ _ _ _ _ _ _ _)
   | (with_reducible exact ih2 _ _ _ _ _ _ _ _ _ _ _ _ _)
   | (with_reducible exact LeO.refl _)
   | (with_reducible exact LeO.none _)
   | (with_reducible refine LeO.ite ?_ ?_)
   | (with_reducible refine LeO.bind ?_ (fun _ => ?_))
   | exact ih0 _ _ _ _ _ _ _ _ _ _ _ _
   | exact ih1 _ _ _ _ _ _ _ _ _ _ _ _ _
   | exact ih2 _ _ _ _ _ _ _ _ _ _ _ _ _
   | exact LeO.none _
   | refine LeO.ite ?_ ?_
   | refine LeO.bind ?_ (fun _ => ?_)
set_option maxHeartbeats 8000000 in
set_option maxRecDepth 100000 in
theorem cambiumref16_Small.calls (k : Nat) (a0_0 : Int) (a0_1 : Int) (a0_2 : Int) (a0_3 : ByteArray) (a0_4 : ByteArray) (a0_5 : Int) (a0_6 : Int) (a0_7 : Int) (A0_8 : Option Addr) (c0_8 : Nat) (l0_8 : List (S45)) (A0_9 : Option Addr) (c0_9 : Nat) (l0_9 : List (S77)) (A0_10 : Option Addr) (c0_10 : Nat) (l0_10 : List (S80)) (r : Bool) (w : World) (hr0_8 : Kd.C k45 w A0_8 l0_8.length l0_8) (hc0_8 : l0_8.length ≤ c0_8) (hr0_9 : Kd.C k77 w A0_9 l0_9.length l0_9) (hc0_9 : l0_9.length ≤ c0_9) (hr0_10 : Kd.C k80 w A0_10 l0_10.length l0_10) (hc0_10 : l0_10.length ≤ c0_10) (h : cambiumref16_Small.f k a0_0 a0_1 a0_2 a0_3 a0_4 a0_5 a0_6 a0_7 l0_8 l0_9 l0_10 = some r) :
  Calls Try.prog 20 #[.agg #[.int .u64 a0_0, .int .u64 a0_1, .int .u64 a0_2, .string a0_3, .string a0_4, .int .i64 a0_5, .int .i64 a0_6, .int .i64 a0_7, .slice A0_8 l0_8.length c0_8, .slice A0_9 l0_9.length c0_9, .slice A0_10 l0_10.length c0_10]] w fun e w' => e = .returned (.bool r) ∧ Below w.heap.size w w' := by
 have hu34 := Try.underlying34
 have HR0_8 := Aside0.mk hr0_8
 have HC0_8 := Aside0.mk hc0_8
 clear hr0_8 hc0_8
 have HR0_9 := Aside0.mk hr0_9
 have HC0_9 := Aside0.mk hc0_9
 clear hr0_9 hc0_9
 have HR0_10 := Aside0.mk hr0_10
 have HC0_10 := Aside0.mk hc0_10
 clear hr0_10 hc0_10
 have HB := Aside0.mk (Below.refl w.heap.size w)
 have H : (cambiumref16_Small.l0 k (wrap64 ((a0_3.size : Int) + (a0_4.size : Int))) 0 a0_0 a0_1 a0_2 a0_3 a0_4 a0_5 a0_6 a0_7 l0_8 l0_9 l0_10) = some r := h
 clear h
 have HC2 := Aside0.mk H
 clear H
 go_enter Try.func20, Try.ntmps20
 go_upto_block 0 with (first | ((with_reducible refine gate_dst (N := 1) rfl ?_); refine box_event ?hg (N := 1) ?hd (cs := #[.int .u64 a0_0, .int .u64 a0_1, .int .u64 a0_2, .string a0_3, .string a0_4, .int .i64 a0_5, .int .i64 a0_6, .int .i64 a0_7, .slice A0_8 l0_8.length c0_8, .slice A0_9 l0_9.length c0_9, .slice A0_10 l0_10.length c0_10]) (t := 34) ?hr ?_; (case hd => rfl); (case hg => rfl); (case hr => first | (go_simp; done) | (go_simp; rfl)); intro gb221 hg w3 hbox hb; have n0_ := Aside0.mk (below_step q14y0 hb); have n1_ := Aside0.mk (hbox); have n2_ := Aside0.mk ((by rw [hg]; exact (below_size q14y0) : w.heap.size ≤ gb221)); have n3_ := Aside0.mk ((by rw [hg]; exact (below_size q14y0) : w.heap.size ≤ gb221)); clear HB; have HB := n0_; have BK221 := n1_; have GW221 := n2_; have GE221 := n3_; clear n0_ n1_ n2_ n3_; clear hb hbox hg; have hcz4_0 : w3.cell? ⟨gb221, 0, none⟩ = some (.int .u64 a0_0) := (blk_cell BK221.out 0).trans rfl; have hcz4_1 : w3.cell? ⟨gb221, 1, none⟩ = some (.int .u64 a0_1) := (blk_cell BK221.out 1).trans rfl; have hcz4_2 : w3.cell? ⟨gb221, 2, none⟩ = some (.int .u64 a0_2) := (blk_cell BK221.out 2).trans rfl; have hcz4_3 : w3.cell? ⟨gb221, 3, none⟩ = some (.string a0_3) := (blk_cell BK221.out 3).trans rfl; have hcz4_4 : w3.cell? ⟨gb221, 4, none⟩ = some (.string a0_4) := (blk_cell BK221.out 4).trans rfl; have hcz4_5 : w3.cell? ⟨gb221, 5, none⟩ = some (.int .i64 a0_5) := (blk_cell BK221.out 5).trans rfl; have hcz4_6 : w3.cell? ⟨gb221, 6, none⟩ = some (.int .i64 a0_6) := (blk_cell BK221.out 6).trans rfl; have hcz4_7 : w3.cell? ⟨gb221, 7, none⟩ = some (.int .i64 a0_7) := (blk_cell BK221.out 7).trans rfl; have hcz4_8 : w3.cell? ⟨gb221, 8, none⟩ = some (.slice A0_8 l0_8.length c0_8) := (blk_cell BK221.out 8).trans rfl; have hcz4_9 : w3.cell? ⟨gb221, 9, none⟩ = some (.slice A0_9 l0_9.length c0_9) := (blk_cell BK221.out 9).trans rfl; have hcz4_10 : w3.cell? ⟨gb221, 10, none⟩ = some (.slice A0_10 l0_10.length c0_10) := (blk_cell BK221.out 10).trans rfl; have hfz4_0 := blk_frozen BK221.out 0; have hfz4_1 := blk_frozen BK221.out 1; have hfz4_2 := blk_frozen BK221.out 2; have hfz4_3 := blk_frozen BK221.out 3; have hfz4_4 := blk_frozen BK221.out 4; have hfz4_5 := blk_frozen BK221.out 5; have hfz4_6 := blk_frozen BK221.out 6; have hfz4_7 := blk_frozen BK221.out 7; have hfz4_8 := blk_frozen BK221.out 8; have hfz4_9 := blk_frozen BK221.out 9; have hfz4_10 := blk_frozen BK221.out 10))
 repeat (go_quiet (first | ((with_reducible refine gate_dst (N := 1) rfl ?_); refine box_event ?hg (N := 1) ?hd (cs := #[.int .u64 a0_0, .int .u64 a0_1, .int .u64 a0_2, .string a0_3, .string a0_4, .int .i64 a0_5, .int .i64 a0_6, .int .i64 a0_7, .slice A0_8 l0_8.length c0_8, .slice A0_9 l0_9.length c0_9, .slice A0_10 l0_10.length c0_10]) (t := 34) ?hr ?_; (case hd => rfl); (case hg => rfl); (case hr => first | (go_simp; done) | (go_simp; rfl)); intro gb221 hg w3 hbox hb; have n0_ := Aside0.mk (below_step q14y0 hb); have n1_ := Aside0.mk (hbox); have n2_ := Aside0.mk ((by rw [hg]; exact (below_size q14y0) : w.heap.size ≤ gb221)); have n3_ := Aside0.mk ((by rw [hg]; exact (below_size q14y0) : w.heap.size ≤ gb221)); clear HB; have HB := n0_; have BK221 := n1_; have GW221 := n2_; have GE221 := n3_; clear n0_ n1_ n2_ n3_; clear hb hbox hg; have hcz4_0 : w3.cell? ⟨gb221, 0, none⟩ = some (.int .u64 a0_0) := (blk_cell BK221.out 0).trans rfl; have hcz4_1 : w3.cell? ⟨gb221, 1, none⟩ = some (.int .u64 a0_1) := (blk_cell BK221.out 1).trans rfl; have hcz4_2 : w3.cell? ⟨gb221, 2, none⟩ = some (.int .u64 a0_2) := (blk_cell BK221.out 2).trans rfl; have hcz4_3 : w3.cell? ⟨gb221, 3, none⟩ = some (.string a0_3) := (blk_cell BK221.out 3).trans rfl; have hcz4_4 : w3.cell? ⟨gb221, 4, none⟩ = some (.string a0_4) := (blk_cell BK221.out 4).trans rfl; have hcz4_5 : w3.cell? ⟨gb221, 5, none⟩ = some (.int .i64 a0_5) := (blk_cell BK221.out 5).trans rfl; have hcz4_6 : w3.cell? ⟨gb221, 6, none⟩ = some (.int .i64 a0_6) := (blk_cell BK221.out 6).trans rfl; have hcz4_7 : w3.cell? ⟨gb221, 7, none⟩ = some (.int .i64 a0_7) := (blk_cell BK221.out 7).trans rfl; have hcz4_8 : w3.cell? ⟨gb221, 8, none⟩ = some (.slice A0_8 l0_8.length c0_8) := (blk_cell BK221.out 8).trans rfl; have hcz4_9 : w3.cell? ⟨gb221, 9, none⟩ = some (.slice A0_9 l0_9.length c0_9) := (blk_cell BK221.out 9).trans rfl; have hcz4_10 : w3.cell? ⟨gb221, 10, none⟩ = some (.slice A0_10 l0_10.length c0_10) := (blk_cell BK221.out 10).trans rfl; have hfz4_0 := blk_frozen BK221.out 0; have hfz4_1 := blk_frozen BK221.out 1; have hfz4_2 := blk_frozen BK221.out 2; have hfz4_3 := blk_frozen BK221.out 3; have hfz4_4 := blk_frozen BK221.out 4; have hfz4_5 := blk_frozen BK221.out 5; have hfz4_6 := blk_frozen BK221.out 6; have hfz4_7 := blk_frozen BK221.out 7; have hfz4_8 := blk_frozen BK221.out 8; have hfz4_9 := blk_frozen BK221.out 9; have hfz4_10 := blk_frozen BK221.out 10)); go_upto_block 0 with (first | ((with_reducible refine gate_dst (N := 1) rfl ?_); refine box_event ?hg (N := 1) ?hd (cs := #[.int .u64 a0_0, .int .u64 a0_1, .int .u64 a0_2, .string a0_3, .string a0_4, .int .i64 a0_5, .int .i64 a0_6, .int .i64 a0_7, .slice A0_8 l0_8.length c0_8, .slice A0_9 l0_9.length c0_9, .slice A0_10 l0_10.length c0_10]) (t := 34) ?hr ?_; (case hd => rfl); (case hg => rfl); (case hr => first | (go_simp; done) | (go_simp; rfl)); intro gb221 hg w3 hbox hb; have n0_ := Aside0.mk (below_step q14y0 hb); have n1_ := Aside0.mk (hbox); have n2_ := Aside0.mk ((by rw [hg]; exact (below_size q14y0) : w.heap.size ≤ gb221)); have n3_ := Aside0.mk ((by rw [hg]; exact (below_size q14y0) : w.heap.size ≤ gb221)); clear HB; have HB := n0_; have BK221 := n1_; have GW221 := n2_; have GE221 := n3_; clear n0_ n1_ n2_ n3_; clear hb hbox hg; have hcz4_0 : w3.cell? ⟨gb221, 0, none⟩ = some (.int .u64 a0_0) := (blk_cell BK221.out 0).trans rfl; have hcz4_1 : w3.cell? ⟨gb221, 1, none⟩ = some (.int .u64 a0_1) := (blk_cell BK221.out 1).trans rfl; have hcz4_2 : w3.cell? ⟨gb221, 2, none⟩ = some (.int .u64 a0_2) := (blk_cell BK221.out 2).trans rfl; have hcz4_3 : w3.cell? ⟨gb221, 3, none⟩ = some (.string a0_3) := (blk_cell BK221.out 3).trans rfl; have hcz4_4 : w3.cell? ⟨gb221, 4, none⟩ = some (.string a0_4) := (blk_cell BK221.out 4).trans rfl; have hcz4_5 : w3.cell? ⟨gb221, 5, none⟩ = some (.int .i64 a0_5) := (blk_cell BK221.out 5).trans rfl; have hcz4_6 : w3.cell? ⟨gb221, 6, none⟩ = some (.int .i64 a0_6) := (blk_cell BK221.out 6).trans rfl; have hcz4_7 : w3.cell? ⟨gb221, 7, none⟩ = some (.int .i64 a0_7) := (blk_cell BK221.out 7).trans rfl; have hcz4_8 : w3.cell? ⟨gb221, 8, none⟩ = some (.slice A0_8 l0_8.length c0_8) := (blk_cell BK221.out 8).trans rfl; have hcz4_9 : w3.cell? ⟨gb221, 9, none⟩ = some (.slice A0_9 l0_9.length c0_9) := (blk_cell BK221.out 9).trans rfl; have hcz4_10 : w3.cell? ⟨gb221, 10, none⟩ = some (.slice A0_10 l0_10.length c0_10) := (blk_cell BK221.out 10).trans rfl; have hfz4_0 := blk_frozen BK221.out 0; have hfz4_1 := blk_frozen BK221.out 1; have hfz4_2 := blk_frozen BK221.out 2; have hfz4_3 := blk_frozen BK221.out 3; have hfz4_4 := blk_frozen BK221.out 4; have hfz4_5 := blk_frozen BK221.out 5; have hfz4_6 := blk_frozen BK221.out 6; have hfz4_7 := blk_frozen BK221.out 7; have hfz4_8 := blk_frozen BK221.out 8; have hfz4_9 := blk_frozen BK221.out 9; have hfz4_10 := blk_frozen BK221.out 10)))
 (try simp only [Act.put, q14a, q14b, q14c])
 go_cut [3] (fun v3 wc => ∃ (kq : Nat) (x3_1 : Int), v3 = .int .i64 x3_1 ∧ Aside0 (cambiumref16_Small.j1 kq x3_1 a0_0 a0_1 a0_2 a0_3 a0_4 a0_5 a0_6 a0_7 l0_8 l0_9 l0_10 = some r) ∧ Aside0 (kq ≤ k) ∧ Aside0 (wc.heap[gb221]? = some (.cells #[.int .u64 a0_0, .int .u64 a0_1, .int .u64 a0_2, .string a0_3, .string a0_4, .int .i64 a0_5, .int .i64 a0_6, .int .i64 a0_7, (.slice A0_8 l0_8.length c0_8), (.slice A0_9 l0_9.length c0_9), (.slice A0_10 l0_10.length c0_10)] 34 (0, 0))) ∧ Aside0 (Below w.heap.size w wc))
 case first =>
  have H := HC2.out
  clear HC2
  have H' := Aside0.mk H
  clear H
  go_wp2
  repeat (go_quiet (fail); try go_wp2)
  go_loopg [3, 4] k (fun kq v3 v4 w' => ∃ (x3_1 : Int) (x4_1 : Int), v3 = .int .i64 x3_1 ∧ v4 = .int .i64 x4_1 ∧ Aside0 (cambiumref16_Small.l0 kq x3_1 x4_1 a0_0 a0_1 a0_2 a0_3 a0_4 a0_5 a0_6 a0_7 l0_8 l0_9 l0_10 = some r) ∧ Aside0 (kq ≤ k) ∧ Aside0 (w'.heap[gb221]? = some (.cells #[.int .u64 a0_0, .int .u64 a0_1, .int .u64 a0_2, .string a0_3, .string a0_4, .int .i64 a0_5, .int .i64 a0_6, .int .i64 a0_7, (.slice A0_8 l0_8.length c0_8), (.slice A0_9 l0_9.length c0_9), (.slice A0_10 l0_10.length c0_10)] 34 (0, 0))) ∧ Aside0 (Below w.heap.size w w'))
  case atStart => exact ⟨(wrap64 ((a0_3.size : Int) + (a0_4.size : Int))), (0), q14y1, q14y1, H', ⟨Nat.le_refl _⟩, ⟨by (with_reducible repeat (first | refine blk_drewN ?_ _ | refine blk_drew ?_ | refine blk_alloc ?_ _)); exact BK221.out⟩, ⟨by repeat (first | (with_reducible first | exact HB.out | apply below_alloc | apply pw_below_drewN | apply below_drew1 | refine below_set ?_ GE221.out) | exact HB.out)⟩⟩
  case round =>
   clear H'
   try clear c2
   try clear p2
   try clear hcz4_0 hcz4_1 hcz4_10 hcz4_2 hcz4_3 hcz4_4 hcz4_5 hcz4_6 hcz4_7 hcz4_8 hcz4_9
   try clear hfz4_0 hfz4_1 hfz4_10 hfz4_2 hfz4_3 hfz4_4 hfz4_5 hfz4_6 hfz4_7 hfz4_8 hfz4_9
   obtain ⟨x3_1, x4_1, rfl, rfl, HA, HK1, BK221, HB⟩ := hrel
   cases gk with
   | zero => exact absurd HA.out (by simp [cambiumref16_Small.l0])
   | succ k1 =>
    have H := HA.out
    clear HA
    simp only [cambiumref16_Small.l0] at H
    by_cases c5 : x4_1 < (l0_8.length : Int)
    rotate_left
    ·rw [if_neg c5] at H
     have c5b0 : decide (x4_1 < (l0_8.length : Int)) = false := decide_eq_false c5
     clear c5
     (first | rw [c5b0] | (simp only [i64_w, i32_w]; rw [c5b0]) | skip)
     have H' := Aside0.mk H
     clear H
     have hcz10_0 : wr.cell? ⟨gb221, 0, none⟩ = some (.int .u64 a0_0) := (blk_cell BK221.out 0).trans rfl
     have hcz10_1 : wr.cell? ⟨gb221, 1, none⟩ = some (.int .u64 a0_1) := (blk_cell BK221.out 1).trans rfl
     have hcz10_2 : wr.cell? ⟨gb221, 2, none⟩ = some (.int .u64 a0_2) := (blk_cell BK221.out 2).trans rfl
     have hcz10_3 : wr.cell? ⟨gb221, 3, none⟩ = some (.string a0_3) := (blk_cell BK221.out 3).trans rfl
     have hcz10_4 : wr.cell? ⟨gb221, 4, none⟩ = some (.string a0_4) := (blk_cell BK221.out 4).trans rfl
     have hcz10_5 : wr.cell? ⟨gb221, 5, none⟩ = some (.int .i64 a0_5) := (blk_cell BK221.out 5).trans rfl
     have hcz10_6 : wr.cell? ⟨gb221, 6, none⟩ = some (.int .i64 a0_6) := (blk_cell BK221.out 6).trans rfl
     have hcz10_7 : wr.cell? ⟨gb221, 7, none⟩ = some (.int .i64 a0_7) := (blk_cell BK221.out 7).trans rfl
     have hcz10_8 : wr.cell? ⟨gb221, 8, none⟩ = some (.slice A0_8 l0_8.length c0_8) := (blk_cell BK221.out 8).trans rfl
     have hcz10_9 : wr.cell? ⟨gb221, 9, none⟩ = some (.slice A0_9 l0_9.length c0_9) := (blk_cell BK221.out 9).trans rfl
     have hcz10_10 : wr.cell? ⟨gb221, 10, none⟩ = some (.slice A0_10 l0_10.length c0_10) := (blk_cell BK221.out 10).trans rfl
     have hfz10_0 := blk_frozen BK221.out 0
     have hfz10_1 := blk_frozen BK221.out 1
     have hfz10_2 := blk_frozen BK221.out 2
     have hfz10_3 := blk_frozen BK221.out 3
     have hfz10_4 := blk_frozen BK221.out 4
     have hfz10_5 := blk_frozen BK221.out 5
     have hfz10_6 := blk_frozen BK221.out 6
     have hfz10_7 := blk_frozen BK221.out 7
     have hfz10_8 := blk_frozen BK221.out 8
     have hfz10_9 := blk_frozen BK221.out 9
     have hfz10_10 := blk_frozen BK221.out 10
     go_wp2
     repeat (go_quiet (fail); try go_wp2)
     go_meet
     case rel => exact ⟨_, (x3_1), q14y1, H', ⟨by have := HK1.out; first | omega | exact Nat.le_refl _⟩, ⟨by (with_reducible repeat (first | refine blk_drewN ?_ _ | refine blk_drew ?_ | refine blk_alloc ?_ _)); exact BK221.out⟩, ⟨by repeat (first | (with_reducible first | exact HB.out | apply below_alloc | apply pw_below_drewN | apply below_drew1 | refine below_set ?_ GE221.out) | exact HB.out)⟩⟩
    rw [if_pos c5] at H
    have c5b0 : decide (x4_1 < (l0_8.length : Int)) = true := decide_eq_true c5
    clear c5
    (first | rw [c5b0] | (simp only [i64_w, i32_w]; rw [c5b0]) | skip)
    by_cases c6 : x3_1 ≤ 6000
    rotate_left
    ·rw [if_neg c6] at H
     have c6b0 : decide (x3_1 ≤ 6000) = false := decide_eq_false c6
     clear c6
     have H' := Aside0.mk H
     clear H
     have hcz9_0 : wr.cell? ⟨gb221, 0, none⟩ = some (.int .u64 a0_0) := (blk_cell BK221.out 0).trans rfl
     have hcz9_1 : wr.cell? ⟨gb221, 1, none⟩ = some (.int .u64 a0_1) := (blk_cell BK221.out 1).trans rfl
     have hcz9_2 : wr.cell? ⟨gb221, 2, none⟩ = some (.int .u64 a0_2) := (blk_cell BK221.out 2).trans rfl
     have hcz9_3 : wr.cell? ⟨gb221, 3, none⟩ = some (.string a0_3) := (blk_cell BK221.out 3).trans rfl
     have hcz9_4 : wr.cell? ⟨gb221, 4, none⟩ = some (.string a0_4) := (blk_cell BK221.out 4).trans rfl
     have hcz9_5 : wr.cell? ⟨gb221, 5, none⟩ = some (.int .i64 a0_5) := (blk_cell BK221.out 5).trans rfl
     have hcz9_6 : wr.cell? ⟨gb221, 6, none⟩ = some (.int .i64 a0_6) := (blk_cell BK221.out 6).trans rfl
     have hcz9_7 : wr.cell? ⟨gb221, 7, none⟩ = some (.int .i64 a0_7) := (blk_cell BK221.out 7).trans rfl
     have hcz9_8 : wr.cell? ⟨gb221, 8, none⟩ = some (.slice A0_8 l0_8.length c0_8) := (blk_cell BK221.out 8).trans rfl
     have hcz9_9 : wr.cell? ⟨gb221, 9, none⟩ = some (.slice A0_9 l0_9.length c0_9) := (blk_cell BK221.out 9).trans rfl
     have hcz9_10 : wr.cell? ⟨gb221, 10, none⟩ = some (.slice A0_10 l0_10.length c0_10) := (blk_cell BK221.out 10).trans rfl
     have hfz9_0 := blk_frozen BK221.out 0
     have hfz9_1 := blk_frozen BK221.out 1
     have hfz9_2 := blk_frozen BK221.out 2
     have hfz9_3 := blk_frozen BK221.out 3
     have hfz9_4 := blk_frozen BK221.out 4
     have hfz9_5 := blk_frozen BK221.out 5
     have hfz9_6 := blk_frozen BK221.out 6
     have hfz9_7 := blk_frozen BK221.out 7
     have hfz9_8 := blk_frozen BK221.out 8
     have hfz9_9 := blk_frozen BK221.out 9
     have hfz9_10 := blk_frozen BK221.out 10
     go_wp2
     repeat (go_quiet (fail); try go_wp2)
     go_meet
     case rel => exact ⟨_, (x3_1), q14y1, H', ⟨by have := HK1.out; first | omega | exact Nat.le_refl _⟩, ⟨by (with_reducible repeat (first | refine blk_drewN ?_ _ | refine blk_drew ?_ | refine blk_alloc ?_ _)); exact BK221.out⟩, ⟨by repeat (first | (with_reducible first | exact HB.out | apply below_alloc | apply pw_below_drewN | apply below_drew1 | refine below_set ?_ GE221.out) | exact HB.out)⟩⟩
    rw [if_pos c6] at H
    have c6b0 : decide (x3_1 ≤ 6000) = true := decide_eq_true c6
    clear c6
    by_cases c7 : 0 ≤ x4_1
    rotate_left
    ·rw [if_neg c7] at H
     exact absurd H (by simp)
    rw [if_pos c7] at H
    have c7b0 : decide (0 ≤ x4_1) = true := decide_eq_true c7
    clear c7
    have H' := Aside0.mk H
    clear H
    have hcz8_0 : wr.cell? ⟨gb221, 0, none⟩ = some (.int .u64 a0_0) := (blk_cell BK221.out 0).trans rfl
    have hcz8_1 : wr.cell? ⟨gb221, 1, none⟩ = some (.int .u64 a0_1) := (blk_cell BK221.out 1).trans rfl
    have hcz8_2 : wr.cell? ⟨gb221, 2, none⟩ = some (.int .u64 a0_2) := (blk_cell BK221.out 2).trans rfl
    have hcz8_3 : wr.cell? ⟨gb221, 3, none⟩ = some (.string a0_3) := (blk_cell BK221.out 3).trans rfl
    have hcz8_4 : wr.cell? ⟨gb221, 4, none⟩ = some (.string a0_4) := (blk_cell BK221.out 4).trans rfl
    have hcz8_5 : wr.cell? ⟨gb221, 5, none⟩ = some (.int .i64 a0_5) := (blk_cell BK221.out 5).trans rfl
    have hcz8_6 : wr.cell? ⟨gb221, 6, none⟩ = some (.int .i64 a0_6) := (blk_cell BK221.out 6).trans rfl
    have hcz8_7 : wr.cell? ⟨gb221, 7, none⟩ = some (.int .i64 a0_7) := (blk_cell BK221.out 7).trans rfl
    have hcz8_8 : wr.cell? ⟨gb221, 8, none⟩ = some (.slice A0_8 l0_8.length c0_8) := (blk_cell BK221.out 8).trans rfl
    have hcz8_9 : wr.cell? ⟨gb221, 9, none⟩ = some (.slice A0_9 l0_9.length c0_9) := (blk_cell BK221.out 9).trans rfl
    have hcz8_10 : wr.cell? ⟨gb221, 10, none⟩ = some (.slice A0_10 l0_10.length c0_10) := (blk_cell BK221.out 10).trans rfl
    have hfz8_0 := blk_frozen BK221.out 0
    have hfz8_1 := blk_frozen BK221.out 1
    have hfz8_2 := blk_frozen BK221.out 2
    have hfz8_3 := blk_frozen BK221.out 3
    have hfz8_4 := blk_frozen BK221.out 4
    have hfz8_5 := blk_frozen BK221.out 5
    have hfz8_6 := blk_frozen BK221.out 6
    have hfz8_7 := blk_frozen BK221.out 7
    have hfz8_8 := blk_frozen BK221.out 8
    have hfz8_9 := blk_frozen BK221.out 9
    have hfz8_10 := blk_frozen BK221.out 10
    have p222 : 0 ≤ (x4_1 : Int) := of_decide_eq_true q14y2
    have q222 : x4_1 < (l0_8.length : Int) := of_decide_eq_true q14y2
    obtain ⟨ad222, e222, hx222_0, hx222_1, hx222_2, hx222_3, hx222_4⟩ := at_T45 HR0_8.out x4_1 p222 q222
    cases e222
    replace hx222_0 := (HB.out.cell (World.block_lt_of_cell? w _ hx222_0)).trans hx222_0
    replace hx222_1 := (HB.out.cell (World.block_lt_of_cell? w _ hx222_1)).trans hx222_1
    replace hx222_2 := (HB.out.cell (World.block_lt_of_cell? w _ hx222_2)).trans hx222_2
    replace hx222_3 := (HB.out.cell (World.block_lt_of_cell? w _ hx222_3)).trans hx222_3
    replace hx222_4 := (HB.out.cell (World.block_lt_of_cell? w _ hx222_4)).trans hx222_4
    replace p222 := eq_true p222
    replace q222 := eq_true q222
    have p223 : 0 ≤ (x4_1 : Int) := of_decide_eq_true q14y2
    have q223 : x4_1 < (l0_8.length : Int) := of_decide_eq_true q14y2
    obtain ⟨ad223, e223, hx223_0, hx223_1, hx223_2, hx223_3, hx223_4⟩ := at_T45 HR0_8.out x4_1 p223 q223
    obtain rfl : ad222 = ad223 := (by injection e223)
    replace hx223_0 := (HB.out.cell (World.block_lt_of_cell? w _ hx223_0)).trans hx223_0
    replace hx223_1 := (HB.out.cell (World.block_lt_of_cell? w _ hx223_1)).trans hx223_1
    replace hx223_2 := (HB.out.cell (World.block_lt_of_cell? w _ hx223_2)).trans hx223_2
    replace hx223_3 := (HB.out.cell (World.block_lt_of_cell? w _ hx223_3)).trans hx223_3
    replace hx223_4 := (HB.out.cell (World.block_lt_of_cell? w _ hx223_4)).trans hx223_4
    replace p223 := eq_true p223
    replace q223 := eq_true q223
    go_wp2
    repeat (go_quiet (fail); try go_wp2)
    go_roundg k1
    case measure => have := HK1.out; omega
    case rel => exact ⟨(wrap64 ((wrap64 ((wrap64 (x3_1 + 1)) + (((rd_T45 l0_8 x4_1).f0).size : Int))) + (((rd_T45 l0_8 x4_1).f1.f1).size : Int))), (wrap64 (x4_1 + 1)), q14y1, q14y1, H', ⟨by have := HK1.out; omega⟩, ⟨by (with_reducible repeat (first | refine blk_drewN ?_ _ | refine blk_drew ?_ | refine blk_alloc ?_ _)); exact BK221.out⟩, ⟨by repeat (first | (with_reducible first | exact HB.out | apply below_alloc | apply pw_below_drewN | apply below_drew1 | refine below_set ?_ GE221.out) | exact HB.out)⟩⟩
 case rest =>
  clear HC2
  try clear c2
  try clear p2
  try clear q2
  try clear hx2
  try clear c5
  try clear c5b0
  try clear c6
  try clear c6b0
  try clear p6
  try clear c7
  try clear c7b0
  try clear hcz10_0 hcz10_1 hcz10_10 hcz10_2 hcz10_3 hcz10_4 hcz10_5 hcz10_6 hcz10_7 hcz10_8 hcz10_9
  try clear hcz4_0 hcz4_1 hcz4_10 hcz4_2 hcz4_3 hcz4_4 hcz4_5 hcz4_6 hcz4_7 hcz4_8 hcz4_9
  try clear hcz8_0 hcz8_1 hcz8_10 hcz8_2 hcz8_3 hcz8_4 hcz8_5 hcz8_6 hcz8_7 hcz8_8 hcz8_9
  try clear hcz9_0 hcz9_1 hcz9_10 hcz9_2 hcz9_3 hcz9_4 hcz9_5 hcz9_6 hcz9_7 hcz9_8 hcz9_9
  try clear hfz10_0 hfz10_1 hfz10_10 hfz10_2 hfz10_3 hfz10_4 hfz10_5 hfz10_6 hfz10_7 hfz10_8 hfz10_9
  try clear hfz4_0 hfz4_1 hfz4_10 hfz4_2 hfz4_3 hfz4_4 hfz4_5 hfz4_6 hfz4_7 hfz4_8 hfz4_9
  try clear hfz8_0 hfz8_1 hfz8_10 hfz8_2 hfz8_3 hfz8_4 hfz8_5 hfz8_6 hfz8_7 hfz8_8 hfz8_9
  try clear hfz9_0 hfz9_1 hfz9_10 hfz9_2 hfz9_3 hfz9_4 hfz9_5 hfz9_6 hfz9_7 hfz9_8 hfz9_9
  try clear hx222_0
  try clear hx222_1
  try clear hx222_2
  try clear hx222_3
  try clear hx222_4
  try clear hx223_0
  try clear hx223_1
  try clear hx223_2
  try clear hx223_3
  try clear hx223_4
  try clear p2
  try clear p222
  try clear p223
  try clear q222
  try clear q223
  obtain ⟨kq, x3_1, rfl, HA, HJ1, BK221, HB⟩ := hcut
  cases kq with
  | zero => exact absurd HA.out (by simp [cambiumref16_Small.j1])
  | succ kj1 =>
   have H := HA.out
   clear HA
   simp only [cambiumref16_Small.j1] at H
   have H' := Aside0.mk H
   clear H
   go_wp2
   repeat (go_quiet (fail); try go_wp2)
   go_loopg [3, 5] kj1 (fun kq v3 v5 w' => ∃ (x3_2 : Int) (x5_2 : Int), v3 = .int .i64 x3_2 ∧ v5 = .int .i64 x5_2 ∧ Aside0 (cambiumref16_Small.l1 kq x3_2 x5_2 a0_0 a0_1 a0_2 a0_3 a0_4 a0_5 a0_6 a0_7 l0_8 l0_9 l0_10 = some r) ∧ Aside0 (kq ≤ kj1) ∧ Aside0 (w'.heap[gb221]? = some (.cells #[.int .u64 a0_0, .int .u64 a0_1, .int .u64 a0_2, .string a0_3, .string a0_4, .int .i64 a0_5, .int .i64 a0_6, .int .i64 a0_7, (.slice A0_8 l0_8.length c0_8), (.slice A0_9 l0_9.length c0_9), (.slice A0_10 l0_10.length c0_10)] 34 (0, 0))) ∧ Aside0 (Below w.heap.size w w'))
   case atStart => exact ⟨(x3_1), (0), q14y1, q14y1, H', ⟨Nat.le_refl _⟩, ⟨by (with_reducible repeat (first | refine blk_drewN ?_ _ | refine blk_drew ?_ | refine blk_alloc ?_ _)); exact BK221.out⟩, ⟨by repeat (first | (with_reducible first | exact HB.out | apply below_alloc | apply pw_below_drewN | apply below_drew1 | refine below_set ?_ GE221.out) | exact HB.out)⟩⟩
   case round =>
    clear H'
    try clear c2
    try clear p2
    try clear q2
    try clear hx2
    try clear c5
    try clear c5b0
    try clear c6
    try clear c6b0
    try clear p6
    try clear c7
    try clear c7b0
    try clear hcz10_0 hcz10_1 hcz10_10 hcz10_2 hcz10_3 hcz10_4 hcz10_5 hcz10_6 hcz10_7 hcz10_8 hcz10_9
    try clear hcz4_0 hcz4_1 hcz4_10 hcz4_2 hcz4_3 hcz4_4 hcz4_5 hcz4_6 hcz4_7 hcz4_8 hcz4_9
    try clear hcz8_0 hcz8_1 hcz8_10 hcz8_2 hcz8_3 hcz8_4 hcz8_5 hcz8_6 hcz8_7 hcz8_8 hcz8_9
    try clear hcz9_0 hcz9_1 hcz9_10 hcz9_2 hcz9_3 hcz9_4 hcz9_5 hcz9_6 hcz9_7 hcz9_8 hcz9_9
    try clear hfz10_0 hfz10_1 hfz10_10 hfz10_2 hfz10_3 hfz10_4 hfz10_5 hfz10_6 hfz10_7 hfz10_8 hfz10_9
    try clear hfz4_0 hfz4_1 hfz4_10 hfz4_2 hfz4_3 hfz4_4 hfz4_5 hfz4_6 hfz4_7 hfz4_8 hfz4_9
    try clear hfz8_0 hfz8_1 hfz8_10 hfz8_2 hfz8_3 hfz8_4 hfz8_5 hfz8_6 hfz8_7 hfz8_8 hfz8_9
    try clear hfz9_0 hfz9_1 hfz9_10 hfz9_2 hfz9_3 hfz9_4 hfz9_5 hfz9_6 hfz9_7 hfz9_8 hfz9_9
    try clear hx222_0
    try clear hx222_1
    try clear hx222_2
    try clear hx222_3
    try clear hx222_4
    try clear hx223_0
    try clear hx223_1
    try clear hx223_2
    try clear hx223_3
    try clear hx223_4
    try clear p2
    try clear p222
    try clear p223
    try clear p6
    try clear q2
    try clear q222
    try clear q223
    obtain ⟨x3_2, x5_2, rfl, rfl, HA, HK2, BK221, HB⟩ := hrel
    cases gk with
    | zero => exact absurd HA.out (by simp [cambiumref16_Small.l1])
    | succ k2 =>
     have H := HA.out
     clear HA
     simp only [cambiumref16_Small.l1] at H
     by_cases c11 : x5_2 < (l0_9.length : Int)
     rotate_left
     ·rw [if_neg c11] at H
      have c11b0 : decide (x5_2 < (l0_9.length : Int)) = false := decide_eq_false c11
      clear c11
      obtain rfl := Option.some.inj H
      have hcz16_0 : wr.cell? ⟨gb221, 0, none⟩ = some (.int .u64 a0_0) := (blk_cell BK221.out 0).trans rfl
      have hcz16_1 : wr.cell? ⟨gb221, 1, none⟩ = some (.int .u64 a0_1) := (blk_cell BK221.out 1).trans rfl
      have hcz16_2 : wr.cell? ⟨gb221, 2, none⟩ = some (.int .u64 a0_2) := (blk_cell BK221.out 2).trans rfl
      have hcz16_3 : wr.cell? ⟨gb221, 3, none⟩ = some (.string a0_3) := (blk_cell BK221.out 3).trans rfl
      have hcz16_4 : wr.cell? ⟨gb221, 4, none⟩ = some (.string a0_4) := (blk_cell BK221.out 4).trans rfl
      have hcz16_5 : wr.cell? ⟨gb221, 5, none⟩ = some (.int .i64 a0_5) := (blk_cell BK221.out 5).trans rfl
      have hcz16_6 : wr.cell? ⟨gb221, 6, none⟩ = some (.int .i64 a0_6) := (blk_cell BK221.out 6).trans rfl
      have hcz16_7 : wr.cell? ⟨gb221, 7, none⟩ = some (.int .i64 a0_7) := (blk_cell BK221.out 7).trans rfl
      have hcz16_8 : wr.cell? ⟨gb221, 8, none⟩ = some (.slice A0_8 l0_8.length c0_8) := (blk_cell BK221.out 8).trans rfl
      have hcz16_9 : wr.cell? ⟨gb221, 9, none⟩ = some (.slice A0_9 l0_9.length c0_9) := (blk_cell BK221.out 9).trans rfl
      have hcz16_10 : wr.cell? ⟨gb221, 10, none⟩ = some (.slice A0_10 l0_10.length c0_10) := (blk_cell BK221.out 10).trans rfl
      have hfz16_0 := blk_frozen BK221.out 0
      have hfz16_1 := blk_frozen BK221.out 1
      have hfz16_2 := blk_frozen BK221.out 2
      have hfz16_3 := blk_frozen BK221.out 3
      have hfz16_4 := blk_frozen BK221.out 4
      have hfz16_5 := blk_frozen BK221.out 5
      have hfz16_6 := blk_frozen BK221.out 6
      have hfz16_7 := blk_frozen BK221.out 7
      have hfz16_8 := blk_frozen BK221.out 8
      have hfz16_9 := blk_frozen BK221.out 9
      have hfz16_10 := blk_frozen BK221.out 10
      go_wp2
      repeat (go_quiet (fail); try go_wp2)
      go_ret
      exact ⟨by first | rfl | (simp [errW_none, errW_some] <;> rfl) | (simp [*, errW_none, errW_some] <;> rfl), by repeat (first | (with_reducible first | exact HB.out | apply below_alloc | apply pw_below_drewN | apply below_drew1 | refine below_set ?_ GE221.out) | exact HB.out)⟩

     rw [if_pos c11] at H
     have c11b0 : decide (x5_2 < (l0_9.length : Int)) = true := decide_eq_true c11
     clear c11
     by_cases c12 : x3_2 ≤ 6000
     rotate_left
     ·rw [if_neg c12] at H
      have c12b0 : decide (x3_2 ≤ 6000) = false := decide_eq_false c12
      clear c12
      obtain rfl := Option.some.inj H
      have hcz15_0 : wr.cell? ⟨gb221, 0, none⟩ = some (.int .u64 a0_0) := (blk_cell BK221.out 0).trans rfl
      have hcz15_1 : wr.cell? ⟨gb221, 1, none⟩ = some (.int .u64 a0_1) := (blk_cell BK221.out 1).trans rfl
      have hcz15_2 : wr.cell? ⟨gb221, 2, none⟩ = some (.int .u64 a0_2) := (blk_cell BK221.out 2).trans rfl
      have hcz15_3 : wr.cell? ⟨gb221, 3, none⟩ = some (.string a0_3) := (blk_cell BK221.out 3).trans rfl
      have hcz15_4 : wr.cell? ⟨gb221, 4, none⟩ = some (.string a0_4) := (blk_cell BK221.out 4).trans rfl
      have hcz15_5 : wr.cell? ⟨gb221, 5, none⟩ = some (.int .i64 a0_5) := (blk_cell BK221.out 5).trans rfl
      have hcz15_6 : wr.cell? ⟨gb221, 6, none⟩ = some (.int .i64 a0_6) := (blk_cell BK221.out 6).trans rfl
      have hcz15_7 : wr.cell? ⟨gb221, 7, none⟩ = some (.int .i64 a0_7) := (blk_cell BK221.out 7).trans rfl
      have hcz15_8 : wr.cell? ⟨gb221, 8, none⟩ = some (.slice A0_8 l0_8.length c0_8) := (blk_cell BK221.out 8).trans rfl
      have hcz15_9 : wr.cell? ⟨gb221, 9, none⟩ = some (.slice A0_9 l0_9.length c0_9) := (blk_cell BK221.out 9).trans rfl
      have hcz15_10 : wr.cell? ⟨gb221, 10, none⟩ = some (.slice A0_10 l0_10.length c0_10) := (blk_cell BK221.out 10).trans rfl
      have hfz15_0 := blk_frozen BK221.out 0
      have hfz15_1 := blk_frozen BK221.out 1
      have hfz15_2 := blk_frozen BK221.out 2
      have hfz15_3 := blk_frozen BK221.out 3
      have hfz15_4 := blk_frozen BK221.out 4
      have hfz15_5 := blk_frozen BK221.out 5
      have hfz15_6 := blk_frozen BK221.out 6
      have hfz15_7 := blk_frozen BK221.out 7
      have hfz15_8 := blk_frozen BK221.out 8
      have hfz15_9 := blk_frozen BK221.out 9
      have hfz15_10 := blk_frozen BK221.out 10
      go_wp2
      repeat (go_quiet (fail); try go_wp2)
      go_ret
      exact ⟨by first | rfl | (simp [errW_none, errW_some] <;> rfl) | (simp [*, errW_none, errW_some] <;> rfl), by repeat (first | (with_reducible first | exact HB.out | apply below_alloc | apply pw_below_drewN | apply below_drew1 | refine below_set ?_ GE221.out) | exact HB.out)⟩
     rw [if_pos c12] at H
     have c12b0 : decide (x3_2 ≤ 6000) = true := decide_eq_true c12
     clear c12
     by_cases c13 : 0 ≤ x5_2
     rotate_left
     ·rw [if_neg c13] at H
      exact absurd H (by simp)
     rw [if_pos c13] at H
     have c13b0 : decide (0 ≤ x5_2) = true := decide_eq_true c13
     clear c13
     have H' := Aside0.mk H
     clear H
     have hcz14_0 : wr.cell? ⟨gb221, 0, none⟩ = some (.int .u64 a0_0) := (blk_cell BK221.out 0).trans rfl
     have hcz14_1 : wr.cell? ⟨gb221, 1, none⟩ = some (.int .u64 a0_1) := (blk_cell BK221.out 1).trans rfl
     have hcz14_2 : wr.cell? ⟨gb221, 2, none⟩ = some (.int .u64 a0_2) := (blk_cell BK221.out 2).trans rfl
     have hcz14_3 : wr.cell? ⟨gb221, 3, none⟩ = some (.string a0_3) := (blk_cell BK221.out 3).trans rfl
     have hcz14_4 : wr.cell? ⟨gb221, 4, none⟩ = some (.string a0_4) := (blk_cell BK221.out 4).trans rfl
     have hcz14_5 : wr.cell? ⟨gb221, 5, none⟩ = some (.int .i64 a0_5) := (blk_cell BK221.out 5).trans rfl
     have hcz14_6 : wr.cell? ⟨gb221, 6, none⟩ = some (.int .i64 a0_6) := (blk_cell BK221.out 6).trans rfl
     have hcz14_7 : wr.cell? ⟨gb221, 7, none⟩ = some (.int .i64 a0_7) := (blk_cell BK221.out 7).trans rfl
     have hcz14_8 : wr.cell? ⟨gb221, 8, none⟩ = some (.slice A0_8 l0_8.length c0_8) := (blk_cell BK221.out 8).trans rfl
     have hcz14_9 : wr.cell? ⟨gb221, 9, none⟩ = some (.slice A0_9 l0_9.length c0_9) := (blk_cell BK221.out 9).trans rfl
     have hcz14_10 : wr.cell? ⟨gb221, 10, none⟩ = some (.slice A0_10 l0_10.length c0_10) := (blk_cell BK221.out 10).trans rfl
     have hfz14_0 := blk_frozen BK221.out 0
     have hfz14_1 := blk_frozen BK221.out 1
     have hfz14_2 := blk_frozen BK221.out 2
     have hfz14_3 := blk_frozen BK221.out 3
     have hfz14_4 := blk_frozen BK221.out 4
     have hfz14_5 := blk_frozen BK221.out 5
     have hfz14_6 := blk_frozen BK221.out 6
     have hfz14_7 := blk_frozen BK221.out 7
     have hfz14_8 := blk_frozen BK221.out 8
     have hfz14_9 := blk_frozen BK221.out 9
     have hfz14_10 := blk_frozen BK221.out 10
     have p224 : 0 ≤ (x5_2 : Int) := of_decide_eq_true q14y2
     have q224 : x5_2 < (l0_9.length : Int) := of_decide_eq_true q14y2
     obtain ⟨ad224, e224, hx224_0, hx224_1⟩ := at_T77 HR0_9.out x5_2 p224 q224
     cases e224
     replace hx224_0 := (HB.out.cell (World.block_lt_of_cell? w _ hx224_0)).trans hx224_0
     replace hx224_1 := (HB.out.cell (World.block_lt_of_cell? w _ hx224_1)).trans hx224_1
     replace p224 := eq_true p224
     replace q224 := eq_true q224
     go_wp2
     repeat (go_quiet (fail); try go_wp2)
     go_roundg k2
     case measure => have := HJ1.out; have := HK2.out; omega
     case rel => exact ⟨(wrap64 ((wrap64 (x3_2 + 1)) + (((rd_T77 l0_9 x5_2).f1).size : Int))), (wrap64 (x5_2 + 1)), q14y1, q14y1, H', ⟨by have := HJ1.out; have := HK2.out; omega⟩, ⟨by (with_reducible repeat (first | refine blk_drewN ?_ _ | refine blk_drew ?_ | refine blk_alloc ?_ _)); exact BK221.out⟩, ⟨by repeat (first | (with_reducible first | exact HB.out | apply below_alloc | apply pw_below_drewN | apply below_drew1 | refine below_set ?_ GE221.out) | exact HB.out)⟩⟩
end Go.Proofs.Ytffggkhahambhaa.PAll
