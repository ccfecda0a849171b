/- trace.byTime, span.End (chapter 26), by hand: what a call lays and draws. -/
import Derived.Test.YtoigebnhnkdbbaaTrBase
import Derived.Sort.Grow
import Derived.Sort.Row
import Derived.Test.YtoigebnhnkdbbaaLaySort
import Derived.Shelf.SlSortCmp.NoneTotal
import Derived.Test.YtoigebnhnkdbbaaMapG
namespace Go.Proofs.Ytoigebnhnkdbbaa.Tr
open Go.RowKit Go.Proofs.YtoigebnhnkdbbaaW.PrintWords Go.Proofs.YtoigebnhnkdbbaaW.PrintLast Go.Proofs.YtoigebnhnkdbbaaW.PrintMore Go.Proofs.Ytoigebnhnkdbbaa.Math Go.Proofs.Ytoigebnhnkdbbaa.PAll
set_option linter.unusedVariables false
set_option linter.unusedSimpArgs false

/-- Orders drawn, blocks laid: nothing else. -/
def Gr (w w' : World) : Prop := ∃ q os, w' = Sort.grow (w.drewN q) os
theorem Gr.refl (w : World) : Gr w w := ⟨0, #[], by simp [Sort.grow]; rfl⟩
theorem Gr.alloc {w w1 : World} (h : Gr w w1) (o : Obj) : Gr w (w1.alloc o) := by
  obtain ⟨q, os, rfl⟩ := h
  exact ⟨q, os.push o, by simp [Sort.grow, World.alloc]⟩
theorem Gr.drewN {w w1 : World} (h : Gr w w1) (n : Nat) : Gr w (w1.drewN n) := by
  obtain ⟨q, os, rfl⟩ := h
  refine ⟨q + n, os, ?_⟩
  simp [Sort.grow, World.drewN, Nat.add_assoc]
theorem Gr.drew {w w1 : World} (h : Gr w w1) : Gr w w1.drew := h.drewN 1
theorem Gr.drawn {w w1 w2 : World} (h : Gr w w1) (hd : Drawn0 w1 w2) : Gr w w2 := by
  obtain ⟨n, rfl⟩ := hd
  exact h.drewN n
theorem Gr.below {w w1 : World} (h : Gr w w1) : Below w.heap.size w w1 := by
  obtain ⟨q, os, rfl⟩ := h
  refine ⟨rfl, rfl, rfl, by simp [Sort.grow, World.drewN], fun k hk => ?_⟩
  show (w.heap ++ os)[k]? = w.heap[k]?
  rw [Array.getElem?_append_left hk]

/-- How a span stands to another one by time. -/
def cmpI (x y : Int) : Int := if x < y then -1 else if x > y then 1 else 0
def byT (x y : Sp) : Int := if cmpI x.st y.st ≠ 0 then cmpI x.st y.st else cmpI x.id y.id
set_option maxHeartbeats 1000000 in
theorem cmpi_calls (x y : Int) (w : World) : Calls Try.prog 38 #[.int .i64 x, .int .i64 y] w fun e w' => e = .returned (.int .i64 (cmpI x y)) ∧ w = w' := by
  unfold cmpI
  by_cases h : x < y
  · rw [if_pos h]
    have d : decide (x < y) = true := decide_eq_true h
    go_enter Try.func38, Try.ntmps38
    go_wp2
    go_ret
    exact ⟨rfl, rfl⟩
  · rw [if_neg h]
    have d : decide (x < y) = false := decide_eq_false h
    by_cases g : x > y
    · rw [if_pos g]
      have d2 : decide (y < x) = true := decide_eq_true g
      go_enter Try.func38, Try.ntmps38
      go_wp2
      go_ret
      exact ⟨rfl, rfl⟩
    · rw [if_neg g]
      have d2 : decide (y < x) = false := decide_eq_false g
      go_enter Try.func38, Try.ntmps38
      go_wp2
      go_ret
      exact ⟨rfl, rfl⟩
set_option maxHeartbeats 1000000 in
theorem cmpu_calls (x y : Int) (w : World) : Calls Try.prog 42 #[.int .u64 x, .int .u64 y] w fun e w' => e = .returned (.int .i64 (cmpI x y)) ∧ w = w' := by
  unfold cmpI
  by_cases h : x < y
  · rw [if_pos h]
    have d : decide (x < y) = true := decide_eq_true h
    go_enter Try.func42, Try.ntmps42
    go_wp2
    go_ret
    exact ⟨rfl, rfl⟩
  · rw [if_neg h]
    have d : decide (x < y) = false := decide_eq_false h
    by_cases g : x > y
    · rw [if_pos g]
      have d2 : decide (y < x) = true := decide_eq_true g
      go_enter Try.func42, Try.ntmps42
      go_wp2
      go_ret
      exact ⟨rfl, rfl⟩
    · rw [if_neg g]
      have d2 : decide (y < x) = false := decide_eq_false g
      go_enter Try.func42, Try.ntmps42
      go_wp2
      go_ret
      exact ⟨rfl, rfl⟩
set_option maxHeartbeats 1000000 in
theorem or_calls (a b : Int) (g : Nat) (w : World) (hb : w.heap[g]? = some (.cells #[.int .i64 a, .int .i64 b] 3 (0, 0))) :
    Calls Try.prog 41 #[.slice (some ⟨g, 0, none⟩) 2 2] w fun e w' => e = .returned (.int .i64 (if a ≠ 0 then a else b)) ∧ w = w' := by
  have c0 : w.cell? ⟨g, 0, none⟩ = some (.int .i64 a) := (blk_cell hb 0).trans rfl
  have c1 : w.cell? ⟨g, 1, none⟩ = some (.int .i64 b) := (blk_cell hb 1).trans rfl
  clear hb
  obtain ⟨r, hr⟩ : ∃ r, (if a ≠ 0 then a else b) = r := ⟨_, rfl⟩
  rw [hr]
  have HR := Lib.hid hr
  clear hr
  go_enter Try.func41, Try.ntmps41
  go_wp2
  go_loopw [5, 8] (fun _ i wr => w = wr ∧ (i = .int .i64 0 ∨ (i = .int .i64 1 ∧ Hid (a = 0)) ∨ (i = .int .i64 2 ∧ Hid (a = 0 ∧ b = 0)))) (fun _ i _ => 2 - (intOf i).toNat)
  case atStart => exact ⟨rfl, .inl rfl⟩
  case round =>
    obtain ⟨rfl, hc⟩ := hrel
    rcases hc with rfl | ⟨rfl, HA⟩ | ⟨rfl, HAB⟩
    · by_cases ha : a = 0
      · have HA := Lib.hid ha
        have e1 : (a != 0) = false := by simp [ha]
        clear ha
        go_wp2
        go_roundw
        case rel => exact ⟨by first | rfl | trivial, .inr (.inl ⟨rfl, HA⟩)⟩
        case measure => simp [intOf]
      · have HA := Lib.hid ha
        have e1 : (a != 0) = true := bne_iff_ne.2 ha
        clear ha
        go_wp2
        go_ret
        exact ⟨by rw [← HR.out, if_pos HA.out]; rfl, rfl⟩
    · by_cases ha : b = 0
      · have HB := Lib.hid ha
        have e1 : (b != 0) = false := by simp [ha]
        clear ha
        go_wp2
        go_roundw
        case rel => exact ⟨by first | rfl | trivial, .inr (.inr ⟨rfl, Lib.hid ⟨HA.out, HB.out⟩⟩)⟩
        case measure => simp [intOf]
      · have HB := Lib.hid ha
        have e1 : (b != 0) = true := bne_iff_ne.2 ha
        clear ha
        go_wp2
        go_ret
        exact ⟨by rw [← HR.out, if_neg (fun h => h HA.out)]; rfl, rfl⟩
    · go_wp2
      go_ret
      exact ⟨by rw [← HR.out, if_neg (fun h => h HAB.out.1), HAB.out.2]; rfl, rfl⟩

set_option maxHeartbeats 4000000 in
set_option maxRecDepth 100000 in
theorem byTime_calls (x y : Sp) (w : World) : Calls Try.prog 34 #[.agg (encS x).toArray, .agg (encS y).toArray] w fun e w' => e = .returned (.int .i64 (byT x y)) ∧ Gr w w' := by
  have hgr := ((Gr.refl w).alloc (.cells (encS x).toArray 38)).alloc (.cells (encS y).toArray 38)
  have k1 : ((w.alloc (.cells (encS x).toArray 38)).alloc (.cells (encS y).toArray 38)).heap[w.heap.size]? = some (.cells (encS x).toArray 38 (0, 0)) := block_below (heap_alloc_new w _) (below_alloc (Below.refl _ _) _)
  have k2 : ((w.alloc (.cells (encS x).toArray 38)).alloc (.cells (encS y).toArray 38)).heap[(w.alloc (.cells (encS x).toArray 38)).heap.size]? = some (.cells (encS y).toArray 38 (0, 0)) := heap_alloc_new _ _
  rw [show (w.alloc (.cells (encS x).toArray 38)).heap.size = w.heap.size + 1 by simp] at k2
  have HG := Lib.hid hgr
  have K1 := Lib.hid k1
  have K2 := Lib.hid k2
  clear hgr k1 k2
  obtain ⟨r, hr⟩ : ∃ r, byT x y = r := ⟨_, rfl⟩
  rw [hr]
  have HR := Lib.hid hr
  clear hr
  unfold encS at HG K1 K2 ⊢
  go_enter Try.func34, Try.ntmps34
  go_wp2
  have k1 := blk_drew K1.out
  have k2 := blk_drew K2.out
  have hg := HG.out.drew
  refine start_ (n := 13) (S := fun w' => w'.cell? ⟨w.heap.size, 5, none⟩ = some (.int .i64 x.st) ∧ w'.cell? ⟨w.heap.size + 1, 5, none⟩ = some (.int .i64 y.st) ∧ w'.cell? ⟨w.heap.size, 1, none⟩ = some (.int .u64 x.id) ∧ w'.cell? ⟨w.heap.size + 1, 1, none⟩ = some (.int .u64 y.id)) (ds := []) #[false, false, false, false, false, false, false, false, false, false, false, false, false] (by kernel_rfl) rfl rfl ⟨(blk_cell k1 5).trans rfl, (blk_cell k2 5).trans rfl, (blk_cell k1 1).trans rfl, (blk_cell k2 1).trans rfl⟩ (fun hHeld => ?_)
  generalize ((w.alloc (.cells #[.int .u64 x.tr, .int .u64 x.id, .int .u64 x.par, .string x.svc, .string x.op, .int .i64 x.st, .int .i64 x.du, .int .i64 x.stt, .slice x.a.1 x.a.2.1 x.a.2.2, .slice x.e.1 x.e.2.1 x.e.2.2, .slice x.l.1 x.l.2.1 x.l.2.2] 38)).alloc (.cells #[.int .u64 y.tr, .int .u64 y.id, .int .u64 y.par, .string y.svc, .string y.op, .int .i64 y.st, .int .i64 y.du, .int .i64 y.stt, .slice y.a.1 y.a.2.1 y.a.2.2, .slice y.e.1 y.e.2.1 y.e.2.2, .slice y.l.1 y.l.2.1 y.l.2.2] 38)).drew = w5 at k1 k2 hg hHeld ⊢
  have K15 := Lib.hid k1
  have K25 := Lib.hid k2
  have HG5 := Lib.hid hg
  clear k1 k2 hg
  refine pure_ (i := 0) (N := some 5) (v := ?_) (a' := ?_) #[true, false, false, false, false, false, false, false, false, false, false, false, false] rfl rfl (by kernel_rfl) (fun _ _ _ h => h) (Or.inl ⟨by rfl, ?_⟩) ?_ ?_
  rotate_left
  · intro w'
    go_simp
    with_reducible rfl
  rotate_left
  · simp only [Act.put, List.setIfInBounds_toArray, List.set_cons_zero, List.set_cons_succ, i64_w, i32_w]
    rfl
  refine pure_ (i := 2) (N := some 7) (v := ?_) (a' := ?_) #[true, false, true, false, false, false, false, false, false, false, false, false, false] rfl rfl (by kernel_rfl) (fun _ _ _ h => h) (Or.inl ⟨by rfl, ?_⟩) ?_ ?_
  rotate_left
  · intro w'
    go_simp
    with_reducible rfl
  rotate_left
  · simp only [Act.put, List.setIfInBounds_toArray, List.set_cons_zero, List.set_cons_succ, i64_w, i32_w]
    rfl
  refine pure_ (i := 5) (N := some 10) (v := ?_) (a' := ?_) #[true, false, true, false, false, true, false, false, false, false, false, false, false] rfl rfl (by kernel_rfl) (fun _ _ _ h => h) (Or.inl ⟨by rfl, ?_⟩) ?_ ?_
  rotate_left
  · intro w'
    go_simp
    with_reducible rfl
  rotate_left
  · simp only [Act.put, List.setIfInBounds_toArray, List.set_cons_zero, List.set_cons_succ, i64_w, i32_w]
    rfl
  refine pure_ (i := 7) (N := some 12) (v := ?_) (a' := ?_) #[true, false, true, false, false, true, false, true, false, false, false, false, false] rfl rfl (by kernel_rfl) (fun _ _ _ h => h) (Or.inl ⟨by rfl, ?_⟩) ?_ ?_
  rotate_left
  · intro w'
    go_simp
    with_reducible rfl
  rotate_left
  · simp only [Act.put, List.setIfInBounds_toArray, List.set_cons_zero, List.set_cons_succ, i64_w, i32_w]
    rfl
  refine take_ (i := 1) (N := some 6) (v := ?_) (a' := ?_) #[true, true, true, false, false, true, false, true, false, false, false, false, false] rfl rfl (by kernel_rfl) (fun _ _ _ h => h) (Or.inl ⟨by rfl, ?_⟩) hHeld ?_ ?_
  rotate_left
  · rintro w' ⟨s0, s1, s2, s3⟩
    go_simp
    with_reducible rfl
  rotate_left
  · simp only [Act.put, List.setIfInBounds_toArray, List.set_cons_zero, List.set_cons_succ, i64_w, i32_w]
    rfl
  refine take_ (i := 3) (N := some 8) (v := ?_) (a' := ?_) #[true, true, true, true, false, true, false, true, false, false, false, false, false] rfl rfl (by kernel_rfl) (fun _ _ _ h => h) (Or.inl ⟨by rfl, ?_⟩) hHeld ?_ ?_
  rotate_left
  · rintro w' ⟨s0, s1, s2, s3⟩
    go_simp
    with_reducible rfl
  rotate_left
  · simp only [Act.put, List.setIfInBounds_toArray, List.set_cons_zero, List.set_cons_succ, i64_w, i32_w]
    rfl
  refine take_ (i := 6) (N := some 11) (v := ?_) (a' := ?_) #[true, true, true, true, false, true, true, true, false, false, false, false, false] rfl rfl (by kernel_rfl) (fun _ _ _ h => h) (Or.inl ⟨by rfl, ?_⟩) hHeld ?_ ?_
  rotate_left
  · rintro w' ⟨s0, s1, s2, s3⟩
    go_simp
    with_reducible rfl
  rotate_left
  · simp only [Act.put, List.setIfInBounds_toArray, List.set_cons_zero, List.set_cons_succ, i64_w, i32_w]
    rfl
  refine take_ (i := 8) (N := some 13) (v := ?_) (a' := ?_) #[true, true, true, true, false, true, true, true, true, false, false, false, false] rfl rfl (by kernel_rfl) (fun _ _ _ h => h) (Or.inl ⟨by rfl, ?_⟩) hHeld ?_ ?_
  rotate_left
  · rintro w' ⟨s0, s1, s2, s3⟩
    go_simp
    with_reducible rfl
  rotate_left
  · simp only [Act.put, List.setIfInBounds_toArray, List.set_cons_zero, List.set_cons_succ, i64_w, i32_w]
    rfl
  refine one_ (i := 4) (N := some 9) #[true, true, true, true, true, true, true, true, true, false, false, false, false] rfl rfl (by kernel_rfl) (by decide) (fun K hK => ?_)
  refine goes_ Try.func38 (by kernel_rfl) rfl #[.int .i64 x.st, .int .i64 y.st] (by rfl) rfl rfl (by simp only [List.map_toArray, List.map_cons, List.map_nil]; rfl) ?_
  with_reducible refine (cmpi_calls x.st y.st w5).mono ?_
  rintro e w6 ⟨rfl, rfl⟩
  refine ⟨_, rfl, ?_⟩
  refine hK.out _ _ ⟨(blk_cell K15.out 5).trans rfl, (blk_cell K25.out 5).trans rfl, (blk_cell K15.out 1).trans rfl, (blk_cell K25.out 1).trans rfl⟩ (fun hHeld => ?_)
  clear hK K
  refine norm_ (a' := ?_) ?_ ?_
  rotate_left
  · show Act.put _ (some 9) _ = _
    simp only [Act.put, List.setIfInBounds_toArray, List.set_cons_zero, List.set_cons_succ, i64_w, i32_w]
    rfl
  refine one_ (i := 9) (N := some 14) #[true, true, true, true, true, true, true, true, true, true, false, false, false] rfl rfl (by kernel_rfl) (by decide) (fun K hK => ?_)
  refine goes_ Try.func42 (by kernel_rfl) rfl #[.int .u64 x.id, .int .u64 y.id] (by rfl) rfl rfl (by simp only [List.map_toArray, List.map_cons, List.map_nil]; rfl) ?_
  with_reducible refine (cmpu_calls x.id y.id w5).mono ?_
  rintro e w6 ⟨rfl, rfl⟩
  refine ⟨_, rfl, ?_⟩
  refine hK.out _ _ ⟨(blk_cell K15.out 5).trans rfl, (blk_cell K25.out 5).trans rfl, (blk_cell K15.out 1).trans rfl, (blk_cell K25.out 1).trans rfl⟩ (fun hHeld => ?_)
  clear hK K
  refine norm_ (a' := ?_) ?_ ?_
  rotate_left
  · show Act.put _ (some 14) _ = _
    simp only [Act.put, List.setIfInBounds_toArray, List.set_cons_zero, List.set_cons_succ, i64_w, i32_w]
    rfl
  refine one_ (i := 10) (N := some 15) #[true, true, true, true, true, true, true, true, true, true, true, false, false] rfl rfl (by kernel_rfl) (by decide) (fun K hK => ?_)
  refine value_ (w1 := ?_) (v := ?_) (by rfl) rfl ?_ ?_
  rotate_left 2
  · go_simp
    constructor
    · rfl
    · rfl
  have hba : Below w5.heap.size w5 (w5.alloc (.cells #[.int .i64 (cmpI x.st y.st), .int .i64 (cmpI x.id y.id)] 3)) := below_alloc (Below.refl _ _) _
  refine hK.out _ _ ⟨(blk_cell (block_below K15.out hba) 5).trans rfl, (blk_cell (block_below K25.out hba) 5).trans rfl, (blk_cell (block_below K15.out hba) 1).trans rfl, (blk_cell (block_below K25.out hba) 1).trans rfl⟩ (fun hHeld => ?_)
  clear hK K
  refine norm_ (a' := ?_) ?_ ?_
  rotate_left
  · show Act.put _ (some 15) _ = _
    simp only [Act.put, List.setIfInBounds_toArray, List.set_cons_zero, List.set_cons_succ, i64_w, i32_w]
    rfl
  refine one_ (i := 11) (N := some 16) #[true, true, true, true, true, true, true, true, true, true, true, true, false] rfl rfl (by kernel_rfl) (by decide) (fun K hK => ?_)
  have hor : Calls Try.prog 41 #[.slice (some ⟨w5.heap.size, 0, none⟩) 2 2] (w5.alloc (.cells #[.int .i64 (cmpI x.st y.st), .int .i64 (cmpI x.id y.id)] 3)) fun e w' => e = .returned (.int .i64 r) ∧ (w5.alloc (.cells #[.int .i64 (cmpI x.st y.st), .int .i64 (cmpI x.id y.id)] 3)) = w' := by rw [← HR.out]; exact or_calls (cmpI x.st y.st) (cmpI x.id y.id) w5.heap.size _ (heap_alloc_new w5 _)
  refine goes_ Try.func41 (by kernel_rfl) rfl #[.slice (some ⟨w5.heap.size, 0, none⟩) 2 2] (by rfl) rfl rfl (by simp only [List.map_toArray, List.map_cons, List.map_nil]; rfl) ?_
  with_reducible refine (hor).mono ?_
  rintro e w6 ⟨rfl, rfl⟩
  refine ⟨_, rfl, ?_⟩
  refine hK.out _ _ ⟨(blk_cell (block_below K15.out hba) 5).trans rfl, (blk_cell (block_below K25.out hba) 5).trans rfl, (blk_cell (block_below K15.out hba) 1).trans rfl, (blk_cell (block_below K25.out hba) 1).trans rfl⟩ (fun hHeld => ?_)
  clear hK K
  refine norm_ (a' := ?_) ?_ ?_
  rotate_left
  · show Act.put _ (some 16) _ = _
    simp only [Act.put, List.setIfInBounds_toArray, List.set_cons_zero, List.set_cons_succ, i64_w, i32_w]
    rfl
  refine pure_ (i := 12) (N := some 4) (v := ?_) (a' := ?_) #[true, true, true, true, true, true, true, true, true, true, true, true, true] rfl rfl (by kernel_rfl) (fun _ _ _ h => h) (Or.inl ⟨by rfl, ?_⟩) ?_ ?_
  rotate_left
  · intro w'
    go_simp
    with_reducible rfl
  rotate_left
  · simp only [Act.put, List.setIfInBounds_toArray, List.set_cons_zero, List.set_cons_succ, i64_w, i32_w]
    rfl
  refine done_ (by kernel_rfl) ?_
  clear hba hor
  go_wp2
  go_ret
  exact ⟨rfl, HG5.out.alloc _⟩

end Go.Proofs.Ytoigebnhnkdbbaa.Tr

namespace Go.Proofs.Ytoigebnhnkdbbaa.Tr
open Go.RowKit Go.Proofs.YtoigebnhnkdbbaaW.PrintWords Go.Proofs.YtoigebnhnkdbbaaW.PrintLast Go.Proofs.YtoigebnhnkdbbaaW.PrintMore Go.Proofs.Ytoigebnhnkdbbaa.Math Go.Proofs.Ytoigebnhnkdbbaa.PAll
open Go.Proofs (sortWorldK CmpLays ltOf)
open Go.Sort (HoldsK flatK putRowK get_flatK size_flatK)
set_option linter.unusedVariables false
set_option linter.unusedSimpArgs false

theorem ltOf_byT (x y : Sp) : ltOf byT x y = ltS x y := by
  unfold ltOf
  rw [Bool.eq_iff_iff, decide_eq_true_iff, ltS_iff]
  unfold byT cmpI
  split <;> (repeat' split) <;> omega
theorem swo_byT : Sort.SWO (ltOf byT) where
  irrefl x := by rw [ltOf_byT]; exact ltS_irrefl x
  trans x y z h1 h2 := by rw [ltOf_byT] at *; exact ltS_trans h1 h2
  ntrans x y z h1 h2 := by
    rw [ltOf_byT] at *
    rw [Bool.eq_false_iff] at *
    intro h
    rw [ne_eq, ltS_iff] at h1 h2
    rw [ltS_iff] at h
    omega
theorem lays_byT (blk off size : Nat) (w : World) : CmpLays Try.prog 34 #[] encS 11 byT blk off size w :=
  fun m os dk _ x y => (byTime_calls x y _).mono fun e w' ⟨he, q, os', hw⟩ => ⟨he, q, os', hw⟩

/-- A row of one's own, as the sort wants it. -/
theorem holds_of {w : World} {g cap : Nat} {cur : Array Value} {xs : List Sp} (hh : w.heap[g]? = some (.cells cur 38 (0, 0))) (hnc : xs.length ≤ cap) (hcs : cur.size = cap * 11)
    (hr : ∀ (j : Nat) (p : Sp), xs[j]? = some p → ((cur.toList.take (xs.length * 11)).drop (j * 11)).take 11 = encS p) : HoldsK encS 11 w g 0 xs.toArray := by
  intro t ht
  rw [size_flatK] at ht
  have ht : t < xs.length * 11 := by simpa using ht
  have hq : t / 11 < xs.length := by omega
  have hp := hr (t / 11) _ (List.getElem?_eq_getElem hq)
  have hcell : w.cell? ⟨g, 0 + t, none⟩ = cur[t]? := by rw [Nat.zero_add]; exact cell_of_row w g t _ _ _ hh
  refine ⟨?_, by rw [Nat.zero_add]; exact blk_frozen hh t⟩
  rw [hcell]
  have hlt : t < cur.size := by rw [hcs]; have := Nat.mul_le_mul_right 11 hnc; omega
  have h1 := congrArg (fun l : List Value => l[t % 11]?) hp
  rw [List.getElem?_take, if_pos (Nat.mod_lt _ (by omega)), List.getElem?_drop, List.getElem?_take, if_pos (by omega), show t / 11 * 11 + t % 11 = t by omega, Array.getElem?_toList] at h1
  rw [h1]
  show (encS xs[t / 11])[t % 11]? = some (flatK encS 11 xs.toArray)[t]!
  rw [get_flatK _ _ _ _ (by simpa using ht)]
  have e : xs.toArray[t / 11]! = xs[t / 11] := by simp [hq]
  rw [e]
  have hm : t % 11 < (encS xs[t / 11]).length := Nat.mod_lt _ (by decide)
  rw [List.getElem?_eq_getElem hm, getElem!_pos (encS xs[t / 11]) (t % 11) hm]

theorem sort_R {base : Nat} {ok : Nat → Prop} {v : Value} {xs : List Sp} {w : World} (h : Kd.R kS 38 w base ok v xs) (hn : xs.length ≤ 1000000) :
    Calls Try.prog 33 #[v, .func (.func 34) #[] #[]] w fun e w' => e = .returned (.tuple #[]) ∧ ∃ ys : List Sp, ys.Perm xs ∧ (∀ i j, i < j → (hj : j < ys.length) → (hi : i < ys.length) → ltS ys[j] ys[i] = false) ∧ Kd.R kS 38 w' base ok v ys ∧ w.grownBy w' v.ownBlock := by
  rcases Nat.eq_zero_or_pos xs.length with hz0 | h0
  · obtain ⟨p, c, rfl⟩ := Kd.R_slice h
    have hnil : xs = [] := List.length_eq_zero_iff.1 hz0
    subst hnil
    have hcon := AnyF.slices_SortFunc_none Try.sortSpan p c (.func (.func 34) #[] #[]) w
    change Calls Try.prog 33 _ _ _ at hcon
    refine hcon.mono ?_
    rintro e w' ⟨rfl, rfl⟩
    exact ⟨rfl, [], List.Perm.refl _, fun i j hij hj hi => absurd hj (by simp), h, rfl, rfl, rfl, Nat.le_refl _, fun _ _ _ => rfl⟩
  obtain ⟨hok, inner, ⟨hl, ho⟩, hr⟩ := h
  rcases ho with ⟨_, hz⟩ | ⟨g, cap, cur, rfl, hg, hh, hnc, hcm, hcs, ht⟩
  · omega
  have hcs : cur.size = cap * 11 := hcs
  have ht : cur.toList.take (xs.length * 11) = inner := ht
  have hH := holds_of hh hnc hcs (fun j p hj => by rw [ht]; exact hr.2 j p hj)
  have eg : ∀ args w, (callFunc 34 args).run Try.prog w = .ok (.enter 34 args) w := enters_of Try.func34 (by kernel_rfl) rfl
  have hcon := AnyQ.slices_SortFunc Try.sortSpan 11 Try.isAgg38 Try.sizeOf38 encS encS_len encS_one byT swo_byT 34 #[] g 0 cap xs.toArray w eg (lays_byT g 0 _ w) hH (blk_lt hh) (by simp; omega)
  change Calls Try.prog 33 _ _ _ at hcon
  rw [show xs.toArray.size = xs.length by simp] at hcon
  refine hcon.mono ?_
  rintro e w' ⟨rfl, d', n, os, ⟨hsz, _, hperm⟩, hsort, rfl⟩
  have hsz : d'.size = xs.length := by simpa using hsz
  refine ⟨rfl, d'.toList, ?_, ?_, ?_, ?_⟩
  · have e1 : (d'.extract 0 xs.length).toList = d'.toList := by rw [← hsz]; simp
    have e2 : (xs.toArray.extract 0 xs.length).toList = xs := by simp
    rw [e1, e2] at hperm
    exact hperm
  · intro i j hij hj hi
    have hj' : j < d'.size := by simpa using hj
    have hi' : i < d'.size := by simpa using hi
    have := hsort i j (Nat.zero_le _) hij (by omega)
    rw [ltOf_byT, getElem!_pos d' j hj', getElem!_pos d' i hi'] at this
    simpa using this
  · have hput : ∀ t, t < xs.length * 11 → (Go.Sort.putCells id 0 (flatK encS 11 d') cur)[t]? = some (flatK encS 11 d')[t]! := by
      intro t htl
      have hc : t < cur.size := by rw [hcs]; have := Nat.mul_le_mul_right 11 hnc; omega
      simp only [Go.Sort.putCells, Array.getElem?_mapIdx, Array.getElem?_eq_getElem hc, Option.map_some, size_flatK, Nat.zero_le, true_and, Nat.zero_add, Nat.sub_zero, id]
      rw [if_pos (by rw [hsz]; exact htl)]
    have hps : (Go.Sort.putCells id 0 (flatK encS 11 d') cur).size = cur.size := by simp [Go.Sort.putCells]
    have hyl : d'.toList.length = xs.length := by simpa using hsz
    have hhg : (sortWorldK encS 11 w g 0 n d' os).heap[g]? = some (.cells (Go.Sort.putCells id 0 (flatK encS 11 d') cur) 38 (0, 0)) := by
      unfold sortWorldK
      rw [Go.Sort.heap_grow_old _ _ (by simp [putRowK, Go.Sort.putRow, Go.Sort.mapBlock, Go.Sort.ahead]; exact blk_lt hh)]
      simp only [putRowK, Go.Sort.putRow, Go.Sort.mapBlock, Go.Sort.ahead, Array.getElem?_modify, if_true, hh, Option.map_some, Go.Sort.onCells]
    refine ⟨hok, (Go.Sort.putCells id 0 (flatK encS 11 d') cur).toList.take (xs.length * 11), ⟨?_, .inr ⟨g, cap, Go.Sort.putCells id 0 (flatK encS 11 d') cur, by rw [hyl], hg, hhg, by rw [hyl]; exact hnc, hcm, ?_, by rw [hyl]; rfl⟩⟩, ?_, ?_⟩
    · rw [hyl, List.length_take]
      show min (xs.length * 11) (Go.Sort.putCells id 0 (flatK encS 11 d') cur).size = xs.length * 11
      rw [hps, hcs]
      exact Nat.min_eq_left (Nat.mul_le_mul_right 11 hnc)
    · rw [hps]; exact hcs
    · rw [hyl, List.length_take]
      show min (xs.length * 11) (Go.Sort.putCells id 0 (flatK encS 11 d') cur).size = xs.length * 11
      rw [hps, hcs]
      exact Nat.min_eq_left (Nat.mul_le_mul_right 11 hnc)
    · intro j p hj
      obtain ⟨hjl, e⟩ := List.getElem?_eq_some_iff.1 hj
      rw [hyl] at hjl
      show (((Go.Sort.putCells id 0 (flatK encS 11 d') cur).toList.take (xs.length * 11)).drop (j * 11)).take 11 = encS p
      refine List.ext_getElem? fun i => ?_
      rw [List.getElem?_take]
      by_cases hi : i < 11
      · rw [if_pos hi, List.getElem?_drop, List.getElem?_take, if_pos (by omega), Array.getElem?_toList, hput _ (by omega), get_flatK _ _ _ _ (by rw [hsz]; omega), show (j * 11 + i) / 11 = j by omega, show (j * 11 + i) % 11 = i by omega]
        have e2 : d'[j]! = p := by
          rw [getElem!_pos d' j (by rw [hsz]; exact hjl)]
          simpa using e
        rw [e2]
        have hm : i < (encS p).length := hi
        rw [List.getElem?_eq_getElem hm, getElem!_pos (encS p) i hm]
      · rw [if_neg hi]
        exact (List.getElem?_eq_none (by rw [encS_len]; omega)).symm
  · refine ⟨rfl, rfl, rfl, by simp [sortWorldK, putRowK, Go.Sort.putRow, Go.Sort.mapBlock, Go.Sort.ahead], fun k hk hne => ?_⟩
    unfold sortWorldK
    rw [Go.Sort.heap_grow_old _ _ (by simp [putRowK, Go.Sort.putRow, Go.Sort.mapBlock, Go.Sort.ahead]; exact hk)]
    simp only [putRowK, Go.Sort.putRow, Go.Sort.mapBlock, Go.Sort.ahead, Array.getElem?_modify]
    have hgk : ¬ g = k := fun e => hne (by rw [← e]; rfl)
    rw [if_neg hgk]

end Go.Proofs.Ytoigebnhnkdbbaa.Tr

namespace Go.Proofs.Ytoigebnhnkdbbaa.Tr
open Go.RowKit Go.Proofs.YtoigebnhnkdbbaaW.PrintWords Go.Proofs.YtoigebnhnkdbbaaW.PrintLast Go.Proofs.YtoigebnhnkdbbaaW.PrintMore Go.Proofs.Ytoigebnhnkdbbaa.Math Go.Proofs.Ytoigebnhnkdbbaa.PAll Go.Proofs.Ytoigebnhnkdbbaa.MapG
open Go.ChangeMaps (setBlock)
set_option linter.unusedVariables false
set_option linter.unusedSimpArgs false

/-- Nothing but the blocks of O has turned; new ones may be there. -/
structure Turn (O : Nat → Prop) (w w1 : World) : Prop where
  os : w1.os = w.os
  tape : w1.tape = w.tape
  output : w1.output = w.output
  size : w.heap.size ≤ w1.heap.size
  block : ∀ k, k < w.heap.size → ¬ O k → w1.heap[k]? = w.heap[k]?
theorem Turn.refl (O : Nat → Prop) (w : World) : Turn O w w := ⟨rfl, rfl, rfl, Nat.le_refl _, fun _ _ _ => rfl⟩
theorem Turn.of_below {O : Nat → Prop} {w w1 : World} (h : Below w.heap.size w w1) : Turn O w w1 := ⟨h.os, h.tape, h.output, h.size, fun k hk _ => h.block k hk⟩
theorem Turn.of_grown {O : Nat → Prop} {w w1 : World} {row : Option Nat} (h : w.grownBy w1 row) (ho : ∀ k, row = some k → O k) : Turn O w w1 :=
  ⟨h.os, h.tape, h.output, h.size, fun k hk hn => h.block k hk fun e => hn (ho k e.symm)⟩
theorem Turn.set {O : Nat → Prop} (w : World) (p i : Nat) (v : Value) (h : O p) : Turn O w (w.setCell ⟨p, i, none⟩ v) :=
  ⟨rfl, rfl, rfl, by simp [World.setCell], fun k _ hn => Below.heap_setCell w ⟨p, i, none⟩ v k (fun e => hn (by rw [e]; exact h))⟩
theorem Turn.setBlk {O : Nat → Prop} (w : World) (p : Nat) (o : Obj) (h : O p) : Turn O w (setBlock w p o) :=
  ⟨rfl, rfl, rfl, by simp [setBlock], fun k _ hn => by
    have hne : ¬ p = k := fun e => hn (e ▸ h)
    simp [setBlock, hne]⟩
theorem Turn.trans {O O' : Nat → Prop} {w w1 w2 : World} (h : Turn O w w1) (h2 : Turn O' w1 w2) (ho : ∀ k, O' k → O k ∨ w.heap.size ≤ k) : Turn O w w2 :=
  ⟨h2.os.trans h.os, h2.tape.trans h.tape, h2.output.trans h.output, Nat.le_trans h.size h2.size, fun k hk hn => (h2.block k (Nat.lt_of_lt_of_le hk h.size) fun hO => (ho k hO).elim hn (by omega)).trans (h.block k hk hn)⟩
theorem Turn.drew {O : Nat → Prop} {w w1 : World} (h : Turn O w w1) : Turn O w w1.drew := ⟨h.os, h.tape, h.output, h.size, h.block⟩
theorem below_turn {O : Nat → Prop} {W w w1 : World} (hb : Below W.heap.size W w) (h : Turn O w w1) (ho : ∀ k, O k → W.heap.size ≤ k) : Below W.heap.size W w1 :=
  ⟨h.os.trans hb.os, h.tape.trans hb.tape, h.output.trans hb.output, Nat.le_trans hb.size h.size, fun k hk => (h.block k (Nat.lt_of_lt_of_le hk hb.size) fun hO => by have := ho k hO; omega).trans (hb.block k hk)⟩
theorem blk_turn {O : Nat → Prop} {w w1 : World} (h : Turn O w w1) {k : Nat} {o : Obj} (hk : w.heap[k]? = some o) (hn : ¬ O k) : w1.heap[k]? = some o := (h.block k (blk_lt hk) hn).trans hk
theorem R_turn {α : Type} {d : Kd α} {e base : Nat} {ok : Nat → Prop} {O : Nat → Prop} {w w1 : World} {v : Value} {xs : List α} (h : d.R e w base ok v xs) (ht : Turn O w w1) (hn : ∀ k, ok k → ¬ O k) : d.R e w1 base ok v xs :=
  Kd.R_step h (fun k hk hlt => ht.block k hlt (hn k hk))

/-- The spans by their numbers, as the map tells them. -/
def byId (L : List Sp) (i : Int) : Option Value := (L.find? fun s => s.id == i).map fun s => .agg (encS s).toArray
theorem byId_isSome (L : List Sp) (i : Int) : (byId L i).isSome = hasId L i := by
  unfold byId hasId
  rw [Option.isSome_map, Bool.eq_iff_iff, List.any_eq_true, List.find?_isSome]
theorem byId_snoc {L : List Sp} {s : Sp} (h : hasId L s.id = false) : byId (L ++ [s]) = fun i => if i = s.id then some (.agg (encS s).toArray) else byId L i := by
  funext i
  unfold byId
  rw [List.find?_append]
  by_cases e : i = s.id
  · rw [if_pos e, e]
    have : L.find? (fun x => x.id == s.id) = none := by
      rw [List.find?_eq_none]
      intro x hx
      have := hasId_false.1 h x hx
      simpa using this
    rw [this]
    simp
  · rw [if_neg e]
    have e2 : (s.id == i) = false := beq_eq_false_iff_ne.2 (fun h => e h.symm)
    simp [e2]

theorem arr_S (s : Sp) : (encS s).toArray = #[.int .u64 s.tr, .int .u64 s.id, .int .u64 s.par, .string s.svc, .string s.op, .int .i64 s.st, .int .i64 s.du, .int .i64 s.stt, .slice s.a.1 s.a.2.1 s.a.2.2, .slice s.e.1 s.e.2.1 s.e.2.2, .slice s.l.1 s.l.2.1 s.l.2.2] := rfl
/-- A span's own block, cell by cell. -/
theorem blkS {w : World} {g : Nat} {t : TypeId} {s : Sp} (h : w.heap[g]? = some (.cells (encS s).toArray t (0, 0))) : w.cell? ⟨g, 0, none⟩ = some (.int .u64 s.tr) ∧ w.cell? ⟨g, 1, none⟩ = some (.int .u64 s.id) ∧ w.cell? ⟨g, 2, none⟩ = some (.int .u64 s.par) ∧ w.cell? ⟨g, 3, none⟩ = some (.string s.svc) ∧ w.cell? ⟨g, 4, none⟩ = some (.string s.op) ∧ w.cell? ⟨g, 5, none⟩ = some (.int .i64 s.st) ∧ w.cell? ⟨g, 6, none⟩ = some (.int .i64 s.du) ∧ w.cell? ⟨g, 7, none⟩ = some (.int .i64 s.stt) ∧ w.cell? ⟨g, 8, none⟩ = some (.slice s.a.1 s.a.2.1 s.a.2.2) ∧ w.cell? ⟨g, 9, none⟩ = some (.slice s.e.1 s.e.2.1 s.e.2.2) ∧ w.cell? ⟨g, 10, none⟩ = some (.slice s.l.1 s.l.2.1 s.l.2.2) :=
  ⟨(blk_cell h 0).trans rfl, (blk_cell h 1).trans rfl, (blk_cell h 2).trans rfl, (blk_cell h 3).trans rfl, (blk_cell h 4).trans rfl, (blk_cell h 5).trans rfl, (blk_cell h 6).trans rfl, (blk_cell h 7).trans rfl, (blk_cell h 8).trans rfl, (blk_cell h 9).trans rfl, (blk_cell h 10).trans rfl⟩
theorem reps_S (w : World) (base : Nat) (ok : Nat → Prop) (s : Sp) : Reps (Kd.M kS w base ok) 11 [s] (encS s) := by
  have h := Reps.snoc (size := 11) (Reps.none (Kd.M kS w base ok) 11) (p := s) (c := encS s) rfl rfl
  exact h
theorem reps_L (w : World) (base : Nat) (ok : Nat → Prop) (s : Ln) : Reps (Kd.M kL w base ok) 13 [s] (encL s) := by
  have h := Reps.snoc (size := 13) (Reps.none (Kd.M kL w base ok) 13) (p := s) (c := encL s) rfl rfl
  exact h
theorem R_above {α : Type} {d : Kd α} {e N : Nat} {w w1 : World} {v : Value} {xs : List α} (h : d.R e w N (fun _ => True) v xs) (hm : ∀ k, N ≤ k → k < w.heap.size → w1.heap[k]? = w.heap[k]?) : d.R e w1 N (fun _ => True) v xs :=
  Kd.R_mono (Kd.R_move (Kd.R_bound h) (fun k hk => hm k hk.2.1 hk.2.2.1)) (fun _ _ => trivial)

/-- The family while the spans are gathered. n: the block of the result; ma: what the map holds, ra: what the row holds. -/
structure G1 (w wr : World) (n : Nat) (ma ra : List Sp) (v : Value) : Prop where
  bw : Below w.heap.size w wr
  n0 : w.heap.size ≤ n
  size : n + 4 ≤ wr.heap.size
  res : wr.heap[n]? = some (.cells #[.slice none 0 0, .map none, .map none] 47 (0, 0))
  m1 : ∃ es clk, wr.heap[n + 1]? = some (.map es clk) ∧ MOk (Value.int .u64) es clk (byId ma)
  m2 : wr.heap[n + 1 + 1]? = some (.map #[] 0)
  fam : wr.heap[n + 1 + 1 + 1]? = some (.cells #[v, .map (some (n + 1)), .map (some (n + 1 + 1))] 47 (0, 0))
  row : Kd.R kS 38 wr (n + 4) (fun _ => True) v ra

theorem G1.step {w wr w1 : World} {n : Nat} {ma ra : List Sp} {v : Value} (h : G1 w wr n ma ra v) (hs : wr.heap.size ≤ w1.heap.size) (ho : w1.os = wr.os) (ht : w1.tape = wr.tape) (hp : w1.output = wr.output) (hk : ∀ k, k < n + 4 → w1.heap[k]? = wr.heap[k]?) (hrow : Kd.R kS 38 w1 (n + 4) (fun _ => True) v ra) : G1 w w1 n ma ra v :=
  ⟨⟨ho.trans h.bw.os, ht.trans h.bw.tape, hp.trans h.bw.output, Nat.le_trans h.bw.size hs, fun k hk2 => (hk k (by have := h.n0; omega)).trans (h.bw.block k hk2)⟩, h.n0, Nat.le_trans h.size hs, (hk _ (by omega)).trans h.res, by obtain ⟨es, clk, h1, h2⟩ := h.m1; exact ⟨es, clk, (hk _ (by omega)).trans h1, h2⟩, (hk _ (by omega)).trans h.m2, (hk _ (by omega)).trans h.fam, hrow⟩
theorem G1.next {w wr w1 : World} {n : Nat} {ma ra : List Sp} {v : Value} (h : G1 w wr n ma ra v) (hb : Below wr.heap.size wr w1) : G1 w w1 n ma ra v :=
  h.step hb.size hb.os hb.tape hb.output (fun k hk => hb.block k (by have := h.size; omega)) (Kd.R_below h.row hb)
theorem G1.start (w : World) : G1 w ((((w.alloc (.cells #[.slice none 0 0, .map none, .map none] 47)).alloc (.map #[] 0)).alloc (.map #[] 0)).alloc (.cells #[.slice none 0 0, .map (some (w.heap.size + 1)), .map (some (w.heap.size + 1 + 1))] 47)) w.heap.size [] [] (.slice none 0 0) := by
  have sz : ∀ (W : World) (o : Obj), (W.alloc o).heap.size = W.heap.size + 1 := fun W o => by simp
  have b : ∀ (W : World) (o : Obj), Below W.heap.size W (W.alloc o) := fun W o => below_alloc (Below.refl _ _) o
  have h1 := heap_alloc_new w (.cells #[.slice none 0 0, .map none, .map none] 47)
  have h2 := heap_alloc_new (w.alloc (.cells #[.slice none 0 0, .map none, .map none] 47)) (.map #[] 0)
  have h3 := heap_alloc_new ((w.alloc (.cells #[.slice none 0 0, .map none, .map none] 47)).alloc (.map #[] 0)) (.map #[] 0)
  have h4 := heap_alloc_new (((w.alloc (.cells #[.slice none 0 0, .map none, .map none] 47)).alloc (.map #[] 0)).alloc (.map #[] 0)) (.cells #[.slice none 0 0, .map (some (w.heap.size + 1)), .map (some (w.heap.size + 1 + 1))] 47)
  simp only [sz] at h2 h3 h4
  exact ⟨below_alloc (below_alloc (below_alloc (below_alloc (Below.refl _ _) _) _) _) _, Nat.le_refl _, by simp only [sz]; omega, block_below (block_below (block_below h1 (b _ _)) (b _ _)) (b _ _), ⟨#[], 0, block_below (block_below h2 (b _ _)) (b _ _), MOk.empty _ 0⟩, block_below h3 (b _ _), h4, Kd.R_nil _ _ _ _ _⟩
theorem G1.put {w wr : World} {n : Nat} {acc ra : List Sp} {v : Value} (h : G1 w wr n acc ra v) {s : Sp} (hs : hasId acc s.id = false) {es : Array MapEntry} {clk : Nat} (hm : MOk (Value.int .u64) es clk (fun i => if i = s.id then some (.agg (encS s).toArray) else byId acc i)) : G1 w (setBlock wr (n + 1) (.map es clk)) n (acc ++ [s]) ra v := by
  have hk : ∀ k, k ≠ n + 1 → (setBlock wr (n + 1) (.map es clk)).heap[k]? = wr.heap[k]? := fun k hk => by rw [heap_setBlock, if_neg (fun e => hk e.1.symm)]
  have hsz := h.size
  refine ⟨⟨h.bw.os, h.bw.tape, h.bw.output, by rw [size_setBlock]; exact h.bw.size, fun k hk2 => (hk k (by have := h.n0; omega)).trans (h.bw.block k hk2)⟩, h.n0, by rw [size_setBlock]; exact hsz, (hk _ (by omega)).trans h.res, ⟨es, clk, by rw [heap_setBlock, if_pos ⟨rfl, by omega⟩], by rw [byId_snoc hs]; exact hm⟩, (hk _ (by omega)).trans h.m2, (hk _ (by omega)).trans h.fam, R_above h.row (fun k h1 _ => hk k (by omega))⟩
theorem G1.app {w wr w1 : World} {n : Nat} {ma ra ra1 : List Sp} {v v1 : Value} (h : G1 w wr n ma ra v) (hb : Below (n + 4) wr w1) (hr : Kd.R kS 38 w1 (n + 4) (fun _ => True) v1 ra1) : G1 w (w1.setCell ⟨n + 1 + 1 + 1, 0, none⟩ v1) n ma ra1 v1 := by
  have hk : ∀ k, k < n + 4 → w1.heap[k]? = wr.heap[k]? := hb.block
  have hf := (hk _ (by omega)).trans h.fam
  have hk2 : ∀ k, k < n + 4 → k ≠ n + 1 + 1 + 1 → (w1.setCell ⟨n + 1 + 1 + 1, 0, none⟩ v1).heap[k]? = wr.heap[k]? := fun k h1 h2 => (Below.heap_setCell w1 ⟨n + 1 + 1 + 1, 0, none⟩ v1 k h2).trans (hk k h1)
  refine ⟨⟨hb.os.trans h.bw.os, hb.tape.trans h.bw.tape, hb.output.trans h.bw.output, by rw [World.size_setCell]; exact Nat.le_trans h.bw.size hb.size, fun k hk3 => (hk2 k (by have := h.n0; omega) (by have := h.n0; omega)).trans (h.bw.block k hk3)⟩, h.n0, by rw [World.size_setCell]; exact Nat.le_trans h.size hb.size, (hk2 _ (by omega) (by omega)).trans h.res, by obtain ⟨es, clk, h1, h2⟩ := h.m1; exact ⟨es, clk, (hk2 _ (by omega) (by omega)).trans h1, h2⟩, (hk2 _ (by omega) (by omega)).trans h.m2, ?_, R_above hr (fun k h1 _ => Below.heap_setCell w1 ⟨n + 1 + 1 + 1, 0, none⟩ v1 k (by show k ≠ n + 1 + 1 + 1; omega))⟩
  have := blk_set hf 0 v1
  simpa using this
theorem R_base {α : Type} {d : Kd α} {e N : Nat} {ok : Nat → Prop} {w : World} {v : Value} {xs : List α} (h : d.R e w N ok v xs) (k : Nat) (hk : v.ownBlock = some k) : N ≤ k := by
  obtain ⟨_, inner, ho, _⟩ := h
  exact own_base ho k hk
theorem G1.sorted {w wr w1 : World} {n : Nat} {ma ra ra1 : List Sp} {v : Value} (h : G1 w wr n ma ra v) (hg : wr.grownBy w1 v.ownBlock) (hr : Kd.R kS 38 w1 (n + 4) (fun _ => True) v ra1) : G1 w w1 n ma ra1 v :=
  have hk : ∀ k, k < n + 4 → w1.heap[k]? = wr.heap[k]? := fun k hk => hg.block k (by have := h.size; omega) fun e => by have := R_base h.row k e.symm; omega
  ⟨⟨hg.os.trans h.bw.os, hg.tape.trans h.bw.tape, hg.output.trans h.bw.output, Nat.le_trans h.bw.size hg.size, fun k hk2 => (hk k (by have := h.n0; omega)).trans (h.bw.block k hk2)⟩, h.n0, Nat.le_trans h.size hg.size, (hk _ (by omega)).trans h.res, by obtain ⟨es, clk, h1, h2⟩ := h.m1; exact ⟨es, clk, (hk _ (by omega)).trans h1, h2⟩, (hk _ (by omega)).trans h.m2, (hk _ (by omega)).trans h.fam, hr⟩
/-- Blocks k < B of the call's own stay. -/
theorem R_range {α : Type} {d : Kd α} {e N B : Nat} {w w1 : World} {v : Value} {xs : List α} (h : d.R e w N (fun k => k < B) v xs) (hm : ∀ k, N ≤ k → k < B → w1.heap[k]? = w.heap[k]?) : d.R e w1 N (fun k => k < B) v xs :=
  Kd.R_mono (Kd.R_move (Kd.R_bound h) (fun k hk => hm k hk.2.1 hk.1)) (fun _ hk => hk.1)
theorem kids_snoc (D : List Sp) (s : Sp) (q : Int) : kidsOf (D ++ [s]) q = if s.par = q then kidsOf D q ++ [s] else kidsOf D q := by
  unfold kidsOf
  rw [List.filter_append]
  by_cases h : s.par = q
  · rw [if_pos h]; simp [h]
  · rw [if_neg h]; simp [h]
/-- The rows of children, told by their parent's number: each a row of its own. -/
structure Kids (wr : World) (B : Nat) (f : Int → Option Value) (D : List Sp) : Prop where
  at_ : ∀ p, (f p = none ∧ kidsOf D p = []) ∨ ∃ u, f p = some u ∧ kidsOf D p ≠ [] ∧ Kd.R kS 38 wr B (fun _ => True) u (kidsOf D p)
  apart : ∀ p q u u', f p = some u → f q = some u' → p ≠ q → u.ownBlock ≠ u'.ownBlock
theorem Kids.get {wr : World} {B : Nat} {f : Int → Option Value} {D : List Sp} (h : Kids wr B f D) (p : Int) : Kd.R kS 38 wr B (fun _ => True) ((f p).getD (.slice none 0 0)) (kidsOf D p) := by
  rcases h.at_ p with ⟨h1, h2⟩ | ⟨u, h1, _, h3⟩
  · rw [h1, h2]; exact Kd.R_nil _ _ _ _ _
  · rw [h1]; exact h3
theorem R_pos_block {w : World} {B : Nat} {ok : Nat → Prop} {u : Value} {xs : List Sp} (h : Kd.R kS 38 w B ok u xs) (hx : xs ≠ []) : ∃ b, u.ownBlock = some b ∧ B ≤ b ∧ b < w.heap.size := by
  obtain ⟨ad, c, rfl⟩ := Kd.R_slice1 h (List.length_pos_iff.2 hx)
  obtain ⟨_, inner, ho, _⟩ := h
  exact ⟨ad.block, rfl, own_base ho _ rfl, own_lt ho _ rfl⟩
theorem Kids.below {wr w1 : World} {B : Nat} {f : Int → Option Value} {D : List Sp} (h : Kids wr B f D) (hb : Below wr.heap.size wr w1) : Kids w1 B f D :=
  ⟨fun p => (h.at_ p).imp id fun ⟨u, h1, h2, h3⟩ => ⟨u, h1, h2, Kd.R_below h3 hb⟩, h.apart⟩
theorem Kids.above {wr w1 : World} {B : Nat} {f : Int → Option Value} {D : List Sp} (h : Kids wr B f D) (hm : ∀ k, B ≤ k → k < wr.heap.size → w1.heap[k]? = wr.heap[k]?) : Kids w1 B f D :=
  ⟨fun p => (h.at_ p).imp id fun ⟨u, h1, h2, h3⟩ => ⟨u, h1, h2, R_above h3 hm⟩, h.apart⟩
theorem Kids.app {wr w1 : World} {B : Nat} {f : Int → Option Value} {D : List Sp} (h : Kids wr B f D) {s : Sp} {v : Value} (hg : wr.grownBy w1 ((f s.par).getD (.slice none 0 0)).ownBlock)
    (hr : Kd.R kS 38 w1 B (fun _ => True) v (kidsOf D s.par ++ [s])) (hn : v.ownBlock = ((f s.par).getD (.slice none 0 0)).ownBlock ∨ ∃ b, v.ownBlock = some b ∧ wr.heap.size ≤ b) :
    Kids w1 B (fun q => if q = s.par then some v else f q) (D ++ [s]) := by
  have hvb := R_pos_block hr (by simp)
  have hsep : ∀ q u, q ≠ s.par → f q = some u → u.ownBlock ≠ v.ownBlock ∧ u.ownBlock ≠ ((f s.par).getD (.slice none 0 0)).ownBlock := by
    intro q u hq hu
    rcases h.at_ q with ⟨h1, _⟩ | ⟨u2, h1, h2, h3⟩
    · rw [hu] at h1; cases h1
    rw [hu] at h1
    injection h1 with h1
    subst h1
    obtain ⟨b, hb, _, hlt⟩ := R_pos_block h3 h2
    have hz : u.ownBlock ≠ ((f s.par).getD (.slice none 0 0)).ownBlock := by
      cases hf : f s.par with
      | none => rw [hb]; simp [Value.ownBlock]
      | some z => exact h.apart q s.par u z hu hf hq
    refine ⟨fun e => ?_, hz⟩
    rcases hn with hn | ⟨b2, hb2, hle⟩
    · exact hz (e.trans hn)
    · rw [hb, hb2] at e
      injection e with e
      omega
  refine ⟨fun q => ?_, fun p q u u' hp hq hne => ?_⟩
  · rw [kids_snoc]
    by_cases hq : q = s.par
    · subst hq
      exact .inr ⟨v, if_pos rfl, by rw [if_pos rfl]; simp, by rw [if_pos rfl]; exact hr⟩
    · have e1 : (if s.par = q then kidsOf D q ++ [s] else kidsOf D q) = kidsOf D q := if_neg (fun e => hq e.symm)
      rw [e1]
      rcases h.at_ q with ⟨h1, h2⟩ | ⟨u, h1, h2, h3⟩
      · exact .inl ⟨by rw [if_neg hq]; exact h1, h2⟩
      · refine .inr ⟨u, by rw [if_neg hq]; exact h1, h2, ?_⟩
        have h4 := Kd.R_flat (ok' := fun k => some k = u.ownBlock) (fun {_ _ _ _} hm => hm) h3 (fun k hk _ => hk.symm)
        refine Kd.R_mono (Kd.R_step h4 fun k hk hlt => hg.block k hlt ?_) (fun _ _ => trivial)
        rw [hk]
        exact (hsep q u hq h1).2
  · by_cases h1 : p = s.par
    · rw [if_pos h1] at hp
      injection hp with hp
      subst hp
      rw [if_neg (fun e => hne (h1.trans e.symm))] at hq
      exact (hsep q u' (fun e => hne (h1.trans e.symm)) hq).1.symm
    · rw [if_neg h1] at hp
      by_cases h2 : q = s.par
      · rw [if_pos h2] at hq
        injection hq with hq
        subst hq
        exact (hsep p u h1 hp).1
      · rw [if_neg h2] at hq
        exact h.apart p q u u' hp hq hne
/-- The family while the children are told: n as in G1, B: the world's size when it began, D: the spans already told. -/
structure G2 (w wr : World) (n B : Nat) (ma C : List Sp) (v : Value) (D : List Sp) : Prop where
  bw : Below w.heap.size w wr
  n0 : w.heap.size ≤ n
  nB : n + 4 ≤ B
  size : B ≤ wr.heap.size
  res : wr.heap[n]? = some (.cells #[.slice none 0 0, .map none, .map none] 47 (0, 0))
  m1 : ∃ es clk, wr.heap[n + 1]? = some (.map es clk) ∧ MOk (Value.int .u64) es clk (byId ma)
  m2 : ∃ es clk f, wr.heap[n + 1 + 1]? = some (.map es clk) ∧ MOk (Value.int .u64) es clk f ∧ Kids wr B f D
  fam : wr.heap[n + 1 + 1 + 1]? = some (.cells #[v, .map (some (n + 1)), .map (some (n + 1 + 1))] 47 (0, 0))
  row : Kd.R kS 38 wr (n + 4) (fun k => k < B) v C
theorem G2.start {w wr : World} {n : Nat} {ma C : List Sp} {v : Value} (h : G1 w wr n ma C v) : G2 w wr n wr.heap.size ma C v [] :=
  ⟨h.bw, h.n0, h.size, Nat.le_refl _, h.res, h.m1, ⟨#[], 0, _, h.m2, MOk.empty _ 0, ⟨fun p => .inl ⟨rfl, rfl⟩, fun p q u u' hp => by cases hp⟩⟩, h.fam, Kd.R_mono (Kd.R_bound h.row) (fun _ hk => hk.2.2.1)⟩
theorem G2.next {w wr w1 : World} {n B : Nat} {ma C D : List Sp} {v : Value} (h : G2 w wr n B ma C v D) (hb : Below wr.heap.size wr w1) : G2 w w1 n B ma C v D := by
  have hsz := h.size
  have hnB := h.nB
  have hk : ∀ k, k < wr.heap.size → w1.heap[k]? = wr.heap[k]? := hb.block
  obtain ⟨es, clk, f, h1, h2, h3⟩ := h.m2
  obtain ⟨es1, clk1, h4, h5⟩ := h.m1
  exact ⟨⟨hb.os.trans h.bw.os, hb.tape.trans h.bw.tape, hb.output.trans h.bw.output, Nat.le_trans h.bw.size hb.size, fun k hk2 => (hk k (by have := h.n0; omega)).trans (h.bw.block k hk2)⟩, h.n0, h.nB, Nat.le_trans h.size hb.size, (hk _ (by omega)).trans h.res, ⟨es1, clk1, (hk _ (by omega)).trans h4, h5⟩, ⟨es, clk, f, (hk _ (by omega)).trans h1, h2, h3.below hb⟩, (hk _ (by omega)).trans h.fam, R_range h.row (fun k h6 h7 => hk k (by omega))⟩
theorem G2.app {w wr w1 : World} {n B : Nat} {ma C D : List Sp} {v z u : Value} (h : G2 w wr n B ma C v D) {es es' : Array MapEntry} {clk clk' : Nat} {f : Int → Option Value} {s : Sp} (hm : wr.heap[n + 1 + 1]? = some (.map es clk)) (hf : MOk (Value.int .u64) es clk f) (hK : Kids wr B f D) (hz : (f s.par).getD (.slice none 0 0) = z) (hg : wr.grownBy w1 z.ownBlock)
    (hr : Kd.R kS 38 w1 B (fun _ => True) u (kidsOf D s.par ++ [s])) (hn : u.ownBlock = z.ownBlock ∨ ∃ b, u.ownBlock = some b ∧ wr.heap.size ≤ b) (hm2 : MOk (Value.int .u64) es' clk' (fun q => if q = s.par then some u else f q)) :
    G2 w (setBlock w1 (n + 1 + 1) (.map es' clk')) n B ma C v (D ++ [s]) := by
  subst hz
  have hsz := h.size
  have hnB := h.nB
  have hzb : ∀ k, ((f s.par).getD (.slice none 0 0)).ownBlock = some k → B ≤ k := fun k hk => by
    obtain ⟨_, inner, ho, _⟩ := hK.get s.par
    exact own_base ho k hk
  have hk0 : ∀ k, k < B → w1.heap[k]? = wr.heap[k]? := fun k hk => hg.block k (by omega) fun e => by have := hzb k e.symm; omega
  have hk : ∀ k, k < B → k ≠ n + 1 + 1 → (setBlock w1 (n + 1 + 1) (.map es' clk')).heap[k]? = wr.heap[k]? := fun k hk hne => by rw [heap_setBlock, if_neg (fun e => hne e.1.symm)]; exact hk0 k hk
  have hA := hK.app hg hr hn
  obtain ⟨es1, clk1, h4, h5⟩ := h.m1
  refine ⟨⟨hg.os.trans h.bw.os, hg.tape.trans h.bw.tape, hg.output.trans h.bw.output, by rw [size_setBlock]; exact Nat.le_trans h.bw.size hg.size, fun k hk2 => (hk k (by have := h.n0; have := h.bw.size; omega) (by have := h.n0; omega)).trans (h.bw.block k hk2)⟩, h.n0, h.nB, by rw [size_setBlock]; exact Nat.le_trans h.size hg.size, (hk _ (by omega) (by omega)).trans h.res, ⟨es1, clk1, (hk _ (by omega) (by omega)).trans h4, h5⟩, ⟨es', clk', _, ?_, hm2, hA.above (fun k h6 h7 => by rw [heap_setBlock, if_neg (fun e => by have := e.1; omega)])⟩, (hk _ (by omega) (by omega)).trans h.fam, R_range h.row (fun k h6 h7 => hk k h7 (by omega))⟩
  rw [heap_setBlock, if_pos ⟨rfl, by have := hg.size; omega⟩]

/-- The family, told: every block of it lies from lo on, below hi. -/
structure Fam (lo hi : Nat) (w : World) (U C : List Sp) (v : Value) (g1 g2 : Nat) : Prop where
  row : Kd.R kS 38 w lo (fun k => k < hi) v C
  b1 : lo ≤ g1 ∧ g1 < hi
  b2 : lo ≤ g2 ∧ g2 < hi
  m1 : ∃ es clk, w.heap[g1]? = some (.map es clk) ∧ MOk (Value.int .u64) es clk (byId U)
  m2 : ∃ es clk f, w.heap[g2]? = some (.map es clk) ∧ MOk (Value.int .u64) es clk f ∧ ∀ p, Kd.R kS 38 w lo (fun k => k < hi) ((f p).getD (.slice none 0 0)) (kidsOf C p)
theorem Fam.move {lo hi : Nat} {w w1 : World} {U C : List Sp} {v : Value} {g1 g2 : Nat} (h : Fam lo hi w U C v g1 g2) (hm : ∀ k, lo ≤ k → k < hi → w1.heap[k]? = w.heap[k]?) : Fam lo hi w1 U C v g1 g2 := by
  obtain ⟨es, clk, f, h1, h2, h3⟩ := h.m2
  obtain ⟨es1, clk1, h4, h5⟩ := h.m1
  exact ⟨R_range h.row hm, h.b1, h.b2, ⟨es1, clk1, (hm _ h.b1.1 h.b1.2).trans h4, h5⟩, ⟨es, clk, f, (hm _ h.b2.1 h.b2.2).trans h1, h2, fun p => R_range (h3 p) hm⟩⟩
theorem G2.fam_ {w wr : World} {n B : Nat} {ma C : List Sp} {v : Value} (h : G2 w wr n B ma C v C) : Fam (n + 1) wr.heap.size wr ma C v (n + 1) (n + 1 + 1) := by
  have hsz := h.size
  have hnB := h.nB
  have hn0 := h.n0
  obtain ⟨es, clk, f, h1, h2, h3⟩ := h.m2
  exact ⟨Kd.R_lower (Kd.R_mono h.row (fun k hk => Nat.lt_of_lt_of_le hk hsz)) (by omega), ⟨by omega, by omega⟩, ⟨by omega, by omega⟩, h.m1, ⟨es, clk, f, h1, h2, fun p => Kd.R_lower (Kd.R_mono (Kd.R_bound (h3.get p)) (fun k hk => hk.2.2.1)) (by omega)⟩⟩
theorem Fam.lower {lo lo' hi : Nat} {w : World} {U C : List Sp} {v : Value} {g1 g2 : Nat} (h : Fam lo hi w U C v g1 g2) (hl : lo' ≤ lo) : Fam lo' hi w U C v g1 g2 := by
  obtain ⟨es, clk, f, h1, h2, h3⟩ := h.m2
  exact ⟨Kd.R_lower h.row hl, ⟨Nat.le_trans hl h.b1.1, h.b1.2⟩, ⟨Nat.le_trans hl h.b2.1, h.b2.2⟩, h.m1, ⟨es, clk, f, h1, h2, fun p => Kd.R_lower (h3 p) hl⟩⟩
/-- A counted loop's measure. -/
theorem meas_up {L k : Nat} (h : L ≤ 1000000) (hk : k + 1 ≤ L) : L - (intOf (.int .i64 (wrap64 ((k : Int) + 1)))).toNat < L - (intOf (.int .i64 k)).toNat := by
  have hw : wrap64 ((k : Int) + 1) = ((k + 1 : Nat) : Int) := by unfold wrap64; omega
  rw [hw]
  show L - ((k + 1 : Nat) : Int).toNat < L - (k : Int).toNat
  rw [Int.toNat_natCast, Int.toNat_natCast]
  omega
end Go.Proofs.Ytoigebnhnkdbbaa.Tr

namespace Go.Proofs.Ytoigebnhnkdbbaa.Tr
open Go.RowKit Go.Proofs.YtoigebnhnkdbbaaW.PrintWords Go.Proofs.YtoigebnhnkdbbaaW.PrintLast Go.Proofs.YtoigebnhnkdbbaaW.PrintMore Go.Proofs.Ytoigebnhnkdbbaa.Math Go.Proofs.Ytoigebnhnkdbbaa.PAll Go.Proofs.Ytoigebnhnkdbbaa.MapG
open Go.ChangeMaps (setBlock)
set_option linter.unusedVariables false
set_option linter.unusedSimpArgs false

set_option maxHeartbeats 4000000 in
set_option maxRecDepth 100000 in
theorem gathered_calls (A : Option Addr) (c : Nat) (l : List Sp) (w : World) (hr : Kd.C kS w A l.length l) (hl : l.length ≤ c) (hn : l.length ≤ 1000000) :
    Calls Try.prog 21 #[.slice A l.length c] w fun e w' => ∃ v g1 g2, e = .returned (.agg #[v, .map (some g1), .map (some g2)]) ∧ Fam w.heap.size w'.heap.size w' (uq l) (cnt l) v g1 g2 ∧ Below w.heap.size w w' := by
  have HR := Lib.hid hr
  have HN := Lib.hid hn
  clear hr hn
  have hmm := @run_makeMap Try.prog
  go_enter Try.func21, Try.ntmps21
  go_wp2
  clear hmm
  go_loopw [5, 6, 7, 15] (fun _ _ _ i wr => ∃ (k : Nat) (v : Value), k ≤ l.length ∧ i = .int .i64 k ∧ Hid (G1 w wr w.heap.size (uq (l.take k)) (uq (l.take k)) v)) (fun _ _ _ i _ => l.length - (intOf i).toNat)
  case atStart => exact ⟨0, _, by omega, rfl, Lib.hid (G1.start w)⟩
  case round =>
    obtain ⟨k, v, hk, rfl, HG⟩ := hrel
    by_cases hlt : k < l.length
    · obtain ⟨s, hs⟩ : ∃ s, l[k]? = some s := ⟨_, List.getElem?_eq_getElem hlt⟩
      obtain ⟨ad, rfl, x0, x1, x2, x3, x4, x5, x6, x7, x8, x9, x10⟩ := at_S (Kd.C_below HR.out HG.out.bw) hs
      have HTk := Lib.hid (show uq (l.take (k + 1)) = uq1 (uq (l.take k)) s by
        obtain ⟨hk2, e⟩ := List.getElem?_eq_some_iff.1 hs
        rw [List.take_succ_eq_append_getElem hk2, e, uq_snoc])
      have q : (k : Int) < (l.length : Int) := by omega
      have HK := Lib.hid (show k + 1 ≤ l.length by omega)
      have HW := Lib.hid (show wrap64 ((k : Int) + 1) = ((k + 1 : Nat) : Int) by have := HN.out; unfold wrap64; omega)
      have HM := Lib.hid (show l.length - (k + 1) < l.length - k by omega)
      have HG1 := Lib.hid (HG.out.next (below_alloc (Below.refl _ _) (.cells (encS s).toArray 38)))
      have KS := Lib.hid (heap_alloc_new wr (.cells (encS s).toArray 38))
      rw [arr_S] at HG1 KS
      clear hs hlt hk
      go_upto_region 5 with (fail)
      clear x0 x1 x2 x3 x4 x5 x6 x7 x8 x9 x10
      generalize (wr.alloc (.cells #[.int .u64 s.tr, .int .u64 s.id, .int .u64 s.par, .string s.svc, .string s.op, .int .i64 s.st, .int .i64 s.du, .int .i64 s.stt, .slice s.a.1 s.a.2.1 s.a.2.2, .slice s.e.1 s.e.2.1 s.e.2.2, .slice s.l.1 s.l.2.1 s.l.2.2] 38)) = w1 at HG1 KS ⊢
      generalize (Value.agg #[.int .u64 s.tr, .int .u64 s.id, .int .u64 s.par, .string s.svc, .string s.op, .int .i64 s.st, .int .i64 s.du, .int .i64 s.stt, .slice s.a.1 s.a.2.1 s.a.2.2, .slice s.e.1 s.e.2.1 s.e.2.2, .slice s.l.1 s.l.2.1 s.l.2.2]) = junk1

      obtain ⟨es, clk, hm, hmo⟩ := HG1.out.m1
      have y1 : w1.cell? ⟨w.heap.size + 1 + 1 + 1, 1, none⟩ = some (.map (some (w.heap.size + 1))) := (blk_cell HG1.out.fam 1).trans rfl
      have y2 : w1.cell? ⟨wr.heap.size, 1, none⟩ = some (.int .u64 s.id) := (blk_cell KS.out 1).trans rfl
      have hlk := run_look (mkey_int .u64) Try.underlying44 Try.underlying33 _ w1 (Try.zeroValue38 w1) hm hmo s.id
      rw [byId_isSome] at hlk
      cases hh : hasId (uq (l.take k)) s.id with
      | true =>
        have HTk2 := Lib.hid (show uq (l.take (k + 1)) = uq (l.take k) by rw [HTk.out]; unfold uq1; rw [if_pos hh])
        rw [hh] at hlk
        obtain ⟨s2, hs2⟩ : ∃ s2, (byId (uq (l.take k)) s.id) = some (.agg (encS s2).toArray) := by
          have h2 := byId_isSome (uq (l.take k)) s.id
          rw [hh] at h2
          unfold byId at h2 ⊢
          cases hf : (uq (l.take k)).find? fun s_1 => s_1.id == s.id with
          | none => rw [hf] at h2; cases h2
          | some s2 => exact ⟨s2, rfl⟩
        rw [hs2, Option.getD_some, arr_S] at hlk
        have HGx := Lib.hid (HG1.out.next (below_alloc (Below.refl _ _) (.cells (encS s2).toArray 38)))
        rw [arr_S] at HGx
        clear hm hmo hs2 hh

        go_wp2
        go_roundw
        case rel => exact ⟨k + 1, v, HK.out, by rw [HW.out], Lib.hid (by rw [HTk2.out]; exact HGx.out)⟩
        case measure => exact meas_up HN.out HK.out
      | false =>
        have HTk2 := Lib.hid (show uq (l.take (k + 1)) = uq (l.take k) ++ [s] by rw [HTk.out]; unfold uq1; rw [if_neg (by rw [hh]; decide)])
        have HH := Lib.hid hh
        obtain ⟨Av, cv, rfl⟩ := Kd.R_slice HG.out.row
        have hn0 : byId (uq (l.take k)) s.id = none := by
          have h2 := byId_isSome (uq (l.take k)) s.id
          rw [hh] at h2
          cases hf : byId (uq (l.take k)) s.id with
          | none => rfl
          | some v => rw [hf] at h2; cases h2
        rw [hh, hn0, Option.getD_none] at hlk
        have HL2 := Lib.hid (show (uq (l.take k)).length ≤ 1000000 from Nat.le_trans (uq_len _) (Nat.le_trans (by rw [List.length_take]; omega) HN.out))
        clear hm hmo hh hn0
        have hz := below_alloc (Below.refl w1.heap.size w1) (.cells #[(.int .u64 0), (.int .u64 0), (.int .u64 0), (.string ⟨#[]⟩), (.string ⟨#[]⟩), (.int .i64 0), (.int .i64 0), (.int .i64 0), (.slice none 0 0), (.slice none 0 0), (.slice none 0 0)] 38)
        have HGx := Lib.hid (HG1.out.next hz)
        have KSx := Lib.hid (block_below KS.out hz)
        clear hz
        go_upto_region 7 with (fail)
        generalize (w1.alloc (.cells #[(.int .u64 0), (.int .u64 0), (.int .u64 0), (.string ⟨#[]⟩), (.string ⟨#[]⟩), (.int .i64 0), (.int .i64 0), (.int .i64 0), (.slice none 0 0), (.slice none 0 0), (.slice none 0 0)] 38)) = w2 at HGx KSx ⊢
        clear y1 y2 hlk
        generalize Value.tuple #[(Value.agg #[(.int .u64 0), (.int .u64 0), (.int .u64 0), (.string ⟨#[]⟩), (.string ⟨#[]⟩), (.int .i64 0), (.int .i64 0), (.int .i64 0), (.slice none 0 0), (.slice none 0 0), (.slice none 0 0)]), .bool false] = junk3
        generalize (Value.agg #[(.int .u64 0), (.int .u64 0), (.int .u64 0), (.string ⟨#[]⟩), (.string ⟨#[]⟩), (.int .i64 0), (.int .i64 0), (.int .i64 0), (.slice none 0 0), (.slice none 0 0), (.slice none 0 0)]) = junk2

        have y1 : w2.cell? ⟨w.heap.size + 1 + 1 + 1, 1, none⟩ = some (.map (some (w.heap.size + 1))) := (blk_cell HGx.out.fam 1).trans rfl
        obtain ⟨x0, x1, x2, x3, x4, x5, x6, x7, x8, x9, x10⟩ := blkS (s := s) KSx.out
        obtain ⟨es2, clk2, hm2, hmo2⟩ := HGx.out.m1
        obtain ⟨es3, clk3, hput, hmo3, _⟩ := run_put (P := Try.prog) (mkey_int .u64) Try.underlying44 Try.underlying33 w2 hm2 hmo2 s.id (.agg (encS s).toArray)
        have HGy := Lib.hid (HGx.out.put HH.out hmo3)
        have KSy := Lib.hid (show (setBlock w2 (w.heap.size + 1) (.map es3 clk3)).heap[wr.heap.size]? = some (.cells (encS s).toArray 38 (0, 0)) by rw [heap_setBlock, if_neg (fun e => by have := HG.out.size; have := e.1; omega)]; exact KSx.out)
        rw [arr_S] at hput
        clear hm2 hmo2 hmo3
        go_upto_region 8 with (fail)
        clear hput y1 x0 x1 x2 x3 x4 x5 x6 x7 x8 x9 x10
        generalize setBlock w2 (w.heap.size + 1) (.map es3 clk3) = w3 at HGy KSy ⊢
        generalize (Value.agg #[.int .u64 s.tr, .int .u64 s.id, .int .u64 s.par, .string s.svc, .string s.op, .int .i64 s.st, .int .i64 s.du, .int .i64 s.stt, .slice s.a.1 s.a.2.1 s.a.2.2, .slice s.e.1 s.e.2.1 s.e.2.2, .slice s.l.1 s.l.2.1 s.l.2.2]) = junk4
        have y0 : w3.cell? ⟨w.heap.size + 1 + 1 + 1, 0, none⟩ = some (.slice Av (uq (l.take k)).length cv) := (blk_cell HGy.out.fam 0).trans rfl
        obtain ⟨x0, x1, x2, x3, x4, x5, x6, x7, x8, x9, x10⟩ := blkS (s := s) KSy.out
        have HZ3 := Lib.hid (show w.heap.size + 4 ≤ w3.heap.size from HGy.out.size)
        have HR0 := Lib.hid HGy.out.row
        have HF0 := Lib.hid HGy.out.fam
        have HB0 := Lib.hid (Below.refl (w.heap.size + 4) w3)
        go_wp2_with (first
          | ((with_reducible refine gate_dst (N := 36) rfl ?_); refine Kd.R_lit kS (w0 := w3) (w.heap.size + 4) 38 ?hg36 (N := 36) ?hd36 (xs := [s]) (inner := encS s) (ok := fun _ => True) (okp := fun _ => True) ?hr36 ?hp36 (fun _ hk => hk) trivial HB0.out HZ3.out (by simp) ?_; (case hd36 => rfl); (case hg36 => rfl); (case hr36 => first | (go_simp; done) | (go_simp; rfl)); (case hp36 => exact reps_S _ _ _ _); intro v5 w5 ho hb hg_ hnew_; clear hnew_; obtain ⟨A5, c5, rfl⟩ := Kd.R_slice ho; have HO5 := Lib.hid (Kd.R_reads' ho).2.2; have HB5 := Lib.hid hb; have HR5 := Lib.hid (Kd.R_grown2 HR0.out rfl hg_ (fun _ h => by cases h)); clear ho hb hg_)
          | ((with_reducible refine gate_builtin (b := .append) (xs := #[.tmp 34, .tmp 36]) rfl ?_); at_builtin; refine Kd.R_append_rows kS (w0 := w3) (w.heap.size + 4) rfl (.tmp 34) (.tmp 36) 22 38 (.agg #[(.int .u64 0), (.int .u64 0), (.int .u64 0), (.string ⟨#[]⟩), (.string ⟨#[]⟩), (.int .i64 0), (.int .i64 0), (.int .i64 0), (.slice none 0 0), (.slice none 0 0), (.slice none 0 0)]) 152 rfl Try.underlying22 infoS rfl (by decide) (by omega) (.slice Av (uq (l.take k)).length cv) (uq (l.take k)) [s] A5 _ c5 (fun _ => True) (fun _ => False) rfl rfl HR5.out HO5.out (fun x_ cs_ h_ => h_) (fun _ h => h.elim) (fun _ _ => trivial) HB5.out (Nat.le_trans HZ3.out HB5.out.size) (by have := HL2.out; simp; omega) ?_; intro v6 w6 ho hb hg_ hnew_; clear hg_ hnew_; obtain ⟨A6, c6, rfl⟩ := Kd.R_slice ho; rw [show (uq (l.take k) ++ [s]).length = (uq (l.take k)).length + 1 by simp] at ho; have HR6 := Lib.hid ho; have HB6 := Lib.hid hb; have z6 := blk_frozen ((hb.block _ (by omega)).trans HF0.out) 0; have y6 : w6.cell? ⟨w.heap.size + 1 + 1 + 1, 0, none⟩ = some (.slice Av (uq (l.take k)).length cv) := (blk_cell ((hb.block _ (by omega)).trans HF0.out) 0).trans rfl; clear ho hb))
        go_roundw
        case rel => exact ⟨k + 1, _, HK.out, by rw [HW.out], Lib.hid (by rw [HTk2.out]; exact HGy.out.app HB6.out HR6.out)⟩
        case measure => exact meas_up HN.out HK.out
    · have hkl : k = l.length := by omega
      subst hkl
      have q : decide ((l.length : Int) < (l.length : Int)) = false := decide_eq_false (by omega)
      rw [List.take_length] at HG
      obtain ⟨Av, cv, rfl⟩ := Kd.R_slice HG.out.row
      have y0 : wr.cell? ⟨w.heap.size + 1 + 1 + 1, 0, none⟩ = some (.slice Av (uq l).length cv) := (blk_cell HG.out.fam 0).trans rfl
      have hlu : (uq l).length ≤ 1000000 := Nat.le_trans (uq_len l) HN.out
      have HCL := Lib.hid (show (uq l).length = (cnt l).length from (cnt_perm l).length_eq.symm)
      clear hlt hk
      go_wp2_with fail
      refine (sort_R HG.out.row hlu).mono ?_
      rintro e w1 ⟨rfl, ys, hperm, hsort, hrow, hgr⟩
      obtain rfl := cnt_unique hperm hsort
      have HG1 := Lib.hid (HG.out.sorted hgr hrow)
      clear hperm hsort hrow hgr y0 hlu q HG
      have HG2 := Lib.hid (G2.start HG1.out)
      clear HG1
      rw [HCL.out] at HG2
      have HC2 := Lib.hid (show (cnt l).length ≤ 1000000 from Nat.le_trans (cnt_len l) HN.out)
      rw [HCL.out]
      generalize hC : cnt l = C at HG2 HCL HC2 ⊢
      have HCE := Lib.hid hC
      clear hC
      generalize w1.heap.size = B at HG2
      have y0 : w1.cell? ⟨w.heap.size + 1 + 1 + 1, 0, none⟩ = some (.slice Av C.length cv) := (blk_cell HG2.out.fam 0).trans rfl
      go_wp2
      clear y0
      go_loopw [9, 46] (fun _ i wr => ∃ k : Nat, k ≤ C.length ∧ i = .int .i64 k ∧ Hid (G2 w wr w.heap.size B (uq l) C (.slice Av C.length cv) (C.take k))) (fun _ i _ => C.length - (intOf i).toNat)
      case atStart => exact ⟨0, by omega, rfl, HG2⟩
      case round =>
        clear HG2
        obtain ⟨k, hk, rfl, HG⟩ := hrel
        by_cases hlt : k < C.length
        · obtain ⟨s, hs⟩ : ∃ s, C[k]? = some s := ⟨_, List.getElem?_eq_getElem hlt⟩
          obtain ⟨ad, rfl, x0, x1, x2, x3, x4, x5, x6, x7, x8, x9, x10⟩ := at_S (Kd.R_reads' HG.out.row).2.2 hs
          have HTk := Lib.hid (show C.take (k + 1) = C.take k ++ [s] by
            obtain ⟨hk2, e⟩ := List.getElem?_eq_some_iff.1 hs
            rw [List.take_succ_eq_append_getElem hk2, e])
          have q : (k : Int) < (C.length : Int) := by omega
          have HK := Lib.hid (show k + 1 ≤ C.length by omega)
          have HW := Lib.hid (show wrap64 ((k : Int) + 1) = ((k + 1 : Nat) : Int) by have := HC2.out; unfold wrap64; omega)
          have hz := below_alloc (Below.refl wr.heap.size wr) (.cells (encS s).toArray 38)
          obtain ⟨es, clk, f, hm0, hmo, hkids⟩ := HG.out.m2
          have HMO := Lib.hid hmo
          have HZB := Lib.hid (show ∀ b, ((f s.par).getD (.slice none 0 0)).ownBlock = some b → B ≤ b ∧ b < wr.heap.size from fun b hb => by
            obtain ⟨_, inner, ho, _⟩ := hkids.get s.par
            exact ⟨own_base ho b hb, own_lt ho b hb⟩)
          have HM0 := Lib.hid (block_below hm0 hz)
          have HKI := Lib.hid (hkids.below hz)
          clear hm0 hmo hkids
          have HGx := Lib.hid (HG.out.next hz)
          have KS := Lib.hid (heap_alloc_new wr (.cells (encS s).toArray 38))
          have HSQ := Lib.hid (show wr.heap.size + 1 ≤ (wr.alloc (.cells (encS s).toArray 38)).heap.size by simp)
          rw [arr_S] at HGx KS HSQ HM0 HKI
          clear hs hlt hk hz
          go_upto_region 14 with (fail)
          clear x0 x1 x2 x3 x4 x5 x6 x7 x8 x9 x10 q
          generalize (wr.alloc (.cells #[.int .u64 s.tr, .int .u64 s.id, .int .u64 s.par, .string s.svc, .string s.op, .int .i64 s.st, .int .i64 s.du, .int .i64 s.stt, .slice s.a.1 s.a.2.1 s.a.2.2, .slice s.e.1 s.e.2.1 s.e.2.2, .slice s.l.1 s.l.2.1 s.l.2.2] 38)) = w2 at HGx KS HSQ HM0 HKI ⊢
          generalize (Value.agg #[.int .u64 s.tr, .int .u64 s.id, .int .u64 s.par, .string s.svc, .string s.op, .int .i64 s.st, .int .i64 s.du, .int .i64 s.stt, .slice s.a.1 s.a.2.1 s.a.2.2, .slice s.e.1 s.e.2.1 s.e.2.2, .slice s.l.1 s.l.2.1 s.l.2.2]) = junk1
          have hgd := HGx.out.next (below_drew (Below.refl w2.heap.size w2))
          have ksd := blk_drew KS.out
          have hm0 := block_below HM0.out (below_drew (Below.refl w2.heap.size w2))
          have HKI2 := Lib.hid (HKI.out.below (below_drew (Below.refl w2.heap.size w2)))
          clear HKI
          have HKI := HKI2
          clear HKI2
          have hmo := HMO.out
          obtain ⟨Az, cz, hz⟩ := Kd.R_slice (HKI.out.get s.par)
          have HZ := Lib.hid hz
          have hlk : ∀ W : World, W.heap[w.heap.size + 1 + 1]? = some (.map es clk) → (Instr.lookup 45 (.map (some (w.heap.size + 1 + 1))) (.int .u64 s.par) false).run Try.prog W = .ok (.slice Az (kidsOf (C.take k) s.par).length cz) W := fun W hW => by
            have h := run_look1 (mkey_int .u64) Try.underlying45 Try.underlying33 (.slice none 0 0) W (Try.zeroValue22 W) hW hmo s.par
            rw [hz] at h
            exact h
          have HLK := Lib.hid hlk
          have c2x : w2.drew.cell? ⟨w.heap.size + 1 + 1 + 1, 2, none⟩ = some (.map (some (w.heap.size + 1 + 1))) := (blk_cell hgd.fam 2).trans rfl
          obtain ⟨c0, c1, c2, c3, c4, c5, c6, c7, c8, c9, c10⟩ := blkS (s := s) ksd
          have c11 := hlk w2.drew hm0
          clear hmo hz hlk
          refine start_ (n := 13) (S := fun w' => w'.cell? ⟨w.heap.size + 1 + 1 + 1, 2, none⟩ = some (.map (some (w.heap.size + 1 + 1))) ∧ w'.cell? ⟨wr.heap.size, 0, none⟩ = some (.int .u64 s.tr) ∧ w'.cell? ⟨wr.heap.size, 1, none⟩ = some (.int .u64 s.id) ∧ w'.cell? ⟨wr.heap.size, 2, none⟩ = some (.int .u64 s.par) ∧ w'.cell? ⟨wr.heap.size, 3, none⟩ = some (.string s.svc) ∧ w'.cell? ⟨wr.heap.size, 4, none⟩ = some (.string s.op) ∧ w'.cell? ⟨wr.heap.size, 5, none⟩ = some (.int .i64 s.st) ∧ w'.cell? ⟨wr.heap.size, 6, none⟩ = some (.int .i64 s.du) ∧ w'.cell? ⟨wr.heap.size, 7, none⟩ = some (.int .i64 s.stt) ∧ w'.cell? ⟨wr.heap.size, 8, none⟩ = some (.slice s.a.1 s.a.2.1 s.a.2.2) ∧ w'.cell? ⟨wr.heap.size, 9, none⟩ = some (.slice s.e.1 s.e.2.1 s.e.2.2) ∧ w'.cell? ⟨wr.heap.size, 10, none⟩ = some (.slice s.l.1 s.l.2.1 s.l.2.2) ∧ (Instr.lookup 45 (.map (some (w.heap.size + 1 + 1))) (.int .u64 s.par) false).run Try.prog w' = .ok (.slice Az (kidsOf (C.take k) s.par).length cz) w') (ds := [12]) #[false, false, false, false, false, false, false, false, false, false, false, false, false] (by kernel_rfl) rfl rfl ⟨c2x, c0, c1, c2, c3, c4, c5, c6, c7, c8, c9, c10, c11⟩ (fun hHeld => ?_)
          generalize hw5 : w2.drew = w5 at hgd ksd hm0 HKI hHeld ⊢
          have HSQ5 := Lib.hid (show wr.heap.size + 1 ≤ w5.heap.size by rw [← hw5]; exact HSQ.out)
          have HG5 := Lib.hid hgd
          have K5 := Lib.hid ksd
          have HM5 := Lib.hid hm0
          clear hw5 hgd ksd hm0 c2x c0 c1 c2 c3 c4 c5 c6 c7 c8 c9 c10 c11
          refine pure_ (i := 0) (N := some 50) (v := ?_) (a' := ?_) #[true, false, false, false, false, false, false, false, false, false, false, false, false] rfl rfl (by kernel_rfl) (fun _ _ _ h => h) (Or.inl ⟨by rfl, ?_⟩) ?_ ?_
          rotate_left
          · intro w'
            go_simp
            with_reducible rfl
          rotate_left
          · simp only [Act.put, List.setIfInBounds_toArray, List.set_cons_zero, List.set_cons_succ, i64_w, i32_w]
            rfl
          refine pure_ (i := 2) (N := some 52) (v := ?_) (a' := ?_) #[true, false, true, false, false, false, false, false, false, false, false, false, false] rfl rfl (by kernel_rfl) (fun _ _ _ h => h) (Or.inl ⟨by rfl, ?_⟩) ?_ ?_
          rotate_left
          · intro w'
            go_simp
            with_reducible rfl
          rotate_left
          · simp only [Act.put, List.setIfInBounds_toArray, List.set_cons_zero, List.set_cons_succ, i64_w, i32_w]
            rfl
          refine pure_ (i := 4) (N := some 54) (v := ?_) (a' := ?_) #[true, false, true, false, true, false, false, false, false, false, false, false, false] rfl rfl (by kernel_rfl) (fun _ _ _ h => h) (Or.inl ⟨by rfl, ?_⟩) ?_ ?_
          rotate_left
          · intro w'
            go_simp
            with_reducible rfl
          rotate_left
          · simp only [Act.put, List.setIfInBounds_toArray, List.set_cons_zero, List.set_cons_succ, i64_w, i32_w]
            rfl
          refine pure_ (i := 6) (N := some 56) (v := ?_) (a' := ?_) #[true, false, true, false, true, false, true, false, false, false, false, false, false] rfl rfl (by kernel_rfl) (fun _ _ _ h => h) (Or.inl ⟨by rfl, ?_⟩) ?_ ?_
          rotate_left
          · intro w'
            go_simp
            with_reducible rfl
          rotate_left
          · simp only [Act.put, List.setIfInBounds_toArray, List.set_cons_zero, List.set_cons_succ, i64_w, i32_w]
            rfl
          refine take_ (i := 1) (N := some 51) (v := ?_) (a' := ?_) #[true, true, true, false, true, false, true, false, false, false, false, false, false] rfl rfl (by kernel_rfl) (fun _ _ _ h => h) (Or.inl ⟨by rfl, ?_⟩) hHeld ?_ ?_
          rotate_left
          · rintro w' ⟨s0, s1, s2, s3, s4, s5, s6, s7, s8, s9, s10, s11, s12⟩
            go_simp
            with_reducible rfl
          rotate_left
          · simp only [Act.put, List.setIfInBounds_toArray, List.set_cons_zero, List.set_cons_succ, i64_w, i32_w]
            rfl
          refine take_ (i := 3) (N := some 53) (v := ?_) (a' := ?_) #[true, true, true, true, true, false, true, false, false, false, false, false, false] rfl rfl (by kernel_rfl) (fun _ _ _ h => h) (Or.inl ⟨by rfl, ?_⟩) hHeld ?_ ?_
          rotate_left
          · rintro w' ⟨s0, s1, s2, s3, s4, s5, s6, s7, s8, s9, s10, s11, s12⟩
            go_simp
            with_reducible rfl
          rotate_left
          · simp only [Act.put, List.setIfInBounds_toArray, List.set_cons_zero, List.set_cons_succ, i64_w, i32_w]
            rfl
          refine take_ (i := 5) (N := some 55) (v := ?_) (a' := ?_) #[true, true, true, true, true, true, true, false, false, false, false, false, false] rfl rfl (by kernel_rfl) (fun _ _ _ h => h) (Or.inl ⟨by rfl, ?_⟩) hHeld ?_ ?_
          rotate_left
          · rintro w' ⟨s0, s1, s2, s3, s4, s5, s6, s7, s8, s9, s10, s11, s12⟩
            go_simp
            with_reducible rfl
          rotate_left
          · simp only [Act.put, List.setIfInBounds_toArray, List.set_cons_zero, List.set_cons_succ, i64_w, i32_w]
            rfl
          refine take_ (i := 7) (N := some 57) (v := ?_) (a' := ?_) #[true, true, true, true, true, true, true, true, false, false, false, false, false] rfl rfl (by kernel_rfl) (fun _ _ _ h => h) (Or.inl ⟨by rfl, ?_⟩) hHeld ?_ ?_
          rotate_left
          · rintro w' ⟨s0, s1, s2, s3, s4, s5, s6, s7, s8, s9, s10, s11, s12⟩
            go_simp
            with_reducible rfl
          rotate_left
          · simp only [Act.put, List.setIfInBounds_toArray, List.set_cons_zero, List.set_cons_succ, i64_w, i32_w]
            rfl
          refine take_ (i := 8) (N := some 58) (v := ?_) (a' := ?_) #[true, true, true, true, true, true, true, true, true, false, false, false, false] rfl rfl (by kernel_rfl) (fun _ _ _ h => h) (Or.inl ⟨by rfl, ?_⟩) hHeld ?_ ?_
          rotate_left
          · rintro w' ⟨s0, s1, s2, s3, s4, s5, s6, s7, s8, s9, s10, s11, s12⟩
            go_simp
            with_reducible rfl
          rotate_left
          · simp only [Act.put, List.setIfInBounds_toArray, List.set_cons_zero, List.set_cons_succ, i64_w, i32_w]
            rfl
          refine take_ (i := 9) (N := some 59) (v := ?_) (a' := ?_) #[true, true, true, true, true, true, true, true, true, true, false, false, false] rfl rfl (by kernel_rfl) (fun _ _ _ h => h) (Or.inl ⟨by rfl, ?_⟩) hHeld ?_ ?_
          rotate_left
          · rintro w' ⟨s0, s1, s2, s3, s4, s5, s6, s7, s8, s9, s10, s11, s12⟩
            go_simp
            with_reducible rfl
          rotate_left
          · simp only [Act.put, List.setIfInBounds_toArray, List.set_cons_zero, List.set_cons_succ, i64_w, i32_w]
            rfl
          refine one_ (i := 10) (N := some 60) #[true, true, true, true, true, true, true, true, true, true, true, false, false] rfl rfl (by kernel_rfl) (by decide) (fun K hK => ?_)
          refine Kd.R_lit_step kS (w0 := w5) B 38 ?hg (N := 60) ?hd (xs := [s]) (inner := encS s) (ok := fun _ => True) (okp := fun _ => True) ?hr ?hp (fun _ hk => hk) trivial (Below.refl _ _) HG5.out.size (by simp) ?_; (case hd => rfl); (case hg => rfl); (case hr => first | (go_simp; done) | (go_simp; rfl)); (case hp => exact reps_S _ _ _ _)
          intro v6 w6 ho hb hg_ hnew_
          obtain ⟨A6, c6, rfl⟩ := Kd.R_slice ho
          have HO6 := Lib.hid (Kd.R_reads' ho).2.2
          have hb' : Below w5.heap.size w5 w6 := Below.grown (Below.refl _ _) hg_ (Nat.le_refl _) (fun _ h => by cases h)
          have HB6 := Lib.hid hb'
          have HM6 := Lib.hid (block_below HM5.out hb')
          clear ho hb hg_ hnew_ hb'
          refine hK.out _ _ ⟨(blk_cell (HG5.out.next HB6.out).fam 2).trans rfl, (blk_cell (block_below K5.out HB6.out) 0).trans rfl, (blk_cell (block_below K5.out HB6.out) 1).trans rfl, (blk_cell (block_below K5.out HB6.out) 2).trans rfl, (blk_cell (block_below K5.out HB6.out) 3).trans rfl, (blk_cell (block_below K5.out HB6.out) 4).trans rfl, (blk_cell (block_below K5.out HB6.out) 5).trans rfl, (blk_cell (block_below K5.out HB6.out) 6).trans rfl, (blk_cell (block_below K5.out HB6.out) 7).trans rfl, (blk_cell (block_below K5.out HB6.out) 8).trans rfl, (blk_cell (block_below K5.out HB6.out) 9).trans rfl, (blk_cell (block_below K5.out HB6.out) 10).trans rfl, HLK.out w6 HM6.out⟩ (fun hHeld => ?_)
          clear hK K
          refine norm_ (a' := ?_) ?_ ?_
          rotate_left
          · show Act.put _ (some 60) _ = _
            simp only [Act.put, List.setIfInBounds_toArray, List.set_cons_zero, List.set_cons_succ, i64_w, i32_w]
            rfl
          refine one_ (i := 11) (N := some 61) #[true, true, true, true, true, true, true, true, true, true, true, true, false] rfl rfl (by kernel_rfl) (by decide) (fun K hK => ?_)
          refine Kd.R_append_rows_step kS (w0 := w6) B (by rfl) (.tmp 58) (.tmp 60) 22 38 (.agg #[(.int .u64 0), (.int .u64 0), (.int .u64 0), (.string ⟨#[]⟩), (.string ⟨#[]⟩), (.int .i64 0), (.int .i64 0), (.int .i64 0), (.slice none 0 0), (.slice none 0 0), (.slice none 0 0)]) 152 (by rfl) Try.underlying22 infoS rfl (by decide) (by omega) (.slice Az (kidsOf (C.take k) s.par).length cz) (kidsOf (C.take k) s.par) [s] A6 1 c6 (fun _ => True) (fun _ => False) (by rfl) (by rfl) (by rw [← HZ.out]; exact Kd.R_below (HKI.out.get s.par) HB6.out) HO6.out (fun x_ cs_ h_ => h_) (fun _ h => h.elim) (fun _ _ => trivial) (Below.refl _ _) (Nat.le_trans HG5.out.size HB6.out.size) (by have h1 : (kidsOf (C.take k) s.par).length ≤ C.length := Nat.le_trans (List.length_filter_le _ _) (by rw [List.length_take]; omega); have h2 := HC2.out; have h3 : [s].length = 1 := rfl; omega) ?_
          intro v7 w7 ho hb hg_ hnew_
          obtain ⟨A7, c7, rfl⟩ := Kd.R_slice ho
          rw [show (kidsOf (C.take k) s.par ++ [s]).length = (kidsOf (C.take k) s.par).length + 1 by simp] at ho hnew_
          have HO7 := Lib.hid ho
          have HN7 := Lib.hid hnew_
          have HG7 := Lib.hid hg_
          have hm7 : w7.heap[w.heap.size + 1 + 1]? = some (.map es clk) := blk_grown HM6.out hg_ (fun e => by have h1 := HZB.out (w.heap.size + 1 + 1) (by rw [HZ.out]; exact e.symm); have h2 := HG5.out.nB; omega)
          obtain ⟨es3, clk3, hput, hmo3, _⟩ := run_put (P := Try.prog) (mkey_int .u64) Try.underlying45 Try.underlying33 w7 hm7 HMO.out s.par (.slice A7 ((kidsOf (C.take k) s.par).length + 1) c7)
          have HMO3 := Lib.hid hmo3
          have hne : ∀ b, b < B ∨ wr.heap.size ≤ b → ¬ some b = (Value.slice Az (kidsOf (C.take k) s.par).length cz).ownBlock := fun b hb e => (by have h1 := HZB.out b (by rw [HZ.out]; exact e.symm); omega)
          have K7 := Lib.hid (blk_grown (block_below K5.out HB6.out) hg_ (hne _ (.inr (Nat.le_refl _))))
          have F7 := Lib.hid (blk_grown (HG5.out.next HB6.out).fam hg_ (hne _ (.inl (by have := HG5.out.nB; omega))))
          have HM7 := Lib.hid hm7
          clear ho hb hg_ hnew_ hm7 hmo3 hne
          refine hK.out _ _ ⟨(blk_cell F7.out 2).trans rfl, (blk_cell K7.out 0).trans rfl, (blk_cell K7.out 1).trans rfl, (blk_cell K7.out 2).trans rfl, (blk_cell K7.out 3).trans rfl, (blk_cell K7.out 4).trans rfl, (blk_cell K7.out 5).trans rfl, (blk_cell K7.out 6).trans rfl, (blk_cell K7.out 7).trans rfl, (blk_cell K7.out 8).trans rfl, (blk_cell K7.out 9).trans rfl, (blk_cell K7.out 10).trans rfl, HLK.out w7 HM7.out⟩ (fun hHeld => ?_)
          clear hK K
          refine norm_ (a' := ?_) ?_ ?_
          rotate_left
          · show Act.put _ (some 61) _ = _
            simp only [Act.put, List.setIfInBounds_toArray, List.set_cons_zero, List.set_cons_succ, i64_w, i32_w]
            rfl
          refine last_ (i := 12) (N := none) #[true, true, true, true, true, true, true, true, true, true, true, true, true] rfl rfl (by kernel_rfl) (by decide) (fun K hK => ?_)
          refine skip_ (w1 := ?_) (by rfl) rfl ?_ ?_
          rotate_left
          · go_simp
            rfl
          refine hK.out _ _ ?_
          clear hK K
          refine done_ (by kernel_rfl) ?_
          have HG8 := Lib.hid ((HG5.out.next HB6.out).app HM6.out HMO.out (HKI.out.below HB6.out) HZ.out HG7.out HO7.out HN7.out HMO3.out)
          rw [← HTk.out] at HG8
          go_wp2
          go_roundw
          case rel => exact ⟨k + 1, HK.out, by rw [HW.out], HG8⟩
          case measure => exact meas_up HC2.out HK.out
        · have hkl : k = C.length := by omega
          subst hkl
          have q : decide ((C.length : Int) < (C.length : Int)) = false := decide_eq_false (by omega)
          rw [List.take_length] at HG
          have y0 : wr.cell? ⟨w.heap.size + 1 + 1 + 1, 0, none⟩ = some (.slice Av C.length cv) := (blk_cell HG.out.fam 0).trans rfl
          have y1 : wr.cell? ⟨w.heap.size + 1 + 1 + 1, 1, none⟩ = some (.map (some (w.heap.size + 1))) := (blk_cell HG.out.fam 1).trans rfl
          have y2 : wr.cell? ⟨w.heap.size + 1 + 1 + 1, 2, none⟩ = some (.map (some (w.heap.size + 1 + 1))) := (blk_cell HG.out.fam 2).trans rfl
          have z0 : wr.cell? ⟨w.heap.size, 0, none⟩ = some (.slice none 0 0) := (blk_cell HG.out.res 0).trans rfl
          have z1 : wr.cell? ⟨w.heap.size, 1, none⟩ = some (.map none) := (blk_cell HG.out.res 1).trans rfl
          have z2 : wr.cell? ⟨w.heap.size, 2, none⟩ = some (.map none) := (blk_cell HG.out.res 2).trans rfl
          have f0 := blk_frozen HG.out.res 0
          have f1 := blk_frozen HG.out.res 1
          have f2 := blk_frozen HG.out.res 2
          clear hlt hk
          go_wp2
          have hi : (Try.prog.info? 47).map (·.size) = some 3 := by kernel_rfl
          have hb := blk_set (blk_set (blk_set HG.out.res 0 (.slice Av C.length cv)) 1 (.map (some (w.heap.size + 1)))) 2 (.map (some (w.heap.size + 1 + 1)))
          refine bodyPost_ret (v := .agg _) (results_cell_row rfl _ _ w.heap.size 47 _ (0, 0) _ rfl hb Try.underlying47 rfl hi) rfl ⟨.slice Av C.length cv, w.heap.size + 1, w.heap.size + 1 + 1, rfl, ?_, ?_⟩
          · rw [HCE.out]
            simp only [World.size_setCell]
            refine (HG.out.fam_.move fun k h1 h2 => ?_).lower (by omega)
            rw [Below.heap_setCell _ _ _ _ (by show k ≠ w.heap.size; omega), Below.heap_setCell _ _ _ _ (by show k ≠ w.heap.size; omega), Below.heap_setCell _ _ _ _ (by show k ≠ w.heap.size; omega)]
          · exact below_set (below_set (below_set HG.out.bw (Nat.le_refl _)) (Nat.le_refl _)) (Nat.le_refl _)

end Go.Proofs.Ytoigebnhnkdbbaa.Tr
