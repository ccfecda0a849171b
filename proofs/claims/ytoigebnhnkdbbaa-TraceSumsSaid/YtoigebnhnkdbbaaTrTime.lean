/- trace.byTime, span.End (chapter 26), by hand: what a call lays and draws. -/
import Derived.Test.YtoigebnhnkdbbaaTrBase
import Derived.Sort.Grow
import Derived.Sort.Row
namespace Go.Proofs.Ytoigebnhnkdbbaa.Tr
open Go.RowKit Go.Proofs.YtoigebnhnkdbbaaW.PrintWords Go.Proofs.YtoigebnhnkdbbaaW.PrintLast Go.Proofs.YtoigebnhnkdbbaaW.PrintMore Go.Proofs.Ytoigebnhnkdbbaa.Math Go.Proofs.Ytoigebnhnkdbbaa.PAll
set_option linter.unusedVariables false
set_option linter.unusedSimpArgs false

/-- Orders drawn, blocks laid: nothing else. -/
def Gr (w w' : World) : Prop := ∃ q os, w' = Sort.grow (w.drewN q) os
theorem Gr.refl (w : World) : Gr w w := ⟨0, #[], by simp [Sort.grow]; rfl⟩
theorem Gr.alloc {w w1 : World} (h : Gr w w1) (o : Obj) : Gr w (w1.alloc o) := by
  obtain ⟨q, os, rfl⟩ := h
  exact ⟨q, os.push o, by simp [Sort.grow, World.alloc]⟩
theorem Gr.drewN {w w1 : World} (h : Gr w w1) (n : Nat) : Gr w (w1.drewN n) := by
  obtain ⟨q, os, rfl⟩ := h
  refine ⟨q + n, os, ?_⟩
  simp [Sort.grow, World.drewN, Nat.add_assoc]
theorem Gr.drew {w w1 : World} (h : Gr w w1) : Gr w w1.drew := h.drewN 1
theorem Gr.drawn {w w1 w2 : World} (h : Gr w w1) (hd : Drawn0 w1 w2) : Gr w w2 := by
  obtain ⟨n, rfl⟩ := hd
  exact h.drewN n
theorem Gr.below {w w1 : World} (h : Gr w w1) : Below w.heap.size w w1 := by
  obtain ⟨q, os, rfl⟩ := h
  refine ⟨rfl, rfl, rfl, by simp [Sort.grow, World.drewN], fun k hk => ?_⟩
  show (w.heap ++ os)[k]? = w.heap[k]?
  rw [Array.getElem?_append_left hk]

/-- How a span stands to another one by time. -/
def cmpI (x y : Int) : Int := if x < y then -1 else if x > y then 1 else 0
def byT (x y : Sp) : Int := if cmpI x.st y.st ≠ 0 then cmpI x.st y.st else cmpI x.id y.id
set_option maxHeartbeats 1000000 in
theorem cmpi_calls (x y : Int) (w : World) : Calls Try.prog 38 #[.int .i64 x, .int .i64 y] w fun e w' => e = .returned (.int .i64 (cmpI x y)) ∧ w = w' := by
  unfold cmpI
  by_cases h : x < y
  · rw [if_pos h]
    have d : decide (x < y) = true := decide_eq_true h
    go_enter Try.func38, Try.ntmps38
    go_wp2
    go_ret
    exact ⟨rfl, rfl⟩
  · rw [if_neg h]
    have d : decide (x < y) = false := decide_eq_false h
    by_cases g : x > y
    · rw [if_pos g]
      have d2 : decide (y < x) = true := decide_eq_true g
      go_enter Try.func38, Try.ntmps38
      go_wp2
      go_ret
      exact ⟨rfl, rfl⟩
    · rw [if_neg g]
      have d2 : decide (y < x) = false := decide_eq_false g
      go_enter Try.func38, Try.ntmps38
      go_wp2
      go_ret
      exact ⟨rfl, rfl⟩
set_option maxHeartbeats 1000000 in
theorem cmpu_calls (x y : Int) (w : World) : Calls Try.prog 42 #[.int .u64 x, .int .u64 y] w fun e w' => e = .returned (.int .i64 (cmpI x y)) ∧ w = w' := by
  unfold cmpI
  by_cases h : x < y
  · rw [if_pos h]
    have d : decide (x < y) = true := decide_eq_true h
    go_enter Try.func42, Try.ntmps42
    go_wp2
    go_ret
    exact ⟨rfl, rfl⟩
  · rw [if_neg h]
    have d : decide (x < y) = false := decide_eq_false h
    by_cases g : x > y
    · rw [if_pos g]
      have d2 : decide (y < x) = true := decide_eq_true g
      go_enter Try.func42, Try.ntmps42
      go_wp2
      go_ret
      exact ⟨rfl, rfl⟩
    · rw [if_neg g]
      have d2 : decide (y < x) = false := decide_eq_false g
      go_enter Try.func42, Try.ntmps42
      go_wp2
      go_ret
      exact ⟨rfl, rfl⟩
set_option maxHeartbeats 1000000 in
theorem or_calls (a b : Int) (g : Nat) (w : World) (hb : w.heap[g]? = some (.cells #[.int .i64 a, .int .i64 b] 3 (0, 0))) :
    Calls Try.prog 41 #[.slice (some ⟨g, 0, none⟩) 2 2] w fun e w' => e = .returned (.int .i64 (if a ≠ 0 then a else b)) ∧ w = w' := by
  have c0 : w.cell? ⟨g, 0, none⟩ = some (.int .i64 a) := (blk_cell hb 0).trans rfl
  have c1 : w.cell? ⟨g, 1, none⟩ = some (.int .i64 b) := (blk_cell hb 1).trans rfl
  clear hb
  obtain ⟨r, hr⟩ : ∃ r, (if a ≠ 0 then a else b) = r := ⟨_, rfl⟩
  rw [hr]
  have HR := Lib.hid hr
  clear hr
  go_enter Try.func41, Try.ntmps41
  go_wp2
  go_loopw [5, 8] (fun _ i wr => w = wr ∧ (i = .int .i64 0 ∨ (i = .int .i64 1 ∧ Hid (a = 0)) ∨ (i = .int .i64 2 ∧ Hid (a = 0 ∧ b = 0)))) (fun _ i _ => 2 - (intOf i).toNat)
  case atStart => exact ⟨rfl, .inl rfl⟩
  case round =>
    obtain ⟨rfl, hc⟩ := hrel
    rcases hc with rfl | ⟨rfl, HA⟩ | ⟨rfl, HAB⟩
    · by_cases ha : a = 0
      · have HA := Lib.hid ha
        have e1 : (a != 0) = false := by simp [ha]
        clear ha
        go_wp2
        go_roundw
        case rel => exact ⟨by first | rfl | trivial, .inr (.inl ⟨rfl, HA⟩)⟩
        case measure => simp [intOf]
      · have HA := Lib.hid ha
        have e1 : (a != 0) = true := bne_iff_ne.2 ha
        clear ha
        go_wp2
        go_ret
        exact ⟨by rw [← HR.out, if_pos HA.out]; rfl, rfl⟩
    · by_cases ha : b = 0
      · have HB := Lib.hid ha
        have e1 : (b != 0) = false := by simp [ha]
        clear ha
        go_wp2
        go_roundw
        case rel => exact ⟨by first | rfl | trivial, .inr (.inr ⟨rfl, Lib.hid ⟨HA.out, HB.out⟩⟩)⟩
        case measure => simp [intOf]
      · have HB := Lib.hid ha
        have e1 : (b != 0) = true := bne_iff_ne.2 ha
        clear ha
        go_wp2
        go_ret
        exact ⟨by rw [← HR.out, if_neg (fun h => h HA.out)]; rfl, rfl⟩
    · go_wp2
      go_ret
      exact ⟨by rw [← HR.out, if_neg (fun h => h HAB.out.1), HAB.out.2]; rfl, rfl⟩

set_option maxHeartbeats 4000000 in
set_option maxRecDepth 100000 in
theorem byTime_calls (x y : Sp) (w : World) : Calls Try.prog 34 #[.agg (encS x).toArray, .agg (encS y).toArray] w fun e w' => e = .returned (.int .i64 (byT x y)) ∧ Gr w w' := by
  have hgr := ((Gr.refl w).alloc (.cells (encS x).toArray 38)).alloc (.cells (encS y).toArray 38)
  have k1 : ((w.alloc (.cells (encS x).toArray 38)).alloc (.cells (encS y).toArray 38)).heap[w.heap.size]? = some (.cells (encS x).toArray 38 (0, 0)) := block_below (heap_alloc_new w _) (below_alloc (Below.refl _ _) _)
  have k2 : ((w.alloc (.cells (encS x).toArray 38)).alloc (.cells (encS y).toArray 38)).heap[(w.alloc (.cells (encS x).toArray 38)).heap.size]? = some (.cells (encS y).toArray 38 (0, 0)) := heap_alloc_new _ _
  rw [show (w.alloc (.cells (encS x).toArray 38)).heap.size = w.heap.size + 1 by simp] at k2
  have HG := Lib.hid hgr
  have K1 := Lib.hid k1
  have K2 := Lib.hid k2
  clear hgr k1 k2
  obtain ⟨r, hr⟩ : ∃ r, byT x y = r := ⟨_, rfl⟩
  rw [hr]
  have HR := Lib.hid hr
  clear hr
  unfold encS at HG K1 K2 ⊢
  go_enter Try.func34, Try.ntmps34
  go_wp2
  have k1 := blk_drew K1.out
  have k2 := blk_drew K2.out
  have hg := HG.out.drew
  refine start_ (n := 13) (S := fun w' => w'.cell? ⟨w.heap.size, 5, none⟩ = some (.int .i64 x.st) ∧ w'.cell? ⟨w.heap.size + 1, 5, none⟩ = some (.int .i64 y.st) ∧ w'.cell? ⟨w.heap.size, 1, none⟩ = some (.int .u64 x.id) ∧ w'.cell? ⟨w.heap.size + 1, 1, none⟩ = some (.int .u64 y.id)) (ds := []) #[false, false, false, false, false, false, false, false, false, false, false, false, false] (by kernel_rfl) rfl rfl ⟨(blk_cell k1 5).trans rfl, (blk_cell k2 5).trans rfl, (blk_cell k1 1).trans rfl, (blk_cell k2 1).trans rfl⟩ (fun hHeld => ?_)
  generalize ((w.alloc (.cells #[.int .u64 x.tr, .int .u64 x.id, .int .u64 x.par, .string x.svc, .string x.op, .int .i64 x.st, .int .i64 x.du, .int .i64 x.stt, .slice x.a.1 x.a.2.1 x.a.2.2, .slice x.e.1 x.e.2.1 x.e.2.2, .slice x.l.1 x.l.2.1 x.l.2.2] 38)).alloc (.cells #[.int .u64 y.tr, .int .u64 y.id, .int .u64 y.par, .string y.svc, .string y.op, .int .i64 y.st, .int .i64 y.du, .int .i64 y.stt, .slice y.a.1 y.a.2.1 y.a.2.2, .slice y.e.1 y.e.2.1 y.e.2.2, .slice y.l.1 y.l.2.1 y.l.2.2] 38)).drew = w5 at k1 k2 hg hHeld ⊢
  have K15 := Lib.hid k1
  have K25 := Lib.hid k2
  have HG5 := Lib.hid hg
  clear k1 k2 hg
  refine pure_ (i := 0) (N := some 5) (v := ?_) (a' := ?_) #[true, false, false, false, false, false, false, false, false, false, false, false, false] rfl rfl (by kernel_rfl) (fun _ _ _ h => h) (Or.inl ⟨by rfl, ?_⟩) ?_ ?_
  rotate_left
  · intro w'
    go_simp
    with_reducible rfl
  rotate_left
  · simp only [Act.put, List.setIfInBounds_toArray, List.set_cons_zero, List.set_cons_succ, i64_w, i32_w]
    rfl
  refine pure_ (i := 2) (N := some 7) (v := ?_) (a' := ?_) #[true, false, true, false, false, false, false, false, false, false, false, false, false] rfl rfl (by kernel_rfl) (fun _ _ _ h => h) (Or.inl ⟨by rfl, ?_⟩) ?_ ?_
  rotate_left
  · intro w'
    go_simp
    with_reducible rfl
  rotate_left
  · simp only [Act.put, List.setIfInBounds_toArray, List.set_cons_zero, List.set_cons_succ, i64_w, i32_w]
    rfl
  refine pure_ (i := 5) (N := some 10) (v := ?_) (a' := ?_) #[true, false, true, false, false, true, false, false, false, false, false, false, false] rfl rfl (by kernel_rfl) (fun _ _ _ h => h) (Or.inl ⟨by rfl, ?_⟩) ?_ ?_
  rotate_left
  · intro w'
    go_simp
    with_reducible rfl
  rotate_left
  · simp only [Act.put, List.setIfInBounds_toArray, List.set_cons_zero, List.set_cons_succ, i64_w, i32_w]
    rfl
  refine pure_ (i := 7) (N := some 12) (v := ?_) (a' := ?_) #[true, false, true, false, false, true, false, true, false, false, false, false, false] rfl rfl (by kernel_rfl) (fun _ _ _ h => h) (Or.inl ⟨by rfl, ?_⟩) ?_ ?_
  rotate_left
  · intro w'
    go_simp
    with_reducible rfl
  rotate_left
  · simp only [Act.put, List.setIfInBounds_toArray, List.set_cons_zero, List.set_cons_succ, i64_w, i32_w]
    rfl
  refine take_ (i := 1) (N := some 6) (v := ?_) (a' := ?_) #[true, true, true, false, false, true, false, true, false, false, false, false, false] rfl rfl (by kernel_rfl) (fun _ _ _ h => h) (Or.inl ⟨by rfl, ?_⟩) hHeld ?_ ?_
  rotate_left
  · rintro w' ⟨s0, s1, s2, s3⟩
    go_simp
    with_reducible rfl
  rotate_left
  · simp only [Act.put, List.setIfInBounds_toArray, List.set_cons_zero, List.set_cons_succ, i64_w, i32_w]
    rfl
  refine take_ (i := 3) (N := some 8) (v := ?_) (a' := ?_) #[true, true, true, true, false, true, false, true, false, false, false, false, false] rfl rfl (by kernel_rfl) (fun _ _ _ h => h) (Or.inl ⟨by rfl, ?_⟩) hHeld ?_ ?_
  rotate_left
  · rintro w' ⟨s0, s1, s2, s3⟩
    go_simp
    with_reducible rfl
  rotate_left
  · simp only [Act.put, List.setIfInBounds_toArray, List.set_cons_zero, List.set_cons_succ, i64_w, i32_w]
    rfl
  refine take_ (i := 6) (N := some 11) (v := ?_) (a' := ?_) #[true, true, true, true, false, true, true, true, false, false, false, false, false] rfl rfl (by kernel_rfl) (fun _ _ _ h => h) (Or.inl ⟨by rfl, ?_⟩) hHeld ?_ ?_
  rotate_left
  · rintro w' ⟨s0, s1, s2, s3⟩
    go_simp
    with_reducible rfl
  rotate_left
  · simp only [Act.put, List.setIfInBounds_toArray, List.set_cons_zero, List.set_cons_succ, i64_w, i32_w]
    rfl
  refine take_ (i := 8) (N := some 13) (v := ?_) (a' := ?_) #[true, true, true, true, false, true, true, true, true, false, false, false, false] rfl rfl (by kernel_rfl) (fun _ _ _ h => h) (Or.inl ⟨by rfl, ?_⟩) hHeld ?_ ?_
  rotate_left
  · rintro w' ⟨s0, s1, s2, s3⟩
    go_simp
    with_reducible rfl
  rotate_left
  · simp only [Act.put, List.setIfInBounds_toArray, List.set_cons_zero, List.set_cons_succ, i64_w, i32_w]
    rfl
  refine one_ (i := 4) (N := some 9) #[true, true, true, true, true, true, true, true, true, false, false, false, false] rfl rfl (by kernel_rfl) (by decide) (fun K hK => ?_)
  refine goes_ Try.func38 (by kernel_rfl) rfl #[.int .i64 x.st, .int .i64 y.st] (by rfl) rfl rfl (by simp only [List.map_toArray, List.map_cons, List.map_nil]; rfl) ?_
  with_reducible refine (cmpi_calls x.st y.st w5).mono ?_
  rintro e w6 ⟨rfl, rfl⟩
  refine ⟨_, rfl, ?_⟩
  refine hK.out _ _ ⟨(blk_cell K15.out 5).trans rfl, (blk_cell K25.out 5).trans rfl, (blk_cell K15.out 1).trans rfl, (blk_cell K25.out 1).trans rfl⟩ (fun hHeld => ?_)
  clear hK K
  refine norm_ (a' := ?_) ?_ ?_
  rotate_left
  · show Act.put _ (some 9) _ = _
    simp only [Act.put, List.setIfInBounds_toArray, List.set_cons_zero, List.set_cons_succ, i64_w, i32_w]
    rfl
  refine one_ (i := 9) (N := some 14) #[true, true, true, true, true, true, true, true, true, true, false, false, false] rfl rfl (by kernel_rfl) (by decide) (fun K hK => ?_)
  refine goes_ Try.func42 (by kernel_rfl) rfl #[.int .u64 x.id, .int .u64 y.id] (by rfl) rfl rfl (by simp only [List.map_toArray, List.map_cons, List.map_nil]; rfl) ?_
  with_reducible refine (cmpu_calls x.id y.id w5).mono ?_
  rintro e w6 ⟨rfl, rfl⟩
  refine ⟨_, rfl, ?_⟩
  refine hK.out _ _ ⟨(blk_cell K15.out 5).trans rfl, (blk_cell K25.out 5).trans rfl, (blk_cell K15.out 1).trans rfl, (blk_cell K25.out 1).trans rfl⟩ (fun hHeld => ?_)
  clear hK K
  refine norm_ (a' := ?_) ?_ ?_
  rotate_left
  · show Act.put _ (some 14) _ = _
    simp only [Act.put, List.setIfInBounds_toArray, List.set_cons_zero, List.set_cons_succ, i64_w, i32_w]
    rfl
  refine one_ (i := 10) (N := some 15) #[true, true, true, true, true, true, true, true, true, true, true, false, false] rfl rfl (by kernel_rfl) (by decide) (fun K hK => ?_)
  refine value_ (w1 := ?_) (v := ?_) (by rfl) rfl ?_ ?_
  rotate_left 2
  · go_simp
    constructor
    · rfl
    · rfl
  have hba : Below w5.heap.size w5 (w5.alloc (.cells #[.int .i64 (cmpI x.st y.st), .int .i64 (cmpI x.id y.id)] 3)) := below_alloc (Below.refl _ _) _
  refine hK.out _ _ ⟨(blk_cell (block_below K15.out hba) 5).trans rfl, (blk_cell (block_below K25.out hba) 5).trans rfl, (blk_cell (block_below K15.out hba) 1).trans rfl, (blk_cell (block_below K25.out hba) 1).trans rfl⟩ (fun hHeld => ?_)
  clear hK K
  refine norm_ (a' := ?_) ?_ ?_
  rotate_left
  · show Act.put _ (some 15) _ = _
    simp only [Act.put, List.setIfInBounds_toArray, List.set_cons_zero, List.set_cons_succ, i64_w, i32_w]
    rfl
  refine one_ (i := 11) (N := some 16) #[true, true, true, true, true, true, true, true, true, true, true, true, false] rfl rfl (by kernel_rfl) (by decide) (fun K hK => ?_)
  have hor : Calls Try.prog 41 #[.slice (some ⟨w5.heap.size, 0, none⟩) 2 2] (w5.alloc (.cells #[.int .i64 (cmpI x.st y.st), .int .i64 (cmpI x.id y.id)] 3)) fun e w' => e = .returned (.int .i64 r) ∧ (w5.alloc (.cells #[.int .i64 (cmpI x.st y.st), .int .i64 (cmpI x.id y.id)] 3)) = w' := by rw [← HR.out]; exact or_calls (cmpI x.st y.st) (cmpI x.id y.id) w5.heap.size _ (heap_alloc_new w5 _)
  refine goes_ Try.func41 (by kernel_rfl) rfl #[.slice (some ⟨w5.heap.size, 0, none⟩) 2 2] (by rfl) rfl rfl (by simp only [List.map_toArray, List.map_cons, List.map_nil]; rfl) ?_
  with_reducible refine (hor).mono ?_
  rintro e w6 ⟨rfl, rfl⟩
  refine ⟨_, rfl, ?_⟩
  refine hK.out _ _ ⟨(blk_cell (block_below K15.out hba) 5).trans rfl, (blk_cell (block_below K25.out hba) 5).trans rfl, (blk_cell (block_below K15.out hba) 1).trans rfl, (blk_cell (block_below K25.out hba) 1).trans rfl⟩ (fun hHeld => ?_)
  clear hK K
  refine norm_ (a' := ?_) ?_ ?_
  rotate_left
  · show Act.put _ (some 16) _ = _
    simp only [Act.put, List.setIfInBounds_toArray, List.set_cons_zero, List.set_cons_succ, i64_w, i32_w]
    rfl
  refine pure_ (i := 12) (N := some 4) (v := ?_) (a' := ?_) #[true, true, true, true, true, true, true, true, true, true, true, true, true] rfl rfl (by kernel_rfl) (fun _ _ _ h => h) (Or.inl ⟨by rfl, ?_⟩) ?_ ?_
  rotate_left
  · intro w'
    go_simp
    with_reducible rfl
  rotate_left
  · simp only [Act.put, List.setIfInBounds_toArray, List.set_cons_zero, List.set_cons_succ, i64_w, i32_w]
    rfl
  refine done_ (by kernel_rfl) ?_
  clear hba hor
  go_wp2
  go_ret
  exact ⟨rfl, HG5.out.alloc _⟩

end Go.Proofs.Ytoigebnhnkdbbaa.Tr
