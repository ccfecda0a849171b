/- filter.Holds: printed by tools/st_holds.py. -/
import Derived.Test.YtffggkhahambhaaConv
import Derived.Test.YtffggkhahambhaaPAllx4
import Derived.Test.YtffggkhahambhaaPAllx5
import Derived.Test.YtffggkhahambhaaRuns
import Derived.Test.YtffggkhahambhaaPAllx6
import Derived.Test.YtffggkhahambhaaPAllx0
import Derived.Test.YtffggkhahambhaaPAllx1
import Derived.Test.YtffggkhahambhaaPAllx2
import Derived.Test.YtffggkhahambhaaPAllx3
import Derived.Test.YtffggkhahambhaaPAllx8
import Derived.Test.YtffggkhahambhaaPAllx15
import Derived.Test.YtffggkhahambhaaStGlob
import Derived.Test.YtffggkhahambhaaWWords
import Derived.Test.YtffggkhahambhaaWLast
import Derived.Test.YtffggkhahambhaaWMore
namespace Go.Proofs.Ytffggkhahambhaa.Tr
open Go.RowKit Go.Proofs.YtffggkhahambhaaW.PrintWords Go.Proofs.YtffggkhahambhaaW.PrintLast Go.Proofs.YtffggkhahambhaaW.PrintMore Go.Proofs.Ytffggkhahambhaa.Math Go.Proofs.Ytffggkhahambhaa.PAll Go.Proofs.Ytffggkhahambhaa.MapG Go.Proofs.Ytffggkhahambhaa.Span Go.Proofs.Ytffggkhahambhaa.PLow
set_option linter.unusedVariables false
set_option linter.unusedSimpArgs false
def numI (a0 a1 a2 a5 a6 a7 : Int) (k : ByteArray) : Option Int := if k = (⟨#[112, 97, 114, 101, 110, 116]⟩ : ByteArray) then some a2 else if k = (⟨#[105, 100]⟩ : ByteArray) then some a1 else if k = (⟨#[116, 114, 97, 99, 101]⟩ : ByteArray) then some a0 else if k = (⟨#[115, 116, 97, 114, 116]⟩ : ByteArray) then some (IntKind.u64.wrap a5) else if k = (⟨#[100, 117, 114]⟩ : ByteArray) then some (IntKind.u64.wrap a6) else if k = (⟨#[115, 116, 97, 116, 117, 115]⟩ : ByteArray) then some (IntKind.u64.wrap a7) else none
theorem numF_eq (s : Sp) (k : ByteArray) : numF s k = (numI s.tr s.id s.par s.st s.du s.stt k).map (Value.int .u64) := by
  unfold numF numI
  repeat' split
  all_goals rfl

set_option maxHeartbeats 8000000 in
set_option maxRecDepth 1000000 in
theorem holds_num (t0 : ByteArray) (t1 t2 : Int) (t3 : ByteArray) (t4 : Int) (t5 : Bool) (a0 a1 a2 : Int) (a3 a4 : ByteArray) (a5 a6 a7 : Int) (A8 : Option Addr) (c8 : Nat) (l8 : List S45) (A9 : Option Addr) (c9 : Nat) (l9 : List S77) (A10 : Option Addr) (c10 : Nat) (l10 : List S80) (n : Int) (r : Bool) (w : World) (hn : numI a0 a1 a2 a5 a6 a7 t0 = some n) (hr : filter_holds.f t1 (if 9223372036854775807 < n then 1 else cmpI (wrap64 n) t4) = some r) : Calls Try.prog 15 #[.agg #[.string t0, .int .i64 t1, .int .i64 t2, .string t3, .int .i64 t4, .bool t5], .agg #[.int .u64 a0, .int .u64 a1, .int .u64 a2, .string a3, .string a4, .int .i64 a5, .int .i64 a6, .int .i64 a7, .slice A8 l8.length c8, .slice A9 l9.length c9, .slice A10 l10.length c10]] w fun e w' => e = .returned (.bool r) ∧ Below w.heap.size w w' := by
  have HNUM := Lib.hid (show numF (⟨a0, a1, a2, a3, a4, a5, a6, a7, (A8, l8.length, c8), (A9, l9.length, c9), (A10, l10.length, c10)⟩ : Sp) t0 = some (.int .u64 n) by rw [numF_eq]; show (numI a0 a1 a2 a5 a6 a7 t0).map _ = _; rw [hn]; rfl)
  have HR := Lib.hid hr
  clear hn hr
  have hgr := below_alloc (below_alloc (Below.refl w.heap.size w) (.cells #[.string t0, .int .i64 t1, .int .i64 t2, .string t3, .int .i64 t4, .bool t5] 41)) (.cells #[.int .u64 a0, .int .u64 a1, .int .u64 a2, .string a3, .string a4, .int .i64 a5, .int .i64 a6, .int .i64 a7, .slice A8 l8.length c8, .slice A9 l9.length c9, .slice A10 l10.length c10] 34)
  have k1 : ((w.alloc (.cells #[.string t0, .int .i64 t1, .int .i64 t2, .string t3, .int .i64 t4, .bool t5] 41)).alloc (.cells #[.int .u64 a0, .int .u64 a1, .int .u64 a2, .string a3, .string a4, .int .i64 a5, .int .i64 a6, .int .i64 a7, .slice A8 l8.length c8, .slice A9 l9.length c9, .slice A10 l10.length c10] 34)).heap[w.heap.size]? = some (.cells #[.string t0, .int .i64 t1, .int .i64 t2, .string t3, .int .i64 t4, .bool t5] 41 (0, 0)) := block_below (heap_alloc_new w _) (below_alloc (Below.refl _ _) _)
  have k2 : ((w.alloc (.cells #[.string t0, .int .i64 t1, .int .i64 t2, .string t3, .int .i64 t4, .bool t5] 41)).alloc (.cells #[.int .u64 a0, .int .u64 a1, .int .u64 a2, .string a3, .string a4, .int .i64 a5, .int .i64 a6, .int .i64 a7, .slice A8 l8.length c8, .slice A9 l9.length c9, .slice A10 l10.length c10] 34)).heap[(w.alloc (.cells #[.string t0, .int .i64 t1, .int .i64 t2, .string t3, .int .i64 t4, .bool t5] 41)).heap.size]? = some (.cells #[.int .u64 a0, .int .u64 a1, .int .u64 a2, .string a3, .string a4, .int .i64 a5, .int .i64 a6, .int .i64 a7, .slice A8 l8.length c8, .slice A9 l9.length c9, .slice A10 l10.length c10] 34 (0, 0)) := heap_alloc_new _ _
  rw [show (w.alloc (.cells #[.string t0, .int .i64 t1, .int .i64 t2, .string t3, .int .i64 t4, .bool t5] 41)).heap.size = w.heap.size + 1 by simp] at k2
  have HG := Lib.hid hgr
  have K1 := Lib.hid k1
  have K2 := Lib.hid k2
  clear hgr k1 k2
  go_enter Try.func15, Try.ntmps15
  go_wp2
  have k1 := blk_drew K1.out
  have k2 := blk_drew K2.out
  have hg := below_drew1 HG.out
  refine start_ (n := 10) (S := fun w' => w'.cell? ⟨w.heap.size, 0, none⟩ = some (.string t0) ∧ w'.cell? ⟨w.heap.size + 1, 0, none⟩ = some (.int .u64 a0) ∧ w'.cell? ⟨w.heap.size + 1, 1, none⟩ = some (.int .u64 a1) ∧ w'.cell? ⟨w.heap.size + 1, 2, none⟩ = some (.int .u64 a2) ∧ w'.cell? ⟨w.heap.size + 1, 3, none⟩ = some (.string a3) ∧ w'.cell? ⟨w.heap.size + 1, 4, none⟩ = some (.string a4) ∧ w'.cell? ⟨w.heap.size + 1, 5, none⟩ = some (.int .i64 a5) ∧ w'.cell? ⟨w.heap.size + 1, 6, none⟩ = some (.int .i64 a6) ∧ w'.cell? ⟨w.heap.size + 1, 7, none⟩ = some (.int .i64 a7) ∧ w'.cell? ⟨w.heap.size + 1, 8, none⟩ = some (.slice A8 l8.length c8) ∧ w'.cell? ⟨w.heap.size + 1, 9, none⟩ = some (.slice A9 l9.length c9) ∧ w'.cell? ⟨w.heap.size + 1, 10, none⟩ = some (.slice A10 l10.length c10)) (ds := []) #[false, false, false, false, false, false, false, false, false, false] (by kernel_rfl) rfl rfl ⟨(blk_cell k1 0).trans rfl, (blk_cell k2 0).trans rfl, (blk_cell k2 1).trans rfl, (blk_cell k2 2).trans rfl, (blk_cell k2 3).trans rfl, (blk_cell k2 4).trans rfl, (blk_cell k2 5).trans rfl, (blk_cell k2 6).trans rfl, (blk_cell k2 7).trans rfl, (blk_cell k2 8).trans rfl, (blk_cell k2 9).trans rfl, (blk_cell k2 10).trans rfl⟩ (fun hHeld => ?_)
  generalize ((w.alloc (.cells #[.string t0, .int .i64 t1, .int .i64 t2, .string t3, .int .i64 t4, .bool t5] 41)).alloc (.cells #[.int .u64 a0, .int .u64 a1, .int .u64 a2, .string a3, .string a4, .int .i64 a5, .int .i64 a6, .int .i64 a7, .slice A8 l8.length c8, .slice A9 l9.length c9, .slice A10 l10.length c10] 34)).drew = w5 at k1 k2 hg hHeld ⊢
  have K15 := Lib.hid k1
  have K25 := Lib.hid k2
  have HG5 := Lib.hid hg
  clear k1 k2 hg
  refine pure_ (i := 2) (N := some 13) (v := ?_) (a' := ?_) #[false, false, true, false, false, false, false, false, false, false] rfl rfl (by kernel_rfl) (fun _ _ _ h => h) (Or.inl ⟨by rfl, ?_⟩) ?_ ?_
  rotate_left
  · intro w'
    go_simp
    with_reducible rfl
  rotate_left
  · simp only [Act.put, List.setIfInBounds_toArray, List.set_cons_zero, List.set_cons_succ, i64_w, i32_w]
    rfl
  refine take_ (i := 0) (N := some 11) (v := ?_) (a' := ?_) #[true, false, true, false, false, false, false, false, false, false] rfl rfl (by kernel_rfl) (fun _ _ _ h => h) (Or.inl ⟨by rfl, ?_⟩) hHeld ?_ ?_
  rotate_left
  · rintro w' ⟨s0, s1, s2, s3, s4, s5, s6, s7, s8, s9, s10, s11⟩
    go_simp
    with_reducible rfl
  rotate_left
  · simp only [Act.put, List.setIfInBounds_toArray, List.set_cons_zero, List.set_cons_succ, i64_w, i32_w]
    rfl
  refine take_ (i := 3) (N := some 14) (v := ?_) (a' := ?_) #[true, false, true, true, false, false, false, false, false, false] rfl rfl (by kernel_rfl) (fun _ _ _ h => h) (Or.inl ⟨by rfl, ?_⟩) hHeld ?_ ?_
  rotate_left
  · rintro w' ⟨s0, s1, s2, s3, s4, s5, s6, s7, s8, s9, s10, s11⟩
    go_simp
    with_reducible rfl
  rotate_left
  · simp only [Act.put, List.setIfInBounds_toArray, List.set_cons_zero, List.set_cons_succ, i64_w, i32_w]
    rfl
  refine one_ (i := 1) (N := some 12) #[true, true, true, true, false, false, false, false, false, false] rfl rfl (by kernel_rfl) (by decide) (fun K hK => ?_)
  have hnum := numbers_calls (⟨a0, a1, a2, a3, a4, a5, a6, a7, (A8, l8.length, c8), (A9, l9.length, c9), (A10, l10.length, c10)⟩ : Sp) w5
  rw [arr_S] at hnum
  dsimp only at hnum
  refine goes_ Try.func36 (by kernel_rfl) rfl #[.agg #[.int .u64 a0, .int .u64 a1, .int .u64 a2, .string a3, .string a4, .int .i64 a5, .int .i64 a6, .int .i64 a7, .slice A8 l8.length c8, .slice A9 l9.length c9, .slice A10 l10.length c10]] (by rfl) rfl rfl (by simp only [List.map_toArray, List.map_cons, List.map_nil]; rfl) ?_
  with_reducible refine (hnum).mono ?_
  rintro e w6 ⟨g, es, clk, rfl, hmap, hmo, hb6⟩
  refine ⟨_, rfl, ?_⟩
  have hlk : (Instr.lookup 64 (.map (some g)) (.string t0) true).run Try.prog w6 = .ok (.tuple #[.int .u64 n, .bool true]) w6 := (run_look mkey_string Try.underlying64 Try.underlying9 (.int .u64 0) w6 (Try.zeroValue29 w6) hmap hmo t0).trans (by rw [HNUM.out]; rfl)
  have K16 := Lib.hid (block_below K15.out hb6)
  have K26 := Lib.hid (block_below K25.out hb6)
  have HG6 := Lib.hid (below_step HG5.out hb6)
  clear hnum hmap hmo hb6
  refine hK.out _ _ ⟨(blk_cell K16.out 0).trans rfl, (blk_cell K26.out 0).trans rfl, (blk_cell K26.out 1).trans rfl, (blk_cell K26.out 2).trans rfl, (blk_cell K26.out 3).trans rfl, (blk_cell K26.out 4).trans rfl, (blk_cell K26.out 5).trans rfl, (blk_cell K26.out 6).trans rfl, (blk_cell K26.out 7).trans rfl, (blk_cell K26.out 8).trans rfl, (blk_cell K26.out 9).trans rfl, (blk_cell K26.out 10).trans rfl⟩ (fun hHeld => ?_)
  clear hK K
  refine norm_ (a' := ?_) ?_ ?_
  rotate_left
  · show Act.put _ (some 12) _ = _
    simp only [Act.put, List.setIfInBounds_toArray, List.set_cons_zero, List.set_cons_succ, i64_w, i32_w]
    rfl
  refine one_ (i := 4) (N := some 15) #[true, true, true, true, true, false, false, false, false, false] rfl rfl (by kernel_rfl) (by decide) (fun K hK => ?_)
  refine value_ (w1 := ?_) (v := ?_) (by rfl) rfl ?_ ?_
  rotate_left 2
  · go_simp
    constructor
    · rfl
    · rfl
  refine hK.out _ _ ⟨(blk_cell K16.out 0).trans rfl, (blk_cell K26.out 0).trans rfl, (blk_cell K26.out 1).trans rfl, (blk_cell K26.out 2).trans rfl, (blk_cell K26.out 3).trans rfl, (blk_cell K26.out 4).trans rfl, (blk_cell K26.out 5).trans rfl, (blk_cell K26.out 6).trans rfl, (blk_cell K26.out 7).trans rfl, (blk_cell K26.out 8).trans rfl, (blk_cell K26.out 9).trans rfl, (blk_cell K26.out 10).trans rfl⟩ (fun hHeld => ?_)
  clear hK K
  refine norm_ (a' := ?_) ?_ ?_
  rotate_left
  · show Act.put _ (some 15) _ = _
    simp only [Act.put, List.setIfInBounds_toArray, List.set_cons_zero, List.set_cons_succ, i64_w, i32_w]
    rfl
  refine pure_ (i := 5) (N := some 10) (v := ?_) (a' := ?_) #[true, true, true, true, true, true, false, false, false, false] rfl rfl (by kernel_rfl) (fun _ _ _ h => h) (Or.inl ⟨by rfl, ?_⟩) ?_ ?_
  rotate_left
  · intro w'
    go_simp
    with_reducible rfl
  rotate_left
  · simp only [Act.put, List.setIfInBounds_toArray, List.set_cons_zero, List.set_cons_succ, i64_w, i32_w]
    rfl
  refine pure_ (i := 6) (N := some 16) (v := ?_) (a' := ?_) #[true, true, true, true, true, true, true, false, false, false] rfl rfl (by kernel_rfl) (fun _ _ _ h => h) (Or.inl ⟨by rfl, ?_⟩) ?_ ?_
  rotate_left
  · intro w'
    go_simp
    with_reducible rfl
  rotate_left
  · simp only [Act.put, List.setIfInBounds_toArray, List.set_cons_zero, List.set_cons_succ, i64_w, i32_w]
    rfl
  refine pure_ (i := 7) (N := some 17) (v := ?_) (a' := ?_) #[true, true, true, true, true, true, true, true, false, false] rfl rfl (by kernel_rfl) (fun _ _ _ h => h) (Or.inl ⟨by rfl, ?_⟩) ?_ ?_
  rotate_left
  · intro w'
    go_simp
    with_reducible rfl
  rotate_left
  · simp only [Act.put, List.setIfInBounds_toArray, List.set_cons_zero, List.set_cons_succ, i64_w, i32_w]
    rfl
  refine pure_ (i := 8) (N := some 5) (v := ?_) (a' := ?_) #[true, true, true, true, true, true, true, true, true, false] rfl rfl (by kernel_rfl) (fun _ _ _ h => h) (Or.inl ⟨by rfl, ?_⟩) ?_ ?_
  rotate_left
  · intro w'
    go_simp
    with_reducible rfl
  rotate_left
  · simp only [Act.put, List.setIfInBounds_toArray, List.set_cons_zero, List.set_cons_succ, i64_w, i32_w]
    rfl
  refine pure_ (i := 9) (N := some 6) (v := ?_) (a' := ?_) #[true, true, true, true, true, true, true, true, true, true] rfl rfl (by kernel_rfl) (fun _ _ _ h => h) (Or.inl ⟨by rfl, ?_⟩) ?_ ?_
  rotate_left
  · intro w'
    go_simp
    with_reducible rfl
  rotate_left
  · simp only [Act.put, List.setIfInBounds_toArray, List.set_cons_zero, List.set_cons_succ, i64_w, i32_w]
    rfl
  refine done_ (by kernel_rfl) ?_
  clear hlk
  have y1 : w6.cell? ⟨w.heap.size, 1, none⟩ = some (.int .i64 t1) := (blk_cell K16.out 1).trans rfl
  by_cases hbig : 9223372036854775807 < n
  · have d : decide (9223372036854775807 < n) = true := decide_eq_true hbig
    have HRR := Lib.hid (show filter_holds.f t1 1 = some r by have := HR.out; rw [if_pos hbig] at this; exact this)
    clear hbig
    go_wp2_with fail
    refine (filter_holds.calls t1 1 r _ HRR.out).mono ?_
    rintro e w8 ⟨rfl, nd, rfl⟩
    go_wp2
    go_ret
    exact ⟨rfl, HG6.out.os, HG6.out.tape, HG6.out.output, HG6.out.size, HG6.out.block⟩
  · have d : decide (9223372036854775807 < n) = false := decide_eq_false hbig
    have HRR := Lib.hid (show filter_holds.f t1 (cmpI (wrap64 n) t4) = some r by have := HR.out; rw [if_neg hbig] at this; exact this)
    clear hbig
    go_wp2
    have k1 := blk_drew K16.out
    have hg := below_drew1 HG6.out
    refine start_ (n := 10) (S := fun w' => w'.cell? ⟨w.heap.size, 1, none⟩ = some (.int .i64 t1) ∧ w'.cell? ⟨w.heap.size, 4, none⟩ = some (.int .i64 t4)) (ds := []) #[false, false, false, false, false, false, false, false, false, false] (by kernel_rfl) rfl rfl ⟨(blk_cell k1 1).trans rfl, (blk_cell k1 4).trans rfl⟩ (fun hHeld => ?_)
    generalize w6.drew = w7 at k1 hg hHeld ⊢
    have K17 := Lib.hid k1
    have HG7 := Lib.hid hg
    clear k1 hg
    refine pure_ (i := 0) (N := some 24) (v := ?_) (a' := ?_) #[true, false, false, false, false, false, false, false, false, false] rfl rfl (by kernel_rfl) (fun _ _ _ h => h) (Or.inl ⟨by rfl, ?_⟩) ?_ ?_
    rotate_left
    · intro w'
      go_simp
      with_reducible rfl
    rotate_left
    · simp only [Act.put, List.setIfInBounds_toArray, List.set_cons_zero, List.set_cons_succ, i64_w, i32_w]
      rfl
    refine pure_ (i := 2) (N := some 26) (v := ?_) (a' := ?_) #[true, false, true, false, false, false, false, false, false, false] rfl rfl (by kernel_rfl) (fun _ _ _ h => h) (Or.inl ⟨by rfl, ?_⟩) ?_ ?_
    rotate_left
    · intro w'
      go_simp
      with_reducible rfl
    rotate_left
    · simp only [Act.put, List.setIfInBounds_toArray, List.set_cons_zero, List.set_cons_succ, i64_w, i32_w]
      rfl
    refine pure_ (i := 3) (N := some 27) (v := ?_) (a' := ?_) #[true, false, true, true, false, false, false, false, false, false] rfl rfl (by kernel_rfl) (fun _ _ _ h => h) (Or.inl ⟨by rfl, ?_⟩) ?_ ?_
    rotate_left
    · intro w'
      go_simp
      with_reducible rfl
    rotate_left
    · simp only [Act.put, List.setIfInBounds_toArray, List.set_cons_zero, List.set_cons_succ, i64_w, i32_w]
      rfl
    refine pure_ (i := 4) (N := some 28) (v := ?_) (a' := ?_) #[true, false, true, true, true, false, false, false, false, false] rfl rfl (by kernel_rfl) (fun _ _ _ h => h) (Or.inl ⟨by rfl, ?_⟩) ?_ ?_
    rotate_left
    · intro w'
      go_simp
      with_reducible rfl
    rotate_left
    · simp only [Act.put, List.setIfInBounds_toArray, List.set_cons_zero, List.set_cons_succ, i64_w, i32_w]
      rfl
    refine pure_ (i := 5) (N := some 29) (v := ?_) (a' := ?_) #[true, false, true, true, true, true, false, false, false, false] rfl rfl (by kernel_rfl) (fun _ _ _ h => h) (Or.inl ⟨by rfl, ?_⟩) ?_ ?_
    rotate_left
    · intro w'
      go_simp
      with_reducible rfl
    rotate_left
    · simp only [Act.put, List.setIfInBounds_toArray, List.set_cons_zero, List.set_cons_succ, i64_w, i32_w]
      rfl
    refine take_ (i := 1) (N := some 25) (v := ?_) (a' := ?_) #[true, true, true, true, true, true, false, false, false, false] rfl rfl (by kernel_rfl) (fun _ _ _ h => h) (Or.inl ⟨by rfl, ?_⟩) hHeld ?_ ?_
    rotate_left
    · rintro w' ⟨s0, s1⟩
      go_simp
      with_reducible rfl
    rotate_left
    · simp only [Act.put, List.setIfInBounds_toArray, List.set_cons_zero, List.set_cons_succ, i64_w, i32_w]
      rfl
    refine take_ (i := 6) (N := some 30) (v := ?_) (a' := ?_) #[true, true, true, true, true, true, true, false, false, false] rfl rfl (by kernel_rfl) (fun _ _ _ h => h) (Or.inl ⟨by rfl, ?_⟩) hHeld ?_ ?_
    rotate_left
    · rintro w' ⟨s0, s1⟩
      go_simp
      with_reducible rfl
    rotate_left
    · simp only [Act.put, List.setIfInBounds_toArray, List.set_cons_zero, List.set_cons_succ, i64_w, i32_w]
      rfl
    refine one_ (i := 7) (N := some 31) #[true, true, true, true, true, true, true, true, false, false] rfl rfl (by kernel_rfl) (by decide) (fun K hK => ?_)
    refine goes_ Try.func38 (by kernel_rfl) rfl #[.int .i64 (wrap64 n), .int .i64 t4] (by rfl) rfl rfl (by simp only [List.map_toArray, List.map_cons, List.map_nil]; rfl) ?_
    with_reducible refine (cmp_Compare_int64.calls _ _ _ w7 (cmp64 (wrap64 n) t4)).mono ?_
    rintro e w8 ⟨rfl, nd, rfl⟩
    refine ⟨_, rfl, ?_⟩
    refine hK.out _ _ ⟨(blk_cell K17.out 1).trans rfl, (blk_cell K17.out 4).trans rfl⟩ (fun hHeld => ?_)
    clear hK K
    refine norm_ (a' := ?_) ?_ ?_
    rotate_left
    · show Act.put _ (some 31) _ = _
      simp only [Act.put, List.setIfInBounds_toArray, List.set_cons_zero, List.set_cons_succ, i64_w, i32_w]
      rfl
    refine one_ (i := 8) (N := some 32) #[true, true, true, true, true, true, true, true, true, false] rfl rfl (by kernel_rfl) (by decide) (fun K hK => ?_)
    refine goes_ Try.func37 (by kernel_rfl) rfl #[.int .i64 t1, .int .i64 (cmpI (wrap64 n) t4)] (by rfl) rfl rfl (by simp only [List.map_toArray, List.map_cons, List.map_nil]; rfl) ?_
    with_reducible refine (filter_holds.calls t1 (cmpI (wrap64 n) t4) r _ HRR.out).mono ?_
    rintro e w9 ⟨rfl, nd2, rfl⟩
    refine ⟨_, rfl, ?_⟩
    refine hK.out _ _ ⟨(blk_cell K17.out 1).trans rfl, (blk_cell K17.out 4).trans rfl⟩ (fun hHeld => ?_)
    clear hK K
    refine norm_ (a' := ?_) ?_ ?_
    rotate_left
    · show Act.put _ (some 32) _ = _
      simp only [Act.put, List.setIfInBounds_toArray, List.set_cons_zero, List.set_cons_succ, i64_w, i32_w]
      rfl
    refine pure_ (i := 9) (N := some 4) (v := ?_) (a' := ?_) #[true, true, true, true, true, true, true, true, true, true] rfl rfl (by kernel_rfl) (fun _ _ _ h => h) (Or.inl ⟨by rfl, ?_⟩) ?_ ?_
    rotate_left
    · intro w'
      go_simp
      with_reducible rfl
    rotate_left
    · simp only [Act.put, List.setIfInBounds_toArray, List.set_cons_zero, List.set_cons_succ, i64_w, i32_w]
      rfl
    refine done_ (by kernel_rfl) ?_
    go_wp2
    go_ret
    exact ⟨rfl, HG7.out.os, HG7.out.tape, HG7.out.output, HG7.out.size, HG7.out.block⟩

/-- What Holds tells of a field's value. -/
def holdV (k : Nat) (t1 t2 : Int) (t3 : ByteArray) (t4 : Int) (t5 : Bool) (r1 : Int) (r2 : ByteArray) (r3 : Int) (r4 ok : Bool) : Option Bool := if ok = false then some false else if t1 = 6 then (if r1 = t2 then text_Match.f k t3 r2 else some false) else if (cmpV r1 r2 r3 r4 t2 t3 t4 t5).2 = true then filter_holds.f t1 (cmpV r1 r2 r3 r4 t2 t3 t4 t5).1 else some false
set_option maxHeartbeats 8000000 in
set_option maxRecDepth 1000000 in
theorem holds_val (k : Nat) (t0 : ByteArray) (t1 t2 : Int) (t3 : ByteArray) (t4 : Int) (t5 : Bool) (a0 a1 a2 : Int) (a3 a4 : ByteArray) (a5 a6 a7 : Int) (A8 : Option Addr) (c8 : Nat) (l8 : List S45) (A9 : Option Addr) (c9 : Nat) (l9 : List S77) (A10 : Option Addr) (c10 : Nat) (l10 : List S80) (r1 : Int) (r2 : ByteArray) (r3 : Int) (r4 ok : Bool) (r : Bool) (w : World) (hc8 : Kd.C k45 w A8 l8.length l8) (hl8 : l8.length ≤ c8) (hc9 : Kd.C k77 w A9 l9.length l9) (hl9 : l9.length ≤ c9) (hc10 : Kd.C k80 w A10 l10.length l10) (hl10 : l10.length ≤ c10) (hn : numI a0 a1 a2 a5 a6 a7 t0 = none) (hv : filter_value.f k t0 a0 a1 a2 a3 a4 a5 a6 a7 l8 l9 l10 = some (r1, r2, r3, r4, ok)) (hr : holdV k t1 t2 t3 t4 t5 r1 r2 r3 r4 ok = some r) : Calls Try.prog 15 #[.agg #[.string t0, .int .i64 t1, .int .i64 t2, .string t3, .int .i64 t4, .bool t5], .agg #[.int .u64 a0, .int .u64 a1, .int .u64 a2, .string a3, .string a4, .int .i64 a5, .int .i64 a6, .int .i64 a7, .slice A8 l8.length c8, .slice A9 l9.length c9, .slice A10 l10.length c10]] w fun e w' => e = .returned (.bool r) ∧ Below w.heap.size w w' := by
  have HNUM := Lib.hid (show numF (⟨a0, a1, a2, a3, a4, a5, a6, a7, (A8, l8.length, c8), (A9, l9.length, c9), (A10, l10.length, c10)⟩ : Sp) t0 = none by rw [numF_eq]; show (numI a0 a1 a2 a5 a6 a7 t0).map _ = _; rw [hn]; rfl)
  have HR := Lib.hid hr
  have HV := Lib.hid hv
  have HC8 := Lib.hid hc8
  have HL8 := Lib.hid hl8
  have HC9 := Lib.hid hc9
  have HL9 := Lib.hid hl9
  have HC10 := Lib.hid hc10
  have HL10 := Lib.hid hl10
  clear hn hr hv hc8 hl8 hc9 hl9 hc10 hl10
  have hgr := below_alloc (below_alloc (Below.refl w.heap.size w) (.cells #[.string t0, .int .i64 t1, .int .i64 t2, .string t3, .int .i64 t4, .bool t5] 41)) (.cells #[.int .u64 a0, .int .u64 a1, .int .u64 a2, .string a3, .string a4, .int .i64 a5, .int .i64 a6, .int .i64 a7, .slice A8 l8.length c8, .slice A9 l9.length c9, .slice A10 l10.length c10] 34)
  have k1 : ((w.alloc (.cells #[.string t0, .int .i64 t1, .int .i64 t2, .string t3, .int .i64 t4, .bool t5] 41)).alloc (.cells #[.int .u64 a0, .int .u64 a1, .int .u64 a2, .string a3, .string a4, .int .i64 a5, .int .i64 a6, .int .i64 a7, .slice A8 l8.length c8, .slice A9 l9.length c9, .slice A10 l10.length c10] 34)).heap[w.heap.size]? = some (.cells #[.string t0, .int .i64 t1, .int .i64 t2, .string t3, .int .i64 t4, .bool t5] 41 (0, 0)) := block_below (heap_alloc_new w _) (below_alloc (Below.refl _ _) _)
  have k2 : ((w.alloc (.cells #[.string t0, .int .i64 t1, .int .i64 t2, .string t3, .int .i64 t4, .bool t5] 41)).alloc (.cells #[.int .u64 a0, .int .u64 a1, .int .u64 a2, .string a3, .string a4, .int .i64 a5, .int .i64 a6, .int .i64 a7, .slice A8 l8.length c8, .slice A9 l9.length c9, .slice A10 l10.length c10] 34)).heap[(w.alloc (.cells #[.string t0, .int .i64 t1, .int .i64 t2, .string t3, .int .i64 t4, .bool t5] 41)).heap.size]? = some (.cells #[.int .u64 a0, .int .u64 a1, .int .u64 a2, .string a3, .string a4, .int .i64 a5, .int .i64 a6, .int .i64 a7, .slice A8 l8.length c8, .slice A9 l9.length c9, .slice A10 l10.length c10] 34 (0, 0)) := heap_alloc_new _ _
  rw [show (w.alloc (.cells #[.string t0, .int .i64 t1, .int .i64 t2, .string t3, .int .i64 t4, .bool t5] 41)).heap.size = w.heap.size + 1 by simp] at k2
  have HG := Lib.hid hgr
  have K1 := Lib.hid k1
  have K2 := Lib.hid k2
  clear hgr k1 k2
  go_enter Try.func15, Try.ntmps15
  go_wp2
  have k1 := blk_drew K1.out
  have k2 := blk_drew K2.out
  have hg := below_drew1 HG.out
  refine start_ (n := 10) (S := fun w' => w'.cell? ⟨w.heap.size, 0, none⟩ = some (.string t0) ∧ w'.cell? ⟨w.heap.size + 1, 0, none⟩ = some (.int .u64 a0) ∧ w'.cell? ⟨w.heap.size + 1, 1, none⟩ = some (.int .u64 a1) ∧ w'.cell? ⟨w.heap.size + 1, 2, none⟩ = some (.int .u64 a2) ∧ w'.cell? ⟨w.heap.size + 1, 3, none⟩ = some (.string a3) ∧ w'.cell? ⟨w.heap.size + 1, 4, none⟩ = some (.string a4) ∧ w'.cell? ⟨w.heap.size + 1, 5, none⟩ = some (.int .i64 a5) ∧ w'.cell? ⟨w.heap.size + 1, 6, none⟩ = some (.int .i64 a6) ∧ w'.cell? ⟨w.heap.size + 1, 7, none⟩ = some (.int .i64 a7) ∧ w'.cell? ⟨w.heap.size + 1, 8, none⟩ = some (.slice A8 l8.length c8) ∧ w'.cell? ⟨w.heap.size + 1, 9, none⟩ = some (.slice A9 l9.length c9) ∧ w'.cell? ⟨w.heap.size + 1, 10, none⟩ = some (.slice A10 l10.length c10)) (ds := []) #[false, false, false, false, false, false, false, false, false, false] (by kernel_rfl) rfl rfl ⟨(blk_cell k1 0).trans rfl, (blk_cell k2 0).trans rfl, (blk_cell k2 1).trans rfl, (blk_cell k2 2).trans rfl, (blk_cell k2 3).trans rfl, (blk_cell k2 4).trans rfl, (blk_cell k2 5).trans rfl, (blk_cell k2 6).trans rfl, (blk_cell k2 7).trans rfl, (blk_cell k2 8).trans rfl, (blk_cell k2 9).trans rfl, (blk_cell k2 10).trans rfl⟩ (fun hHeld => ?_)
  generalize ((w.alloc (.cells #[.string t0, .int .i64 t1, .int .i64 t2, .string t3, .int .i64 t4, .bool t5] 41)).alloc (.cells #[.int .u64 a0, .int .u64 a1, .int .u64 a2, .string a3, .string a4, .int .i64 a5, .int .i64 a6, .int .i64 a7, .slice A8 l8.length c8, .slice A9 l9.length c9, .slice A10 l10.length c10] 34)).drew = w5 at k1 k2 hg hHeld ⊢
  have K15 := Lib.hid k1
  have K25 := Lib.hid k2
  have HG5 := Lib.hid hg
  clear k1 k2 hg
  refine pure_ (i := 2) (N := some 13) (v := ?_) (a' := ?_) #[false, false, true, false, false, false, false, false, false, false] rfl rfl (by kernel_rfl) (fun _ _ _ h => h) (Or.inl ⟨by rfl, ?_⟩) ?_ ?_
  rotate_left
  · intro w'
    go_simp
    with_reducible rfl
  rotate_left
  · simp only [Act.put, List.setIfInBounds_toArray, List.set_cons_zero, List.set_cons_succ, i64_w, i32_w]
    rfl
  refine take_ (i := 0) (N := some 11) (v := ?_) (a' := ?_) #[true, false, true, false, false, false, false, false, false, false] rfl rfl (by kernel_rfl) (fun _ _ _ h => h) (Or.inl ⟨by rfl, ?_⟩) hHeld ?_ ?_
  rotate_left
  · rintro w' ⟨s0, s1, s2, s3, s4, s5, s6, s7, s8, s9, s10, s11⟩
    go_simp
    with_reducible rfl
  rotate_left
  · simp only [Act.put, List.setIfInBounds_toArray, List.set_cons_zero, List.set_cons_succ, i64_w, i32_w]
    rfl
  refine take_ (i := 3) (N := some 14) (v := ?_) (a' := ?_) #[true, false, true, true, false, false, false, false, false, false] rfl rfl (by kernel_rfl) (fun _ _ _ h => h) (Or.inl ⟨by rfl, ?_⟩) hHeld ?_ ?_
  rotate_left
  · rintro w' ⟨s0, s1, s2, s3, s4, s5, s6, s7, s8, s9, s10, s11⟩
    go_simp
    with_reducible rfl
  rotate_left
  · simp only [Act.put, List.setIfInBounds_toArray, List.set_cons_zero, List.set_cons_succ, i64_w, i32_w]
    rfl
  refine one_ (i := 1) (N := some 12) #[true, true, true, true, false, false, false, false, false, false] rfl rfl (by kernel_rfl) (by decide) (fun K hK => ?_)
  have hnum := numbers_calls (⟨a0, a1, a2, a3, a4, a5, a6, a7, (A8, l8.length, c8), (A9, l9.length, c9), (A10, l10.length, c10)⟩ : Sp) w5
  rw [arr_S] at hnum
  dsimp only at hnum
  refine goes_ Try.func36 (by kernel_rfl) rfl #[.agg #[.int .u64 a0, .int .u64 a1, .int .u64 a2, .string a3, .string a4, .int .i64 a5, .int .i64 a6, .int .i64 a7, .slice A8 l8.length c8, .slice A9 l9.length c9, .slice A10 l10.length c10]] (by rfl) rfl rfl (by simp only [List.map_toArray, List.map_cons, List.map_nil]; rfl) ?_
  with_reducible refine (hnum).mono ?_
  rintro e w6 ⟨g, es, clk, rfl, hmap, hmo, hb6⟩
  refine ⟨_, rfl, ?_⟩
  have hlk : (Instr.lookup 64 (.map (some g)) (.string t0) true).run Try.prog w6 = .ok (.tuple #[.int .u64 0, .bool false]) w6 := (run_look mkey_string Try.underlying64 Try.underlying9 (.int .u64 0) w6 (Try.zeroValue29 w6) hmap hmo t0).trans (by rw [HNUM.out]; rfl)
  have K16 := Lib.hid (block_below K15.out hb6)
  have K26 := Lib.hid (block_below K25.out hb6)
  have HG6 := Lib.hid (below_step HG5.out hb6)
  clear hnum hmap hmo hb6
  refine hK.out _ _ ⟨(blk_cell K16.out 0).trans rfl, (blk_cell K26.out 0).trans rfl, (blk_cell K26.out 1).trans rfl, (blk_cell K26.out 2).trans rfl, (blk_cell K26.out 3).trans rfl, (blk_cell K26.out 4).trans rfl, (blk_cell K26.out 5).trans rfl, (blk_cell K26.out 6).trans rfl, (blk_cell K26.out 7).trans rfl, (blk_cell K26.out 8).trans rfl, (blk_cell K26.out 9).trans rfl, (blk_cell K26.out 10).trans rfl⟩ (fun hHeld => ?_)
  clear hK K
  refine norm_ (a' := ?_) ?_ ?_
  rotate_left
  · show Act.put _ (some 12) _ = _
    simp only [Act.put, List.setIfInBounds_toArray, List.set_cons_zero, List.set_cons_succ, i64_w, i32_w]
    rfl
  refine one_ (i := 4) (N := some 15) #[true, true, true, true, true, false, false, false, false, false] rfl rfl (by kernel_rfl) (by decide) (fun K hK => ?_)
  refine value_ (w1 := ?_) (v := ?_) (by rfl) rfl ?_ ?_
  rotate_left 2
  · go_simp
    constructor
    · rfl
    · rfl
  refine hK.out _ _ ⟨(blk_cell K16.out 0).trans rfl, (blk_cell K26.out 0).trans rfl, (blk_cell K26.out 1).trans rfl, (blk_cell K26.out 2).trans rfl, (blk_cell K26.out 3).trans rfl, (blk_cell K26.out 4).trans rfl, (blk_cell K26.out 5).trans rfl, (blk_cell K26.out 6).trans rfl, (blk_cell K26.out 7).trans rfl, (blk_cell K26.out 8).trans rfl, (blk_cell K26.out 9).trans rfl, (blk_cell K26.out 10).trans rfl⟩ (fun hHeld => ?_)
  clear hK K
  refine norm_ (a' := ?_) ?_ ?_
  rotate_left
  · show Act.put _ (some 15) _ = _
    simp only [Act.put, List.setIfInBounds_toArray, List.set_cons_zero, List.set_cons_succ, i64_w, i32_w]
    rfl
  refine pure_ (i := 5) (N := some 10) (v := ?_) (a' := ?_) #[true, true, true, true, true, true, false, false, false, false] rfl rfl (by kernel_rfl) (fun _ _ _ h => h) (Or.inl ⟨by rfl, ?_⟩) ?_ ?_
  rotate_left
  · intro w'
    go_simp
    with_reducible rfl
  rotate_left
  · simp only [Act.put, List.setIfInBounds_toArray, List.set_cons_zero, List.set_cons_succ, i64_w, i32_w]
    rfl
  refine pure_ (i := 6) (N := some 16) (v := ?_) (a' := ?_) #[true, true, true, true, true, true, true, false, false, false] rfl rfl (by kernel_rfl) (fun _ _ _ h => h) (Or.inl ⟨by rfl, ?_⟩) ?_ ?_
  rotate_left
  · intro w'
    go_simp
    with_reducible rfl
  rotate_left
  · simp only [Act.put, List.setIfInBounds_toArray, List.set_cons_zero, List.set_cons_succ, i64_w, i32_w]
    rfl
  refine pure_ (i := 7) (N := some 17) (v := ?_) (a' := ?_) #[true, true, true, true, true, true, true, true, false, false] rfl rfl (by kernel_rfl) (fun _ _ _ h => h) (Or.inl ⟨by rfl, ?_⟩) ?_ ?_
  rotate_left
  · intro w'
    go_simp
    with_reducible rfl
  rotate_left
  · simp only [Act.put, List.setIfInBounds_toArray, List.set_cons_zero, List.set_cons_succ, i64_w, i32_w]
    rfl
  refine pure_ (i := 8) (N := some 5) (v := ?_) (a' := ?_) #[true, true, true, true, true, true, true, true, true, false] rfl rfl (by kernel_rfl) (fun _ _ _ h => h) (Or.inl ⟨by rfl, ?_⟩) ?_ ?_
  rotate_left
  · intro w'
    go_simp
    with_reducible rfl
  rotate_left
  · simp only [Act.put, List.setIfInBounds_toArray, List.set_cons_zero, List.set_cons_succ, i64_w, i32_w]
    rfl
  refine pure_ (i := 9) (N := some 6) (v := ?_) (a' := ?_) #[true, true, true, true, true, true, true, true, true, true] rfl rfl (by kernel_rfl) (fun _ _ _ h => h) (Or.inl ⟨by rfl, ?_⟩) ?_ ?_
  rotate_left
  · intro w'
    go_simp
    with_reducible rfl
  rotate_left
  · simp only [Act.put, List.setIfInBounds_toArray, List.set_cons_zero, List.set_cons_succ, i64_w, i32_w]
    rfl
  refine done_ (by kernel_rfl) ?_
  clear hlk
  have y0 : w6.cell? ⟨w.heap.size, 0, none⟩ = some (.string t0) := (blk_cell K16.out 0).trans rfl
  have x0 := (blk_cell K26.out 0).trans rfl
  have x1 := (blk_cell K26.out 1).trans rfl
  have x2 := (blk_cell K26.out 2).trans rfl
  have x3 := (blk_cell K26.out 3).trans rfl
  have x4 := (blk_cell K26.out 4).trans rfl
  have x5 := (blk_cell K26.out 5).trans rfl
  have x6 := (blk_cell K26.out 6).trans rfl
  have x7 := (blk_cell K26.out 7).trans rfl
  have x8 := (blk_cell K26.out 8).trans rfl
  have x9 := (blk_cell K26.out 9).trans rfl
  have x10 := (blk_cell K26.out 10).trans rfl
  go_wp2_with fail
  refine (filter_value.calls k t0 a0 a1 a2 a3 a4 a5 a6 a7 A8 c8 l8 A9 c9 l9 A10 c10 l10 r1 r2 r3 r4 ok w6 (Kd.C_below HC8.out HG6.out) HL8.out (Kd.C_below HC9.out HG6.out) HL9.out (Kd.C_below HC10.out HG6.out) HL10.out HV.out).mono ?_
  rintro e w8 ⟨rfl, hb8⟩
  have K18 := Lib.hid (block_below K16.out hb8)
  have HG8 := Lib.hid (below_step HG6.out hb8)
  clear hb8 x0 x1 x2 x3 x4 x5 x6 x7 x8 x9 x10 y0
  have y0 : w8.cell? ⟨w.heap.size, 0, none⟩ = some (.string t0) := (blk_cell K18.out 0).trans rfl
  have hb9 := below_alloc (Below.refl w8.heap.size w8) (.cells #[.int .i64 r1, .string r2, .int .i64 r3, .bool r4] 39)
  have K19 := Lib.hid (block_below K18.out hb9)
  have KV := Lib.hid (heap_alloc_new w8 (.cells #[.int .i64 r1, .string r2, .int .i64 r3, .bool r4] 39))
  have HG9 := Lib.hid (below_step HG8.out hb9)
  have HS8 := Lib.hid HG8.out.size
  clear hb9
  have y1 : (w8.alloc (.cells #[.int .i64 r1, .string r2, .int .i64 r3, .bool r4] 39)).cell? ⟨w.heap.size, 1, none⟩ = some (.int .i64 t1) := (blk_cell K19.out 1).trans rfl
  have y2 : (w8.alloc (.cells #[.int .i64 r1, .string r2, .int .i64 r3, .bool r4] 39)).cell? ⟨w.heap.size, 2, none⟩ = some (.int .i64 t2) := (blk_cell K19.out 2).trans rfl
  have y3 : (w8.alloc (.cells #[.int .i64 r1, .string r2, .int .i64 r3, .bool r4] 39)).cell? ⟨w.heap.size, 3, none⟩ = some (.string t3) := (blk_cell K19.out 3).trans rfl
  have y4 : (w8.alloc (.cells #[.int .i64 r1, .string r2, .int .i64 r3, .bool r4] 39)).cell? ⟨w.heap.size, 4, none⟩ = some (.int .i64 t4) := (blk_cell K19.out 4).trans rfl
  have y5 : (w8.alloc (.cells #[.int .i64 r1, .string r2, .int .i64 r3, .bool r4] 39)).cell? ⟨w.heap.size, 5, none⟩ = some (.bool t5) := (blk_cell K19.out 5).trans rfl
  have z0 : (w8.alloc (.cells #[.int .i64 r1, .string r2, .int .i64 r3, .bool r4] 39)).cell? ⟨w8.heap.size, 0, none⟩ = some (.int .i64 r1) := (blk_cell KV.out 0).trans rfl
  have z1 : (w8.alloc (.cells #[.int .i64 r1, .string r2, .int .i64 r3, .bool r4] 39)).cell? ⟨w8.heap.size, 1, none⟩ = some (.string r2) := (blk_cell KV.out 1).trans rfl
  have z2 : (w8.alloc (.cells #[.int .i64 r1, .string r2, .int .i64 r3, .bool r4] 39)).cell? ⟨w8.heap.size, 2, none⟩ = some (.int .i64 r3) := (blk_cell KV.out 2).trans rfl
  have z3 : (w8.alloc (.cells #[.int .i64 r1, .string r2, .int .i64 r3, .bool r4] 39)).cell? ⟨w8.heap.size, 3, none⟩ = some (.bool r4) := (blk_cell KV.out 3).trans rfl
  cases ok with
  | false =>
    obtain rfl := Option.some.inj (show some false = some r from HR.out)
    go_wp2
    go_ret
    exact ⟨rfl, HG9.out⟩
  | true =>
    by_cases h6 : t1 = 6
    · have d6 : (t1 == 6) = true := beq_iff_eq.2 h6
      by_cases hk : r1 = t2
      · have dk : (r1 == t2) = true := beq_iff_eq.2 hk
        have HRR := Lib.hid (show text_Match.f k t3 r2 = some r by have := HR.out; unfold holdV at this; rw [if_neg (by decide), if_pos h6, if_pos hk] at this; exact this)
        clear h6 hk
        go_wp2_with fail
        refine (text_Match.calls k t3 r2 r _ HRR.out).mono ?_
        rintro e w10 ⟨rfl, hb10⟩
        go_wp2
        go_ret
        exact ⟨rfl, below_step HG9.out hb10⟩
      · have dk : (r1 == t2) = false := beq_eq_false_iff_ne.2 hk
        obtain rfl := Option.some.inj (show some false = some r by have := HR.out; unfold holdV at this; rw [if_neg (by decide), if_pos h6, if_neg hk] at this; exact this)
        clear h6 hk
        go_wp2
        go_ret
        exact ⟨rfl, HG9.out⟩
    · have d6 : (t1 == 6) = false := beq_eq_false_iff_ne.2 h6
      obtain ⟨n, o, hno⟩ : ∃ n o, cmpV r1 r2 r3 r4 t2 t3 t4 t5 = (n, o) := ⟨_, _, rfl⟩
      have HNO := Lib.hid (show span_Compare.f r1 r2 r3 r4 t2 t3 t4 t5 = some (n, o) by unfold span_Compare.f; rw [hno])
      have HRR := Lib.hid (show (if o = true then filter_holds.f t1 n else some false) = some r by have := HR.out; unfold holdV at this; rw [if_neg (by decide), if_neg h6, hno] at this; exact this)
      clear h6 hno
      go_wp2_with fail
      refine (span_Compare.calls r1 r2 r3 r4 t2 t3 t4 t5 n o _ HNO.out).mono ?_
      rintro e w10 ⟨rfl, hb10⟩
      have y1' : w10.cell? ⟨w.heap.size, 1, none⟩ = some (.int .i64 t1) := (blk_cell (block_below K19.out hb10) 1).trans rfl
      have HG10 := Lib.hid (below_step HG9.out hb10)
      clear hb10 y1 y2 y3 y4 y5 z0 z1 z2 z3
      cases o with
      | false =>
        obtain rfl := Option.some.inj (show some false = some r from HRR.out)
        go_wp2
        go_ret
        exact ⟨rfl, HG10.out⟩
      | true =>
        have HRR2 := Lib.hid (show filter_holds.f t1 n = some r from HRR.out)
        go_wp2_with fail
        refine (filter_holds.calls t1 n r _ HRR2.out).mono ?_
        rintro e w11 ⟨rfl, nd, rfl⟩
        go_wp2
        go_ret
        exact ⟨rfl, HG10.out.os, HG10.out.tape, HG10.out.output, HG10.out.size, HG10.out.block⟩
end Go.Proofs.Ytffggkhahambhaa.Tr

namespace Go.Proofs.Ytffggkhahambhaa.Tr
open Go.RowKit Go.Proofs.YtffggkhahambhaaW.PrintWords Go.Proofs.YtffggkhahambhaaW.PrintLast Go.Proofs.YtffggkhahambhaaW.PrintMore Go.Proofs.Ytffggkhahambhaa.Math Go.Proofs.Ytffggkhahambhaa.PAll Go.Proofs.Ytffggkhahambhaa.Span
set_option linter.unusedVariables false
set_option linter.unusedSimpArgs false
/-- What Holds tells. -/
def holdF (k : Nat) (t : S41) (x : S34) : Option Bool :=
  match numI x.f0 x.f1 x.f2 x.f5 x.f6 x.f7 t.f0 with
  | some n => filter_holds.f t.f1 (if 9223372036854775807 < n then 1 else cmpI (wrap64 n) t.f2.f2)
  | none => (filter_value.f k t.f0 x.f0 x.f1 x.f2 x.f3 x.f4 x.f5 x.f6 x.f7 x.f8 x.f9 x.f10).bind fun v => holdV k t.f1 t.f2.f0 t.f2.f1 t.f2.f2 t.f2.f3 v.1 v.2.1 v.2.2.1 v.2.2.2.1 v.2.2.2.2
def encT (t : S41) : List Value := [.string t.f0, .int .i64 t.f1, .int .i64 t.f2.f0, .string t.f2.f1, .int .i64 t.f2.f2, .bool t.f2.f3]
theorem holds_calls {k : Nat} {t : S41} {x : S34} {s : Sp} {r : Bool} {w : World} (hx : Is w s x) (h : holdF k t x = some r) :
    Calls Try.prog 15 #[.agg (encT t).toArray, .agg (encS s).toArray] w fun e w' => e = .returned (.bool r) ∧ Below w.heap.size w w' := by
  obtain ⟨A8, c8, A9, c9, A10, c10, he, l8, g8, l9, g9, l10, g10⟩ := k34_open hx
  rw [he]
  unfold holdF at h
  cases hn : numI x.f0 x.f1 x.f2 x.f5 x.f6 x.f7 t.f0 with
  | some n =>
    rw [hn] at h
    exact holds_num t.f0 t.f1 t.f2.f0 t.f2.f1 t.f2.f2 t.f2.f3 x.f0 x.f1 x.f2 x.f3 x.f4 x.f5 x.f6 x.f7 A8 c8 x.f8 A9 c9 x.f9 A10 c10 x.f10 n r w hn h
  | none =>
    rw [hn] at h
    obtain ⟨v, hv, h⟩ := Option.bind_eq_some_iff.1 h
    exact holds_val k t.f0 t.f1 t.f2.f0 t.f2.f1 t.f2.f2 t.f2.f3 x.f0 x.f1 x.f2 x.f3 x.f4 x.f5 x.f6 x.f7 A8 c8 x.f8 A9 c9 x.f9 A10 c10 x.f10 _ _ _ _ _ r w g8 l8 g9 l9 g10 l10 hn hv h
theorem at_T {w : World} {A : Option Addr} {n : Nat} {xs : List S41} (h : Kd.C k41 w A n xs) {k : Nat} {t : S41} (hk : xs[k]? = some t) : ∃ ad, A = some ad ∧ w.cell? (ad.add (k * 6)) = some (.string t.f0) ∧ w.cell? ⟨(ad.add (k * 6)).block, (ad.add (k * 6)).off + 1, none⟩ = some (.int .i64 t.f1) ∧ w.cell? ⟨(ad.add (k * 6)).block, (ad.add (k * 6)).off + 2, none⟩ = some (.int .i64 t.f2.f0) ∧ w.cell? ⟨(ad.add (k * 6)).block, (ad.add (k * 6)).off + 3, none⟩ = some (.string t.f2.f1) ∧ w.cell? ⟨(ad.add (k * 6)).block, (ad.add (k * 6)).off + 4, none⟩ = some (.int .i64 t.f2.f2) ∧ w.cell? ⟨(ad.add (k * 6)).block, (ad.add (k * 6)).off + 5, none⟩ = some (.bool t.f2.f3) := by
  obtain ⟨hkl, hs⟩ := List.getElem?_eq_some_iff.1 hk
  obtain ⟨hn, _, hC⟩ := h
  obtain ⟨ad, e, hcc⟩ := hC (by omega)
  obtain ⟨c, hcl, hK, hc⟩ := hcc k t hk
  have hK := k41_open hK
  subst hK
  have hc : ∀ j u, (encT t)[j]? = some u → w.cell? (ad.add (k * 6 + j)) = some u := hc
  exact ⟨ad, e, hc 0 _ rfl, by rw [← add_field _ _ 1 (by omega)]; exact hc 1 _ rfl, by rw [← add_field _ _ 2 (by omega)]; exact hc 2 _ rfl, by rw [← add_field _ _ 3 (by omega)]; exact hc 3 _ rfl, by rw [← add_field _ _ 4 (by omega)]; exact hc 4 _ rfl, by rw [← add_field _ _ 5 (by omega)]; exact hc 5 _ rfl⟩

set_option maxHeartbeats 2000000 in
/-- filter.Match's closure: does a term not hold? -/
theorem mt1_calls {k : Nat} {t : S41} {x : S34} {s : Sp} {r : Bool} {w : World} {bs : Nat} (hb : w.heap[bs]? = some (.cells (encS s).toArray 34 (0, 0))) (hx : Is w s x) (h : holdF k t x = some r) :
    Calls Try.prog 43 #[.agg (encT t).toArray, .pointer (some ⟨bs, 0, none⟩)] w fun e w' => e = .returned (.bool (!r)) ∧ Below w.heap.size w w' := by
  have hal := below_alloc (Below.refl w.heap.size w) (.cells (encT t).toArray 41)
  have h1 := block_below hb hal
  obtain ⟨x0, x1, x2, x3, x4, x5, x6, x7, x8, x9, x10⟩ := blkS h1
  have h2 := heap_alloc_new w (.cells (encT t).toArray 41)
  have y0 : (w.alloc (.cells (encT t).toArray 41)).cell? ⟨w.heap.size, 0, none⟩ = some (.string t.f0) := (blk_cell h2 0).trans rfl
  have y1 : (w.alloc (.cells (encT t).toArray 41)).cell? ⟨w.heap.size, 1, none⟩ = some (.int .i64 t.f1) := (blk_cell h2 1).trans rfl
  have y2 : (w.alloc (.cells (encT t).toArray 41)).cell? ⟨w.heap.size, 2, none⟩ = some (.int .i64 t.f2.f0) := (blk_cell h2 2).trans rfl
  have y3 : (w.alloc (.cells (encT t).toArray 41)).cell? ⟨w.heap.size, 3, none⟩ = some (.string t.f2.f1) := (blk_cell h2 3).trans rfl
  have y4 : (w.alloc (.cells (encT t).toArray 41)).cell? ⟨w.heap.size, 4, none⟩ = some (.int .i64 t.f2.f2) := (blk_cell h2 4).trans rfl
  have y5 : (w.alloc (.cells (encT t).toArray 41)).cell? ⟨w.heap.size, 5, none⟩ = some (.bool t.f2.f3) := (blk_cell h2 5).trans rfl
  have hcall := holds_calls (hx.below hal) h
  have HCALL := Lib.hid hcall
  have HAL := Lib.hid hal
  clear hcall hal h1 h2 hb hx h
  rw [arr_S] at HCALL
  unfold encT at HCALL HAL y0 y1 y2 y3 y4 y5 x0 x1 x2 x3 x4 x5 x6 x7 x8 x9 x10 ⊢
  go_enter Try.func43, Try.ntmps43
  go_wp2_with fail
  refine HCALL.out.mono ?_
  rintro e w1 ⟨rfl, hb1⟩
  have HB1 := Lib.hid (below_step HAL.out hb1)
  clear hb1 y0 y1 y2 y3 y4 y5 x0 x1 x2 x3 x4 x5 x6 x7 x8 x9 x10 HCALL
  go_wp2
  go_ret
  exact ⟨rfl, HB1.out⟩

set_option maxHeartbeats 4000000 in
set_option maxRecDepth 100000 in
theorem ixt_calls {A : Option Addr} {c : Nat} {ts : List S41} {x : S34} {s : Sp} {p : S41 → Bool} {w : World} {bs : Nat} (hP : ∀ t ∈ ts, ∃ k, holdF k t x = some (p t)) (hb : w.heap[bs]? = some (.cells (encS s).toArray 34 (0, 0))) (hx : Is w s x) (hr : Kd.C k41 w A ts.length ts) (hl : ts.length ≤ c) (hn : ts.length ≤ 1000000) :
    Calls Try.prog 65 #[.slice A ts.length c, .func (.func 43) #[] #[.pointer (some ⟨bs, 0, none⟩)]] w fun e w' => ∃ i : Int, e = .returned (.int .i64 i) ∧ decide (i ≥ 0) = !(ts.all p) ∧ Below w.heap.size w w' := by
  have HP := Lib.hid hP
  have HBS := Lib.hid hb
  have HX := Lib.hid hx
  have HR := Lib.hid hr
  have HN := Lib.hid hn
  clear hP hb hx hr hn
  go_enter Try.func65, Try.ntmps65
  go_wp2
  go_loopw [5, 8] (fun _ i wr => ∃ k : Nat, k ≤ ts.length ∧ i = .int .i64 k ∧ Hid (∀ t ∈ ts.take k, p t = true) ∧ Hid (Below w.heap.size w wr)) (fun _ i _ => ts.length - (intOf i).toNat)
  case atStart => exact ⟨0, by omega, rfl, Lib.hid (fun s hs => by simp at hs), Lib.hid (Below.refl _ _)⟩
  case round =>
    obtain ⟨k, hk, rfl, HA, HB⟩ := hrel
    by_cases hlt : k < ts.length
    · obtain ⟨t, hs⟩ : ∃ t, ts[k]? = some t := ⟨_, List.getElem?_eq_getElem hlt⟩
      obtain ⟨ad, rfl, x0, x1, x2, x3, x4, x5⟩ := at_T (Kd.C_below HR.out HB.out) hs
      have HTk := Lib.hid (show ts.take (k + 1) = ts.take k ++ [t] by
        obtain ⟨hk2, e⟩ := List.getElem?_eq_some_iff.1 hs
        rw [List.take_succ_eq_append_getElem hk2, e])
      have q : (k : Int) < (ts.length : Int) := by omega
      have HK := Lib.hid (show k + 1 ≤ ts.length by omega)
      have HW := Lib.hid (show wrap64 ((k : Int) + 1) = ((k + 1 : Nat) : Int) by have := HN.out; unfold wrap64; omega)
      have HGS := Lib.hid (List.mem_of_getElem? hs)
      obtain ⟨kf, hkf⟩ := HP.out t (List.mem_of_getElem? hs)
      have hcall := mt1_calls (block_below HBS.out HB.out) (HX.out.below HB.out) hkf
      unfold encT at hcall
      have HCALL := Lib.hid hcall
      clear hs hlt hk hcall hkf
      go_wp2_with fail
      refine HCALL.out.mono ?_
      rintro e w1 ⟨rfl, hb⟩
      have HB1 := Lib.hid (below_step HB.out hb)
      clear hb x0 x1 x2 x3 x4 x5
      cases hroot : p t with
      | true =>
        have HRT := Lib.hid hroot
        clear hroot
        go_wp2
        go_roundw
        case rel => exact ⟨k + 1, HK.out, by rw [HW.out], Lib.hid (by rw [HTk.out]; intro y hy; rcases List.mem_append.1 hy with hy | hy; exact HA.out y hy; rw [List.mem_singleton.1 hy]; exact HRT.out), HB1⟩
        case measure => exact meas_up HN.out HK.out
      | false =>
        have HRT := Lib.hid hroot
        clear hroot
        go_wp2
        go_ret
        refine ⟨k, rfl, ?_, HB1.out⟩
        have e1 : ts.all p = false := by
          rw [List.all_eq_false]
          exact ⟨t, HGS.out, by rw [HRT.out]; decide⟩
        rw [e1]
        simp
    · have hkl : k = ts.length := by omega
      subst hkl
      have q : decide ((ts.length : Int) < (ts.length : Int)) = false := decide_eq_false (by omega)
      rw [List.take_length] at HA
      clear hlt hk
      go_wp2
      go_ret
      refine ⟨-1, rfl, ?_, HB.out⟩
      rw [List.all_eq_true.2 HA.out]
      rfl

set_option maxHeartbeats 2000000 in
theorem cft_calls {A : Option Addr} {c : Nat} {ts : List S41} {x : S34} {s : Sp} {p : S41 → Bool} {w : World} {bs : Nat} (hP : ∀ t ∈ ts, ∃ k, holdF k t x = some (p t)) (hb : w.heap[bs]? = some (.cells (encS s).toArray 34 (0, 0))) (hx : Is w s x) (hr : Kd.C k41 w A ts.length ts) (hl : ts.length ≤ c) (hn : ts.length ≤ 1000000) :
    Calls Try.prog 42 #[.slice A ts.length c, .func (.func 43) #[] #[.pointer (some ⟨bs, 0, none⟩)]] w fun e w' => e = .returned (.bool (!(ts.all p))) ∧ Below w.heap.size w w' := by
  have HC := Lib.hid (ixt_calls hP hb hx hr hl hn)
  clear hP hb hx hr hl hn
  go_enter Try.func42, Try.ntmps42
  go_wp2_with fail
  refine HC.out.mono ?_
  rintro e w1 ⟨i, rfl, hi, hb⟩
  have HI := Lib.hid hi
  have HB := Lib.hid hb
  clear hi hb HC
  go_wp2
  go_ret
  exact ⟨by rw [← HI.out]; rfl, HB.out⟩

set_option maxHeartbeats 2000000 in
theorem match_calls {A : Option Addr} {c : Nat} {ts : List S41} {o : Int} {x : S34} {s : Sp} {p : S41 → Bool} {w : World} (hP : ∀ t ∈ ts, ∃ k, holdF k t x = some (p t)) (hx : Is w s x) (hr : Kd.C k41 w A ts.length ts) (hl : ts.length ≤ c) (hn : ts.length ≤ 1000000) :
    Calls Try.prog 16 #[.agg #[.slice A ts.length c, .int .i64 o], .agg (encS s).toArray] w fun e w' => e = .returned (.bool (ts.all p)) ∧ Below w.heap.size w w' := by
  have hal := below_alloc (below_alloc (Below.refl w.heap.size w) (.cells #[.slice A ts.length c, .int .i64 o] 24)) (.cells (encS s).toArray 34)
  have k1 : ((w.alloc (.cells #[.slice A ts.length c, .int .i64 o] 24)).alloc (.cells (encS s).toArray 34)).heap[w.heap.size]? = some (.cells #[.slice A ts.length c, .int .i64 o] 24 (0, 0)) := block_below (heap_alloc_new w _) (below_alloc (Below.refl _ _) _)
  have k2 : ((w.alloc (.cells #[.slice A ts.length c, .int .i64 o] 24)).alloc (.cells (encS s).toArray 34)).heap[(w.alloc (.cells #[.slice A ts.length c, .int .i64 o] 24)).heap.size]? = some (.cells (encS s).toArray 34 (0, 0)) := heap_alloc_new _ _
  rw [show (w.alloc (.cells #[.slice A ts.length c, .int .i64 o] 24)).heap.size = w.heap.size + 1 by simp] at k2
  have y0 : ((w.alloc (.cells #[.slice A ts.length c, .int .i64 o] 24)).alloc (.cells (encS s).toArray 34)).cell? ⟨w.heap.size, 0, none⟩ = some (.slice A ts.length c) := (blk_cell k1 0).trans rfl
  have HC := Lib.hid (cft_calls hP k2 (hx.below hal) (Kd.C_below hr hal) hl hn)
  have HAL := Lib.hid hal
  clear hP hx hr hl hn k1 k2 hal
  rw [arr_S] at HC HAL y0 ⊢
  go_enter Try.func16, Try.ntmps16
  go_wp2_with fail
  refine HC.out.mono ?_
  rintro e w1 ⟨rfl, hb⟩
  have HB := Lib.hid (below_step HAL.out hb)
  clear hb HC y0
  go_wp2
  go_ret
  exact ⟨rfl, HB.out⟩

set_option maxHeartbeats 2000000 in
theorem all1_calls {A : Option Addr} {c : Nat} {ts : List S41} {o : Int} {x : S34} {s : Sp} {p : S41 → Bool} {w : World} {bq : Nat} (hq : w.heap[bq]? = some (.cells #[.slice A ts.length c, .int .i64 o] 24 (0, 0))) (hP : ∀ t ∈ ts, ∃ k, holdF k t x = some (p t)) (hx : Is w s x) (hr : Kd.C k41 w A ts.length ts) (hl : ts.length ≤ c) (hn : ts.length ≤ 1000000) :
    Calls Try.prog 25 #[.agg (encS s).toArray, .pointer (some ⟨bq, 0, none⟩)] w fun e w' => e = .returned (.bool (!(ts.all p))) ∧ Below w.heap.size w w' := by
  have hal := below_alloc (Below.refl w.heap.size w) (.cells (encS s).toArray 34)
  obtain ⟨x0, x1, x2, x3, x4, x5, x6, x7, x8, x9, x10⟩ := blkS (heap_alloc_new w (.cells (encS s).toArray 34))
  have k1 := block_below hq hal
  have y0 : (w.alloc (.cells (encS s).toArray 34)).cell? ⟨bq, 0, none⟩ = some (.slice A ts.length c) := (blk_cell k1 0).trans rfl
  have y1 : (w.alloc (.cells (encS s).toArray 34)).cell? ⟨bq, 1, none⟩ = some (.int .i64 o) := (blk_cell k1 1).trans rfl
  have HC := Lib.hid (match_calls (o := o) hP (hx.below hal) (Kd.C_below hr hal) hl hn)
  have HAL := Lib.hid hal
  clear hP hx hr hl hn k1 hal hq
  rw [arr_S] at HC HAL y0 y1 x0 x1 x2 x3 x4 x5 x6 x7 x8 x9 x10 ⊢
  go_enter Try.func25, Try.ntmps25
  go_wp2_with fail
  refine HC.out.mono ?_
  rintro e w1 ⟨rfl, hb⟩
  have HB := Lib.hid (below_step HAL.out hb)
  clear hb HC y0 y1 x0 x1 x2 x3 x4 x5 x6 x7 x8 x9 x10
  go_wp2
  go_ret
  exact ⟨rfl, HB.out⟩
end Go.Proofs.Ytffggkhahambhaa.Tr

namespace Go.Proofs.Ytffggkhahambhaa.PAll
open Go.RowKit Go.Proofs.YtffggkhahambhaaW.PrintWords Go.Proofs.YtffggkhahambhaaW.PrintLast Go.Proofs.YtffggkhahambhaaW.PrintMore
set_option linter.unusedVariables false
set_option linter.unusedSimpArgs false
set_option maxHeartbeats 8000000 in
set_option maxRecDepth 100000 in
theorem key_Primary.callsR (k : Nat) (a0_0 : Int) (a0_1 : Int) (a0_2 : Int) (a0_3 : ByteArray) (a0_4 : ByteArray) (a0_5 : Int) (a0_6 : Int) (a0_7 : Int) (A0_8 : Option Addr) (c0_8 : Nat) (n0_8 : Nat) (A0_9 : Option Addr) (c0_9 : Nat) (n0_9 : Nat) (A0_10 : Option Addr) (c0_10 : Nat) (n0_10 : Nat) (r : List Int) (w : World) (h : key_Primary.f k a0_0 a0_1 a0_2 a0_3 a0_4 a0_5 a0_6 a0_7 [] [] [] = some r) :
  Calls Try.prog 44 #[.agg #[.int .u64 a0_0, .int .u64 a0_1, .int .u64 a0_2, .string a0_3, .string a0_4, .int .i64 a0_5, .int .i64 a0_6, .int .i64 a0_7, .slice A0_8 n0_8 c0_8, .slice A0_9 n0_9 c0_9, .slice A0_10 n0_10 c0_10]] w fun e w' => ∃ v0_ : Value, e = .returned (v0_) ∧ Kd.R (Kd.int .u8) 5 w' w.heap.size (fun _ => True) v0_ r ∧ Below w.heap.size w w' := by
 have hu34 := Try.underlying34
 have HB := Aside0.mk (Below.refl w.heap.size w)
 have H : ((num_Key.f k a0_0).bind fun t136 => ((num_Key.f k a0_1).bind fun t139 => (if t136.length + t139.length < 140737488355328 then (some (t136 ++ t139)) else (none)))) = some r := h
 clear h
 replace H := Option.bind_eq_some_iff.mp H
 obtain ⟨t136, A20, H⟩ := H
 replace H : ((num_Key.f k a0_1).bind fun t139 => (if t136.length + t139.length < 140737488355328 then (some (t136 ++ t139)) else (none))) = some r := H
 have A2 := Aside0.mk A20
 clear A20
 replace H := Option.bind_eq_some_iff.mp H
 obtain ⟨t139, A30, H⟩ := H
 replace H : (if t136.length + t139.length < 140737488355328 then (some (t136 ++ t139)) else (none)) = some r := H
 have A3 := Aside0.mk A30
 clear A30
 by_cases c4 : t136.length + t139.length < 140737488355328
 rotate_left
 ·rw [if_neg c4] at H
  exact absurd H (by simp)

 rw [if_pos c4] at H
 have LMc4 := Aside0.mk c4
 clear c4
 obtain ⟨y142, hy142⟩ : ∃ y_ : List Int, y_ = (t136 ++ t139) := ⟨_, rfl⟩
 replace H : (some y142) = some r := by first | (rw [hy142]; with_reducible exact H) | (have H2_ := (Option.bind_some _ _).symm.trans H; rw [hy142]; with_reducible exact H2_) | (have H2_ := (Option.bind_some _ _).symm.trans H; with_reducible exact H2_) | with_reducible exact H | (rw [hy142]; exact H) | exact H
 have Ny142 := Aside0.mk hy142
 clear hy142
 obtain rfl := Option.some.inj H
 go_enter Try.func44, Try.ntmps44
 try go_wp2_with (first | ((with_reducible refine gate_dst (N := 1) rfl ?_); refine box_event ?hg (N := 1) ?hd (cs := #[.int .u64 a0_0, .int .u64 a0_1, .int .u64 a0_2, .string a0_3, .string a0_4, .int .i64 a0_5, .int .i64 a0_6, .int .i64 a0_7, .slice A0_8 n0_8 c0_8, .slice A0_9 n0_9 c0_9, .slice A0_10 n0_10 c0_10]) (t := 34) ?hr ?_; (case hd => rfl); (case hg => rfl); (case hr => first | (go_simp; done) | (go_simp; rfl)); intro gb135 hg w5 hbox hb; have n0_ := Aside0.mk (below_step q6y1 hb); have n1_ := Aside0.mk (hbox); have n2_ := Aside0.mk ((by rw [hg]; exact (below_size q6y1) : w.heap.size ≤ gb135)); have n3_ := Aside0.mk ((by rw [hg]; exact (below_size q6y1) : w.heap.size ≤ gb135)); clear HB; have HB := n0_; have BK135 := n1_; have GW135 := n2_; have GE135 := n3_; clear n0_ n1_ n2_ n3_; clear hb hbox hg))
 have n0_ := Aside0.mk (blk_drew BK135.out)
 have n1_ := Aside0.mk (below_drew1 HB.out)
 clear BK135
 clear HB
 have BK135 := n0_
 have HB := n1_
 clear n0_ n1_
 refine start_ (n := 8) (S := fun w' => w'.cell? ⟨gb135, 0, none⟩ = some (.int .u64 a0_0) ∧ w'.cell? ⟨gb135, 1, none⟩ = some (.int .u64 a0_1) ∧ w'.cell? ⟨gb135, 2, none⟩ = some (.int .u64 a0_2) ∧ w'.cell? ⟨gb135, 3, none⟩ = some (.string a0_3) ∧ w'.cell? ⟨gb135, 4, none⟩ = some (.string a0_4) ∧ w'.cell? ⟨gb135, 5, none⟩ = some (.int .i64 a0_5) ∧ w'.cell? ⟨gb135, 6, none⟩ = some (.int .i64 a0_6) ∧ w'.cell? ⟨gb135, 7, none⟩ = some (.int .i64 a0_7) ∧ w'.cell? ⟨gb135, 8, none⟩ = some (.slice A0_8 n0_8 c0_8) ∧ w'.cell? ⟨gb135, 9, none⟩ = some (.slice A0_9 n0_9 c0_9) ∧ w'.cell? ⟨gb135, 10, none⟩ = some (.slice A0_10 n0_10 c0_10)) (ds := []) #[false, false, false, false, false, false, false, false] (by kernel_rfl) rfl rfl ⟨q6k BK135.out 0, q6k BK135.out 1, q6k BK135.out 2, q6k BK135.out 3, q6k BK135.out 4, q6k BK135.out 5, q6k BK135.out 6, q6k BK135.out 7, q6k BK135.out 8, q6k BK135.out 9, q6k BK135.out 10⟩ (fun hHeld => ?_); refine with_tabW key_Primary.tab1 key_Primary.bits1 (fun HT_ HW_ => ?_)
 generalize w5.drew = w6 at BK135 HB hHeld ⊢
 refine q6p (i := 0) (N := some 3) (q6m 8 1) HT_.out ?_
 refine q6p (i := 3) (N := some 6) (q6m 8 9) HT_.out ?_
 refine take_ (i := 1) (N := some 4) (v := ?_) (a' := ?_) (q6m 8 11) rfl rfl (take_ofW HT_.out HW_.out (by kernel_rfl)) (fun _ _ _ h => h) (Or.inl ⟨by rfl, ?_⟩) hHeld ?_ ?_; rotate_left; (rintro w' ⟨s0, s1, s2, s3, s4, s5, s6, s7, s8, s9, s10⟩; go_simp; with_reducible rfl); rotate_left; (simp only [Act.put, q6a, q6b, q6c, i64_w, i32_w]; rfl)
 refine take_ (i := 4) (N := some 7) (v := ?_) (a' := ?_) (q6m 8 27) rfl rfl (take_ofW HT_.out HW_.out (by kernel_rfl)) (fun _ _ _ h => h) (Or.inl ⟨by rfl, ?_⟩) hHeld ?_ ?_; rotate_left; (rintro w' ⟨s0, s1, s2, s3, s4, s5, s6, s7, s8, s9, s10⟩; go_simp; with_reducible rfl); rotate_left; (simp only [Act.put, q6a, q6b, q6c, i64_w, i32_w]; rfl)
 refine one_ (i := 2) (N := some 5) (q6m 8 31) rfl rfl (one_of HT_.out (by kernel_rfl)) (by decide) (fun K hK => ?_)
 refine goes_ Try.func45 (by kernel_rfl) rfl #[.int .u64 a0_0] (by rfl) rfl rfl q6y2 ?_
 with_reducible refine (num_Key.calls k a0_0 t136 _ A2.out).mono ?_
 rintro e w7 ⟨v137, rfl, ho0, hb⟩
 refine ⟨_, rfl, ?_⟩
 have n0_ := Aside0.mk (Kd.R_lower ho0 (below_size q6y3))
 have n1_ := Aside0.mk (blk_below (g := gb135) (o := .cells #[.int .u64 a0_0, .int .u64 a0_1, .int .u64 a0_2, .string a0_3, .string a0_4, .int .i64 a0_5, .int .i64 a0_6, .int .i64 a0_7, .slice A0_8 n0_8 c0_8, .slice A0_9 n0_9 c0_9, .slice A0_10 n0_10 c0_10] 34 (0, 0)) q6y5 hb)
 have n2_ := Aside0.mk (below_step q6y3 hb)
 clear BK135
 clear HB
 have HO138 := n0_
 have BK135 := n1_
 have HB := n2_
 clear n0_ n1_ n2_
 (try clear hb)
 (try clear hb2)
 (try clear hk)
 (try clear hi)
 (try clear ho0)
 refine hK.out _ _ ⟨q6k BK135.out 0, q6k BK135.out 1, q6k BK135.out 2, q6k BK135.out 3, q6k BK135.out 4, q6k BK135.out 5, q6k BK135.out 6, q6k BK135.out 7, q6k BK135.out 8, q6k BK135.out 9, q6k BK135.out 10⟩ (fun hHeld => ?_)
 clear hK K
 refine norm_ (a' := ?_) ?_ ?_
 rotate_left
 ·show Act.put _ (some 5) _ = _
  simp only [Act.put, q6a, q6b, q6c, i64_w, i32_w]
  rfl
 refine one_ (i := 5) (N := some 8) (q6m 8 63) rfl rfl (one_of HT_.out (by kernel_rfl)) (by decide) (fun K hK => ?_)
 refine goes_ Try.func45 (by kernel_rfl) rfl #[.int .u64 a0_1] (by rfl) rfl rfl q6y2 ?_
 with_reducible refine (num_Key.calls k a0_1 t139 _ A3.out).mono ?_
 rintro e w8 ⟨v140, rfl, ho0, hb⟩
 refine ⟨_, rfl, ?_⟩
 have n0_ := Aside0.mk (Kd.R_elder' (by (with_reducible repeat (first | apply Kd.R_alloc | apply Kd.R_drewN | apply Kd.R_drew)); exact HO138.out) (Kd.R_base ho0) hb)
 have n1_ := Aside0.mk (Kd.R_lower (Kd.R_new' ho0 (Kd.R_lt (by (with_reducible repeat (first | apply Kd.R_alloc | apply Kd.R_drewN | apply Kd.R_drew)); exact HO138.out))) (below_size q6y3))
 have n2_ := Aside0.mk (blk_below (g := gb135) (o := .cells #[.int .u64 a0_0, .int .u64 a0_1, .int .u64 a0_2, .string a0_3, .string a0_4, .int .i64 a0_5, .int .i64 a0_6, .int .i64 a0_7, .slice A0_8 n0_8 c0_8, .slice A0_9 n0_9 c0_9, .slice A0_10 n0_10 c0_10] 34 (0, 0)) q6y5 hb)
 have n3_ := Aside0.mk (below_step q6y3 hb)
 clear HO138
 clear BK135
 clear HB
 have HO138 := n0_
 have HO141 := n1_
 have BK135 := n2_
 have HB := n3_
 clear n0_ n1_ n2_ n3_
 (try clear hb)
 (try clear hb2)
 (try clear hk)
 (try clear hi)
 (try clear ho0)
 obtain ⟨Ao10, co10, eo10⟩ := Kd.R_slice HO141.out
 (first | subst eo10 | (injection eo10 with f1_ f2_ f3_; have f4_ := f1_.symm; have f5_ := f3_.symm; clear f1_ f2_ f3_; subst f4_; subst f5_))
 refine hK.out _ _ ⟨q6k BK135.out 0, q6k BK135.out 1, q6k BK135.out 2, q6k BK135.out 3, q6k BK135.out 4, q6k BK135.out 5, q6k BK135.out 6, q6k BK135.out 7, q6k BK135.out 8, q6k BK135.out 9, q6k BK135.out 10⟩ (fun hHeld => ?_)
 clear hK K
 refine norm_ (a' := ?_) ?_ ?_
 rotate_left
 ·show Act.put _ (some 8) _ = _
  simp only [Act.put, q6a, q6b, q6c, i64_w, i32_w]
  rfl
 refine one_ (i := 6) (N := some 9) (q6m 8 127) rfl rfl (one_of HT_.out (by kernel_rfl)) (by decide) (fun K hK => ?_)
 refine Kd.R_append_rows_step (Kd.int .u8) (w0 := w) w.heap.size (by rfl) (.tmp 5) (.tmp 8) 50 5 (.int .u8 0) 1 rfl Try.underlying50 info5 rfl (by decide) (by omega) v137 t136 t139 _ _ _ (fun k_ => some k_ ≠ (.slice Ao10 t139.length co10 : Value).ownBlock) (fun _ => False) rfl rfl ?aO ?aR (fun _ _ h => h) (fun _ h => h.elim) ?aF ?aB ?aS ?aL ?_
 (case aR => repeat (first | exact (Kd.R_reads' HO141.out).2.2 | (with_reducible refine Kd.C_alloc ?_ _) | (with_reducible refine Kd.C_drewN ?_ _) | (with_reducible refine Kd.C_drew ?_)))
 (case aB => exact q6y3)
 (case aF => exact (fun k_ hk => Kd.fresh' (Kd.R_lt (by (with_reducible repeat (first | apply Kd.R_alloc | apply Kd.R_drewN | apply Kd.R_drew)); exact HO141.out)) k_ hk))
 (case aO => exact (by (with_reducible repeat (first | apply Kd.R_alloc | apply Kd.R_drewN | apply Kd.R_drew)); exact Kd.R_mono HO138.out (fun _ hk => hk.2)))
 (case aS => exact (below_size q6y3))
 (case aL => have := LMc4.out; omega)
 intro v143 w9 ho hb hg hat
 rw [← Ny142.out] at ho
 have n0_ := Aside0.mk (blk_grown (g := gb135) (o := .cells #[.int .u64 a0_0, .int .u64 a0_1, .int .u64 a0_2, .string a0_3, .string a0_4, .int .i64 a0_5, .int .i64 a0_6, .int .i64 a0_7, .slice A0_8 n0_8 c0_8, .slice A0_9 n0_9 c0_9, .slice A0_10 n0_10 c0_10] 34 (0, 0)) q6y5 hg (Kd.R_ne HO138.out BK135.out (by decide)))
 have n1_ := Aside0.mk (Kd.R_after (ok := (fun _ => True)) (by (with_reducible repeat (first | apply Kd.R_alloc | apply Kd.R_drewN | apply Kd.R_drew)); exact HO141.out) hg hat)
 have n2_ := Aside0.mk (hb)
 have n3_ := Aside0.mk (ho)
 clear BK135
 clear HO141
 clear HB
 clear HO138
 have BK135 := n0_
 have HO141 := n1_
 have HB := n2_
 have HO144 := n3_
 clear n0_ n1_ n2_ n3_
 clear ho hb hg hat
 refine hK.out _ _ ⟨q6k BK135.out 0, q6k BK135.out 1, q6k BK135.out 2, q6k BK135.out 3, q6k BK135.out 4, q6k BK135.out 5, q6k BK135.out 6, q6k BK135.out 7, q6k BK135.out 8, q6k BK135.out 9, q6k BK135.out 10⟩ (fun hHeld => ?_)
 clear hK K
 refine norm_ (a' := ?_) ?_ ?_
 rotate_left
 ·show Act.put _ (some 9) _ = _
  simp only [Act.put, q6a, q6b, q6c, i64_w, i32_w]
  rfl
 refine q6p (i := 7) (N := some 2) (q6m 8 255) HT_.out ?_
 refine done_ (done_of HT_.out (by kernel_rfl)) ?_
 try go_wp2
 go_ret
 exact ⟨_, by first | rfl | (simp [errW_none, errW_some] <;> rfl) | (simp [*, errW_none, errW_some] <;> rfl), by (with_reducible repeat (first | apply Kd.R_alloc | apply Kd.R_drewN | apply Kd.R_drew)); exact Kd.R_mono HO144.out (fun _ hk => trivial), by repeat (first | (with_reducible first | exact HB.out | apply below_alloc | apply pw_below_drewN | apply below_drew1 | refine below_set ?_ GE135.out) | exact HB.out)⟩
/-! ### filter_Key: function 17 -/
set_option maxHeartbeats 8000000 in
set_option maxRecDepth 100000 in
theorem filter_Key.callsR (k : Nat) (a0 : Int) (a1_0 : Int) (a1_1 : Int) (a1_2 : Int) (a1_3 : ByteArray) (a1_4 : ByteArray) (a1_5 : Int) (a1_6 : Int) (a1_7 : Int) (A1_8 : Option Addr) (c1_8 : Nat) (n1_8 : Nat) (A1_9 : Option Addr) (c1_9 : Nat) (n1_9 : Nat) (A1_10 : Option Addr) (c1_10 : Nat) (n1_10 : Nat) (r : List Int) (w : World) (h : filter_Key.f k a0 a1_0 a1_1 a1_2 a1_3 a1_4 a1_5 a1_6 a1_7 [] [] [] = some r) :
  Calls Try.prog 17 #[.int .i64 a0, .agg #[.int .u64 a1_0, .int .u64 a1_1, .int .u64 a1_2, .string a1_3, .string a1_4, .int .i64 a1_5, .int .i64 a1_6, .int .i64 a1_7, .slice A1_8 n1_8 c1_8, .slice A1_9 n1_9 c1_9, .slice A1_10 n1_10 c1_10]] w fun e w' => ∃ v0_ : Value, e = .returned (v0_) ∧ Kd.R (Kd.int .u8) 5 w' w.heap.size (fun _ => True) v0_ r ∧ Below w.heap.size w w' := by
 have hu34 := Try.underlying34
 have HB := Aside0.mk (Below.refl w.heap.size w)
 have H : (if a0 = 0 then ((key_Primary.f k a1_0 a1_1 a1_2 a1_3 a1_4 a1_5 a1_6 a1_7 [] [] []).bind fun t146 => (some t146)) else (if a0 = 1 then ((num_Key.f k (IntKind.u64.wrap (a1_5))).bind fun t149 => ((key_Primary.f k a1_0 a1_1 a1_2 a1_3 a1_4 a1_5 a1_6 a1_7 [] [] []).bind fun t152 => (if t149.length + t152.length < 140737488355328 then (some (t149 ++ t152)) else (none)))) else (if a0 = 2 then ((num_Key.f k (IntKind.u64.wrap (a1_6))).bind fun t158 => ((key_Primary.f k a1_0 a1_1 a1_2 a1_3 a1_4 a1_5 a1_6 a1_7 [] [] []).bind fun t161 => (if t158.length + t161.length < 140737488355328 then (some (t158 ++ t161)) else (none)))) else (some ([] : List Int))))) = some r := h
 clear h
 by_cases c3 : a0 = 0
 ·rw [if_pos c3] at H
  have c3b0 : (a0 == 0) = true := beq_iff_eq.mpr c3
  have c3b1 : (a0 != 0) = false := bne_eq_false_iff_eq.mpr c3
  clear c3
  replace H := Option.bind_eq_some_iff.mp H
  obtain ⟨t146, A40, H⟩ := H
  replace H : (some t146) = some r := H
  have A4 := Aside0.mk A40
  clear A40
  obtain rfl := Option.some.inj H
  go_enter Try.func17, Try.ntmps17
  go_wp2_with (first | ((with_reducible refine gate_dst (N := 3) rfl ?_); refine box_event ?hg (N := 3) ?hd (cs := #[.int .u64 a1_0, .int .u64 a1_1, .int .u64 a1_2, .string a1_3, .string a1_4, .int .i64 a1_5, .int .i64 a1_6, .int .i64 a1_7, .slice A1_8 n1_8 c1_8, .slice A1_9 n1_9 c1_9, .slice A1_10 n1_10 c1_10]) (t := 34) ?hr ?_; (case hd => rfl); (case hg => rfl); (case hr => first | (go_simp; done) | (go_simp; rfl)); intro gb145 hg w5 hbox hb; have n0_ := Aside0.mk (below_step q6y1 hb); have n1_ := Aside0.mk (hbox); have n2_ := Aside0.mk ((by rw [hg]; exact (below_size q6y1) : w.heap.size ≤ gb145)); have n3_ := Aside0.mk ((by rw [hg]; exact (below_size q6y1) : w.heap.size ≤ gb145)); clear HB; have HB := n0_; have BK145 := n1_; have GW145 := n2_; have GE145 := n3_; clear n0_ n1_ n2_ n3_; clear hb hbox hg; have hcz6_0 : w5.cell? ⟨gb145, 0, none⟩ = some (.int .u64 a1_0) := (blk_cell BK145.out 0).trans rfl; have hcz6_1 : w5.cell? ⟨gb145, 1, none⟩ = some (.int .u64 a1_1) := (blk_cell BK145.out 1).trans rfl; have hcz6_2 : w5.cell? ⟨gb145, 2, none⟩ = some (.int .u64 a1_2) := (blk_cell BK145.out 2).trans rfl; have hcz6_3 : w5.cell? ⟨gb145, 3, none⟩ = some (.string a1_3) := (blk_cell BK145.out 3).trans rfl; have hcz6_4 : w5.cell? ⟨gb145, 4, none⟩ = some (.string a1_4) := (blk_cell BK145.out 4).trans rfl; have hcz6_5 : w5.cell? ⟨gb145, 5, none⟩ = some (.int .i64 a1_5) := (blk_cell BK145.out 5).trans rfl; have hcz6_6 : w5.cell? ⟨gb145, 6, none⟩ = some (.int .i64 a1_6) := (blk_cell BK145.out 6).trans rfl; have hcz6_7 : w5.cell? ⟨gb145, 7, none⟩ = some (.int .i64 a1_7) := (blk_cell BK145.out 7).trans rfl; have hcz6_8 : w5.cell? ⟨gb145, 8, none⟩ = some (.slice A1_8 n1_8 c1_8) := (blk_cell BK145.out 8).trans rfl; have hcz6_9 : w5.cell? ⟨gb145, 9, none⟩ = some (.slice A1_9 n1_9 c1_9) := (blk_cell BK145.out 9).trans rfl; have hcz6_10 : w5.cell? ⟨gb145, 10, none⟩ = some (.slice A1_10 n1_10 c1_10) := (blk_cell BK145.out 10).trans rfl; have hfz6_0 := blk_frozen BK145.out 0; have hfz6_1 := blk_frozen BK145.out 1; have hfz6_2 := blk_frozen BK145.out 2; have hfz6_3 := blk_frozen BK145.out 3; have hfz6_4 := blk_frozen BK145.out 4; have hfz6_5 := blk_frozen BK145.out 5; have hfz6_6 := blk_frozen BK145.out 6; have hfz6_7 := blk_frozen BK145.out 7; have hfz6_8 := blk_frozen BK145.out 8; have hfz6_9 := blk_frozen BK145.out 9; have hfz6_10 := blk_frozen BK145.out 10) | ((with_reducible refine gate_callee (f := 44) rfl ?_); refine goesL_ (some 9) rfl rfl Try.func44 (by kernel_rfl) rfl #[.agg #[.int .u64 a1_0, .int .u64 a1_1, .int .u64 a1_2, .string a1_3, .string a1_4, .int .i64 a1_5, .int .i64 a1_6, .int .i64 a1_7, .slice A1_8 n1_8 c1_8, .slice A1_9 n1_9 c1_9, .slice A1_10 n1_10 c1_10]] rfl q6y2 ?_; (with_reducible refine (key_Primary.callsR k a1_0 a1_1 a1_2 a1_3 a1_4 a1_5 a1_6 a1_7 _ _ n1_8 _ _ n1_9 _ _ n1_10 t146 _ A4.out).mono ?_); rintro e w7 ⟨v147, rfl, ho0, hb⟩; refine ⟨_, rfl, ?_⟩; have n0_ := Aside0.mk (Kd.R_lower ho0 (below_size q6y0)); have n1_ := Aside0.mk (blk_below (g := gb145) (o := .cells #[.int .u64 a1_0, .int .u64 a1_1, .int .u64 a1_2, .string a1_3, .string a1_4, .int .i64 a1_5, .int .i64 a1_6, .int .i64 a1_7, .slice A1_8 n1_8 c1_8, .slice A1_9 n1_9 c1_9, .slice A1_10 n1_10 c1_10] 34 (0, 0)) q6y4 hb); have n2_ := Aside0.mk (below_step q6y0 hb); clear BK145; clear HB; have HO148 := n0_; have BK145 := n1_; have HB := n2_; clear n0_ n1_ n2_; (try clear hb); (try clear hb2); (try clear hk); (try clear hi); (try clear ho0)))
  go_ret
  exact ⟨_, by first | rfl | (simp [errW_none, errW_some] <;> rfl) | (simp [*, errW_none, errW_some] <;> rfl), by (with_reducible repeat (first | apply Kd.R_alloc | apply Kd.R_drewN | apply Kd.R_drew)); exact HO148.out, by repeat (first | (with_reducible first | exact HB.out | apply below_alloc | apply pw_below_drewN | apply below_drew1 | refine below_set ?_ GE145.out) | exact HB.out)⟩
 rw [if_neg c3] at H
 have c3b0 : (a0 == 0) = false := beq_eq_false_iff_ne.mpr c3
 have c3b1 : (a0 != 0) = true := bne_iff_ne.mpr c3
 by_cases c8 : a0 = 1
 ·rw [if_pos c8] at H
  have c8b0 : (a0 == 1) = true := beq_iff_eq.mpr c8
  have c8b1 : (a0 != 1) = false := bne_eq_false_iff_eq.mpr c8
  clear c8
  replace H := Option.bind_eq_some_iff.mp H
  obtain ⟨t149, A90, H⟩ := H
  replace H : ((key_Primary.f k a1_0 a1_1 a1_2 a1_3 a1_4 a1_5 a1_6 a1_7 [] [] []).bind fun t152 => (if t149.length + t152.length < 140737488355328 then (some (t149 ++ t152)) else (none))) = some r := H
  have A9 := Aside0.mk A90
  clear A90
  replace H := Option.bind_eq_some_iff.mp H
  obtain ⟨t152, A100, H⟩ := H
  replace H : (if t149.length + t152.length < 140737488355328 then (some (t149 ++ t152)) else (none)) = some r := H
  have A10 := Aside0.mk A100
  clear A100
  by_cases c11 : t149.length + t152.length < 140737488355328
  rotate_left
  ·rw [if_neg c11] at H
   exact absurd H (by simp)
  rw [if_pos c11] at H
  have LMc11 := Aside0.mk c11
  clear c11
  obtain ⟨y155, hy155⟩ : ∃ y_ : List Int, y_ = (t149 ++ t152) := ⟨_, rfl⟩
  replace H : (some y155) = some r := by first | (rw [hy155]; with_reducible exact H) | (have H2_ := (Option.bind_some _ _).symm.trans H; rw [hy155]; with_reducible exact H2_) | (have H2_ := (Option.bind_some _ _).symm.trans H; with_reducible exact H2_) | with_reducible exact H | (rw [hy155]; exact H) | exact H
  have Ny155 := Aside0.mk hy155
  clear hy155
  obtain rfl := Option.some.inj H
  go_enter Try.func17, Try.ntmps17
  try go_wp2_with (first | ((with_reducible refine gate_dst (N := 3) rfl ?_); refine box_event ?hg (N := 3) ?hd (cs := #[.int .u64 a1_0, .int .u64 a1_1, .int .u64 a1_2, .string a1_3, .string a1_4, .int .i64 a1_5, .int .i64 a1_6, .int .i64 a1_7, .slice A1_8 n1_8 c1_8, .slice A1_9 n1_9 c1_9, .slice A1_10 n1_10 c1_10]) (t := 34) ?hr ?_; (case hd => rfl); (case hg => rfl); (case hr => first | (go_simp; done) | (go_simp; rfl)); intro gb145 hg w12 hbox hb; have n0_ := Aside0.mk (below_step q6y1 hb); have n1_ := Aside0.mk (hbox); have n2_ := Aside0.mk ((by rw [hg]; exact (below_size q6y1) : w.heap.size ≤ gb145)); have n3_ := Aside0.mk ((by rw [hg]; exact (below_size q6y1) : w.heap.size ≤ gb145)); clear HB; have HB := n0_; have BK145 := n1_; have GW145 := n2_; have GE145 := n3_; clear n0_ n1_ n2_ n3_; clear hb hbox hg))
  have n0_ := Aside0.mk (blk_drew BK145.out)
  have n1_ := Aside0.mk (below_drew1 HB.out)
  clear BK145
  clear HB
  have BK145 := n0_
  have HB := n1_
  clear n0_ n1_
  refine start_ (n := 8) (S := fun w' => w'.cell? ⟨gb145, 0, none⟩ = some (.int .u64 a1_0) ∧ w'.cell? ⟨gb145, 1, none⟩ = some (.int .u64 a1_1) ∧ w'.cell? ⟨gb145, 2, none⟩ = some (.int .u64 a1_2) ∧ w'.cell? ⟨gb145, 3, none⟩ = some (.string a1_3) ∧ w'.cell? ⟨gb145, 4, none⟩ = some (.string a1_4) ∧ w'.cell? ⟨gb145, 5, none⟩ = some (.int .i64 a1_5) ∧ w'.cell? ⟨gb145, 6, none⟩ = some (.int .i64 a1_6) ∧ w'.cell? ⟨gb145, 7, none⟩ = some (.int .i64 a1_7) ∧ w'.cell? ⟨gb145, 8, none⟩ = some (.slice A1_8 n1_8 c1_8) ∧ w'.cell? ⟨gb145, 9, none⟩ = some (.slice A1_9 n1_9 c1_9) ∧ w'.cell? ⟨gb145, 10, none⟩ = some (.slice A1_10 n1_10 c1_10)) (ds := []) #[false, false, false, false, false, false, false, false] (by kernel_rfl) rfl rfl ⟨q6k BK145.out 0, q6k BK145.out 1, q6k BK145.out 2, q6k BK145.out 3, q6k BK145.out 4, q6k BK145.out 5, q6k BK145.out 6, q6k BK145.out 7, q6k BK145.out 8, q6k BK145.out 9, q6k BK145.out 10⟩ (fun hHeld => ?_); refine with_tabW filter_Key.tab5 filter_Key.bits5 (fun HT_ HW_ => ?_)
  generalize w12.drew = w13 at BK145 HB hHeld ⊢
  refine q6p (i := 0) (N := some 12) (q6m 8 1) HT_.out ?_
  refine take_ (i := 1) (N := some 13) (v := ?_) (a' := ?_) (q6m 8 3) rfl rfl (take_ofW HT_.out HW_.out (by kernel_rfl)) (fun _ _ _ h => h) (Or.inl ⟨by rfl, ?_⟩) hHeld ?_ ?_; rotate_left; (rintro w' ⟨s0, s1, s2, s3, s4, s5, s6, s7, s8, s9, s10⟩; go_simp; with_reducible rfl); rotate_left; (simp only [Act.put, q6a, q6b, q6c, i64_w, i32_w]; rfl)
  refine q6p (i := 2) (N := some 14) (q6m 8 7) HT_.out ?_
  refine take_ (i := 4) (N := some 16) (v := ?_) (a' := ?_) (q6m 8 23) rfl rfl (take_ofW HT_.out HW_.out (by kernel_rfl)) (fun _ _ _ h => h) (Or.inl ⟨by rfl, ?_⟩) hHeld ?_ ?_; rotate_left; (rintro w' ⟨s0, s1, s2, s3, s4, s5, s6, s7, s8, s9, s10⟩; go_simp; with_reducible rfl); rotate_left; (simp only [Act.put, q6a, q6b, q6c, i64_w, i32_w]; rfl)
  refine one_ (i := 3) (N := some 15) (q6m 8 31) rfl rfl (one_of HT_.out (by kernel_rfl)) (by decide) (fun K hK => ?_)
  refine goes_ Try.func45 (by kernel_rfl) rfl #[.int .u64 (IntKind.u64.wrap (a1_5))] (by rfl) rfl rfl q6y2 ?_
  with_reducible refine (num_Key.calls k (IntKind.u64.wrap (a1_5)) t149 _ A9.out).mono ?_
  rintro e w14 ⟨v150, rfl, ho0, hb⟩
  refine ⟨_, rfl, ?_⟩
  have n0_ := Aside0.mk (Kd.R_lower ho0 (below_size q6y0))
  have n1_ := Aside0.mk (blk_below (g := gb145) (o := .cells #[.int .u64 a1_0, .int .u64 a1_1, .int .u64 a1_2, .string a1_3, .string a1_4, .int .i64 a1_5, .int .i64 a1_6, .int .i64 a1_7, .slice A1_8 n1_8 c1_8, .slice A1_9 n1_9 c1_9, .slice A1_10 n1_10 c1_10] 34 (0, 0)) q6y4 hb)
  have n2_ := Aside0.mk (below_step q6y0 hb)
  clear BK145
  clear HB
  have HO151 := n0_
  have BK145 := n1_
  have HB := n2_
  clear n0_ n1_ n2_
  (try clear hb)
  (try clear hb2)
  (try clear hk)
  (try clear hi)
  (try clear ho0)
  refine hK.out _ _ ⟨q6k BK145.out 0, q6k BK145.out 1, q6k BK145.out 2, q6k BK145.out 3, q6k BK145.out 4, q6k BK145.out 5, q6k BK145.out 6, q6k BK145.out 7, q6k BK145.out 8, q6k BK145.out 9, q6k BK145.out 10⟩ (fun hHeld => ?_)
  clear hK K
  refine norm_ (a' := ?_) ?_ ?_
  rotate_left
  ·show Act.put _ (some 15) _ = _
   simp only [Act.put, q6a, q6b, q6c, i64_w, i32_w]
   rfl
  refine one_ (i := 5) (N := some 17) (q6m 8 63) rfl rfl (one_of HT_.out (by kernel_rfl)) (by decide) (fun K hK => ?_)
  refine goes_ Try.func44 (by kernel_rfl) rfl #[.agg #[.int .u64 a1_0, .int .u64 a1_1, .int .u64 a1_2, .string a1_3, .string a1_4, .int .i64 a1_5, .int .i64 a1_6, .int .i64 a1_7, .slice A1_8 n1_8 c1_8, .slice A1_9 n1_9 c1_9, .slice A1_10 n1_10 c1_10]] (by rfl) rfl rfl q6y2 ?_
  with_reducible refine (key_Primary.callsR k a1_0 a1_1 a1_2 a1_3 a1_4 a1_5 a1_6 a1_7 _ _ n1_8 _ _ n1_9 _ _ n1_10 t152 _ A10.out).mono ?_
  rintro e w15 ⟨v153, rfl, ho0, hb⟩
  refine ⟨_, rfl, ?_⟩
  have n0_ := Aside0.mk (Kd.R_elder' (by (with_reducible repeat (first | apply Kd.R_alloc | apply Kd.R_drewN | apply Kd.R_drew)); exact HO151.out) (Kd.R_base ho0) hb)
  have n1_ := Aside0.mk (Kd.R_lower (Kd.R_new' ho0 (Kd.R_lt (by (with_reducible repeat (first | apply Kd.R_alloc | apply Kd.R_drewN | apply Kd.R_drew)); exact HO151.out))) (below_size q6y0))
  have n2_ := Aside0.mk (blk_below (g := gb145) (o := .cells #[.int .u64 a1_0, .int .u64 a1_1, .int .u64 a1_2, .string a1_3, .string a1_4, .int .i64 a1_5, .int .i64 a1_6, .int .i64 a1_7, .slice A1_8 n1_8 c1_8, .slice A1_9 n1_9 c1_9, .slice A1_10 n1_10 c1_10] 34 (0, 0)) q6y4 hb)
  have n3_ := Aside0.mk (below_step q6y0 hb)
  clear HO151
  clear BK145
  clear HB
  have HO151 := n0_
  have HO154 := n1_
  have BK145 := n2_
  have HB := n3_
  clear n0_ n1_ n2_ n3_
  (try clear hb)
  (try clear hb2)
  (try clear hk)
  (try clear hi)
  (try clear ho0)
  obtain ⟨Ao17, co17, eo17⟩ := Kd.R_slice HO154.out
  (first | subst eo17 | (injection eo17 with f1_ f2_ f3_; have f4_ := f1_.symm; have f5_ := f3_.symm; clear f1_ f2_ f3_; subst f4_; subst f5_))
  refine hK.out _ _ ⟨q6k BK145.out 0, q6k BK145.out 1, q6k BK145.out 2, q6k BK145.out 3, q6k BK145.out 4, q6k BK145.out 5, q6k BK145.out 6, q6k BK145.out 7, q6k BK145.out 8, q6k BK145.out 9, q6k BK145.out 10⟩ (fun hHeld => ?_)
  clear hK K
  refine norm_ (a' := ?_) ?_ ?_
  rotate_left
  ·show Act.put _ (some 17) _ = _
   simp only [Act.put, q6a, q6b, q6c, i64_w, i32_w]
   rfl
  refine one_ (i := 6) (N := some 18) (q6m 8 127) rfl rfl (one_of HT_.out (by kernel_rfl)) (by decide) (fun K hK => ?_)
  refine Kd.R_append_rows_step (Kd.int .u8) (w0 := w) w.heap.size (by rfl) (.tmp 15) (.tmp 17) 50 5 (.int .u8 0) 1 rfl Try.underlying50 info5 rfl (by decide) (by omega) v150 t149 t152 _ _ _ (fun k_ => some k_ ≠ (.slice Ao17 t152.length co17 : Value).ownBlock) (fun _ => False) rfl rfl ?aO ?aR (fun _ _ h => h) (fun _ h => h.elim) ?aF ?aB ?aS ?aL ?_
  (case aR => repeat (first | exact (Kd.R_reads' HO154.out).2.2 | (with_reducible refine Kd.C_alloc ?_ _) | (with_reducible refine Kd.C_drewN ?_ _) | (with_reducible refine Kd.C_drew ?_)))
  (case aB => exact q6y0)
  (case aF => exact (fun k_ hk => Kd.fresh' (Kd.R_lt (by (with_reducible repeat (first | apply Kd.R_alloc | apply Kd.R_drewN | apply Kd.R_drew)); exact HO154.out)) k_ hk))
  (case aO => exact (by (with_reducible repeat (first | apply Kd.R_alloc | apply Kd.R_drewN | apply Kd.R_drew)); exact Kd.R_mono HO151.out (fun _ hk => hk.2)))
  (case aS => exact (below_size q6y0))
  (case aL => have := LMc11.out; omega)
  intro v156 w16 ho hb hg hat
  rw [← Ny155.out] at ho
  have n0_ := Aside0.mk (blk_grown (g := gb145) (o := .cells #[.int .u64 a1_0, .int .u64 a1_1, .int .u64 a1_2, .string a1_3, .string a1_4, .int .i64 a1_5, .int .i64 a1_6, .int .i64 a1_7, .slice A1_8 n1_8 c1_8, .slice A1_9 n1_9 c1_9, .slice A1_10 n1_10 c1_10] 34 (0, 0)) q6y4 hg (Kd.R_ne HO151.out BK145.out (by decide)))
  have n1_ := Aside0.mk (Kd.R_after (ok := (fun _ => True)) (by (with_reducible repeat (first | apply Kd.R_alloc | apply Kd.R_drewN | apply Kd.R_drew)); exact HO154.out) hg hat)
  have n2_ := Aside0.mk (hb)
  have n3_ := Aside0.mk (ho)
  clear BK145
  clear HO154
  clear HB
  clear HO151
  have BK145 := n0_
  have HO154 := n1_
  have HB := n2_
  have HO157 := n3_
  clear n0_ n1_ n2_ n3_
  clear ho hb hg hat
  refine hK.out _ _ ⟨q6k BK145.out 0, q6k BK145.out 1, q6k BK145.out 2, q6k BK145.out 3, q6k BK145.out 4, q6k BK145.out 5, q6k BK145.out 6, q6k BK145.out 7, q6k BK145.out 8, q6k BK145.out 9, q6k BK145.out 10⟩ (fun hHeld => ?_)
  clear hK K
  refine norm_ (a' := ?_) ?_ ?_
  rotate_left
  ·show Act.put _ (some 18) _ = _
   simp only [Act.put, q6a, q6b, q6c, i64_w, i32_w]
   rfl
  refine q6p (i := 7) (N := some 4) (q6m 8 255) HT_.out ?_
  refine done_ (done_of HT_.out (by kernel_rfl)) ?_
  try go_wp2
  go_ret
  exact ⟨_, by first | rfl | (simp [errW_none, errW_some] <;> rfl) | (simp [*, errW_none, errW_some] <;> rfl), by (with_reducible repeat (first | apply Kd.R_alloc | apply Kd.R_drewN | apply Kd.R_drew)); exact Kd.R_mono HO157.out (fun _ hk => trivial), by repeat (first | (with_reducible first | exact HB.out | apply below_alloc | apply pw_below_drewN | apply below_drew1 | refine below_set ?_ GE145.out) | exact HB.out)⟩
 rw [if_neg c8] at H
 have c8b0 : (a0 == 1) = false := beq_eq_false_iff_ne.mpr c8
 have c8b1 : (a0 != 1) = true := bne_iff_ne.mpr c8
 by_cases c18 : a0 = 2
 rotate_left
 ·rw [if_neg c18] at H
  have c18b0 : (a0 == 2) = false := beq_eq_false_iff_ne.mpr c18
  have c18b1 : (a0 != 2) = true := bne_iff_ne.mpr c18
  obtain rfl := Option.some.inj H
  go_enter Try.func17, Try.ntmps17
  go_wp2_with (first | ((with_reducible refine gate_dst (N := 3) rfl ?_); refine box_event ?hg (N := 3) ?hd (cs := #[.int .u64 a1_0, .int .u64 a1_1, .int .u64 a1_2, .string a1_3, .string a1_4, .int .i64 a1_5, .int .i64 a1_6, .int .i64 a1_7, .slice A1_8 n1_8 c1_8, .slice A1_9 n1_9 c1_9, .slice A1_10 n1_10 c1_10]) (t := 34) ?hr ?_; (case hd => rfl); (case hg => rfl); (case hr => first | (go_simp; done) | (go_simp; rfl)); intro gb145 hg w28 hbox hb; have n0_ := Aside0.mk (below_step q6y1 hb); have n1_ := Aside0.mk (hbox); have n2_ := Aside0.mk ((by rw [hg]; exact (below_size q6y1) : w.heap.size ≤ gb145)); have n3_ := Aside0.mk ((by rw [hg]; exact (below_size q6y1) : w.heap.size ≤ gb145)); clear HB; have HB := n0_; have BK145 := n1_; have GW145 := n2_; have GE145 := n3_; clear n0_ n1_ n2_ n3_; clear hb hbox hg))
  go_ret
  exact ⟨_, by first | rfl | (simp [errW_none, errW_some] <;> rfl) | (simp [*, errW_none, errW_some] <;> rfl), by first | exact Kd.R_nil _ _ _ _ _ | exact Kd.N_nil _ _ _ _ _ | exact Kd.V_nil _ _ _ _ _ | exact Kd.Q_nil _ _ _ _ _ | exact Kd.S_nil _ _ _ _ _, by repeat (first | (with_reducible first | exact HB.out | apply below_alloc | apply pw_below_drewN | apply below_drew1 | refine below_set ?_ GE145.out) | exact HB.out)⟩

 rw [if_pos c18] at H
 have c18b0 : (a0 == 2) = true := beq_iff_eq.mpr c18
 have c18b1 : (a0 != 2) = false := bne_eq_false_iff_eq.mpr c18
 clear c18
 replace H := Option.bind_eq_some_iff.mp H
 obtain ⟨t158, A190, H⟩ := H
 replace H : ((key_Primary.f k a1_0 a1_1 a1_2 a1_3 a1_4 a1_5 a1_6 a1_7 [] [] []).bind fun t161 => (if t158.length + t161.length < 140737488355328 then (some (t158 ++ t161)) else (none))) = some r := H
 have A19 := Aside0.mk A190
 clear A190
 replace H := Option.bind_eq_some_iff.mp H
 obtain ⟨t161, A200, H⟩ := H
 replace H : (if t158.length + t161.length < 140737488355328 then (some (t158 ++ t161)) else (none)) = some r := H
 have A20 := Aside0.mk A200
 clear A200
 by_cases c21 : t158.length + t161.length < 140737488355328
 rotate_left
 ·rw [if_neg c21] at H
  exact absurd H (by simp)
 rw [if_pos c21] at H
 have LMc21 := Aside0.mk c21
 clear c21
 obtain ⟨y164, hy164⟩ : ∃ y_ : List Int, y_ = (t158 ++ t161) := ⟨_, rfl⟩
 replace H : (some y164) = some r := by first | (rw [hy164]; with_reducible exact H) | (have H2_ := (Option.bind_some _ _).symm.trans H; rw [hy164]; with_reducible exact H2_) | (have H2_ := (Option.bind_some _ _).symm.trans H; with_reducible exact H2_) | with_reducible exact H | (rw [hy164]; exact H) | exact H
 have Ny164 := Aside0.mk hy164
 clear hy164
 obtain rfl := Option.some.inj H
 go_enter Try.func17, Try.ntmps17
 try go_wp2_with (first | ((with_reducible refine gate_dst (N := 3) rfl ?_); refine box_event ?hg (N := 3) ?hd (cs := #[.int .u64 a1_0, .int .u64 a1_1, .int .u64 a1_2, .string a1_3, .string a1_4, .int .i64 a1_5, .int .i64 a1_6, .int .i64 a1_7, .slice A1_8 n1_8 c1_8, .slice A1_9 n1_9 c1_9, .slice A1_10 n1_10 c1_10]) (t := 34) ?hr ?_; (case hd => rfl); (case hg => rfl); (case hr => first | (go_simp; done) | (go_simp; rfl)); intro gb145 hg w22 hbox hb; have n0_ := Aside0.mk (below_step q6y1 hb); have n1_ := Aside0.mk (hbox); have n2_ := Aside0.mk ((by rw [hg]; exact (below_size q6y1) : w.heap.size ≤ gb145)); have n3_ := Aside0.mk ((by rw [hg]; exact (below_size q6y1) : w.heap.size ≤ gb145)); clear HB; have HB := n0_; have BK145 := n1_; have GW145 := n2_; have GE145 := n3_; clear n0_ n1_ n2_ n3_; clear hb hbox hg))
 have n0_ := Aside0.mk (blk_drew BK145.out)
 have n1_ := Aside0.mk (below_drew1 HB.out)
 clear BK145
 clear HB
 have BK145 := n0_
 have HB := n1_
 clear n0_ n1_
 refine start_ (n := 8) (S := fun w' => w'.cell? ⟨gb145, 0, none⟩ = some (.int .u64 a1_0) ∧ w'.cell? ⟨gb145, 1, none⟩ = some (.int .u64 a1_1) ∧ w'.cell? ⟨gb145, 2, none⟩ = some (.int .u64 a1_2) ∧ w'.cell? ⟨gb145, 3, none⟩ = some (.string a1_3) ∧ w'.cell? ⟨gb145, 4, none⟩ = some (.string a1_4) ∧ w'.cell? ⟨gb145, 5, none⟩ = some (.int .i64 a1_5) ∧ w'.cell? ⟨gb145, 6, none⟩ = some (.int .i64 a1_6) ∧ w'.cell? ⟨gb145, 7, none⟩ = some (.int .i64 a1_7) ∧ w'.cell? ⟨gb145, 8, none⟩ = some (.slice A1_8 n1_8 c1_8) ∧ w'.cell? ⟨gb145, 9, none⟩ = some (.slice A1_9 n1_9 c1_9) ∧ w'.cell? ⟨gb145, 10, none⟩ = some (.slice A1_10 n1_10 c1_10)) (ds := []) #[false, false, false, false, false, false, false, false] (by kernel_rfl) rfl rfl ⟨q6k BK145.out 0, q6k BK145.out 1, q6k BK145.out 2, q6k BK145.out 3, q6k BK145.out 4, q6k BK145.out 5, q6k BK145.out 6, q6k BK145.out 7, q6k BK145.out 8, q6k BK145.out 9, q6k BK145.out 10⟩ (fun hHeld => ?_); refine with_tabW filter_Key.tab7 filter_Key.bits7 (fun HT_ HW_ => ?_)
 generalize w22.drew = w23 at BK145 HB hHeld ⊢
 refine q6p (i := 0) (N := some 21) (q6m 8 1) HT_.out ?_
 refine take_ (i := 1) (N := some 22) (v := ?_) (a' := ?_) (q6m 8 3) rfl rfl (take_ofW HT_.out HW_.out (by kernel_rfl)) (fun _ _ _ h => h) (Or.inl ⟨by rfl, ?_⟩) hHeld ?_ ?_; rotate_left; (rintro w' ⟨s0, s1, s2, s3, s4, s5, s6, s7, s8, s9, s10⟩; go_simp; with_reducible rfl); rotate_left; (simp only [Act.put, q6a, q6b, q6c, i64_w, i32_w]; rfl)
 refine q6p (i := 2) (N := some 23) (q6m 8 7) HT_.out ?_
 refine take_ (i := 4) (N := some 25) (v := ?_) (a' := ?_) (q6m 8 23) rfl rfl (take_ofW HT_.out HW_.out (by kernel_rfl)) (fun _ _ _ h => h) (Or.inl ⟨by rfl, ?_⟩) hHeld ?_ ?_; rotate_left; (rintro w' ⟨s0, s1, s2, s3, s4, s5, s6, s7, s8, s9, s10⟩; go_simp; with_reducible rfl); rotate_left; (simp only [Act.put, q6a, q6b, q6c, i64_w, i32_w]; rfl)
 refine one_ (i := 3) (N := some 24) (q6m 8 31) rfl rfl (one_of HT_.out (by kernel_rfl)) (by decide) (fun K hK => ?_)
 refine goes_ Try.func45 (by kernel_rfl) rfl #[.int .u64 (IntKind.u64.wrap (a1_6))] (by rfl) rfl rfl q6y2 ?_
 with_reducible refine (num_Key.calls k (IntKind.u64.wrap (a1_6)) t158 _ A19.out).mono ?_
 rintro e w24 ⟨v159, rfl, ho0, hb⟩
 refine ⟨_, rfl, ?_⟩
 have n0_ := Aside0.mk (Kd.R_lower ho0 (below_size q6y0))
 have n1_ := Aside0.mk (blk_below (g := gb145) (o := .cells #[.int .u64 a1_0, .int .u64 a1_1, .int .u64 a1_2, .string a1_3, .string a1_4, .int .i64 a1_5, .int .i64 a1_6, .int .i64 a1_7, .slice A1_8 n1_8 c1_8, .slice A1_9 n1_9 c1_9, .slice A1_10 n1_10 c1_10] 34 (0, 0)) q6y4 hb)
 have n2_ := Aside0.mk (below_step q6y0 hb)
 clear BK145
 clear HB
 have HO160 := n0_
 have BK145 := n1_
 have HB := n2_
 clear n0_ n1_ n2_
 (try clear hb)
 (try clear hb2)
 (try clear hk)
 (try clear hi)
 (try clear ho0)
 refine hK.out _ _ ⟨q6k BK145.out 0, q6k BK145.out 1, q6k BK145.out 2, q6k BK145.out 3, q6k BK145.out 4, q6k BK145.out 5, q6k BK145.out 6, q6k BK145.out 7, q6k BK145.out 8, q6k BK145.out 9, q6k BK145.out 10⟩ (fun hHeld => ?_)
 clear hK K
 refine norm_ (a' := ?_) ?_ ?_
 rotate_left
 ·show Act.put _ (some 24) _ = _
  simp only [Act.put, q6a, q6b, q6c, i64_w, i32_w]
  rfl
 refine one_ (i := 5) (N := some 26) (q6m 8 63) rfl rfl (one_of HT_.out (by kernel_rfl)) (by decide) (fun K hK => ?_)
 refine goes_ Try.func44 (by kernel_rfl) rfl #[.agg #[.int .u64 a1_0, .int .u64 a1_1, .int .u64 a1_2, .string a1_3, .string a1_4, .int .i64 a1_5, .int .i64 a1_6, .int .i64 a1_7, .slice A1_8 n1_8 c1_8, .slice A1_9 n1_9 c1_9, .slice A1_10 n1_10 c1_10]] (by rfl) rfl rfl q6y2 ?_
 with_reducible refine (key_Primary.callsR k a1_0 a1_1 a1_2 a1_3 a1_4 a1_5 a1_6 a1_7 _ _ n1_8 _ _ n1_9 _ _ n1_10 t161 _ A20.out).mono ?_
 rintro e w25 ⟨v162, rfl, ho0, hb⟩
 refine ⟨_, rfl, ?_⟩
 have n0_ := Aside0.mk (Kd.R_elder' (by (with_reducible repeat (first | apply Kd.R_alloc | apply Kd.R_drewN | apply Kd.R_drew)); exact HO160.out) (Kd.R_base ho0) hb)
 have n1_ := Aside0.mk (Kd.R_lower (Kd.R_new' ho0 (Kd.R_lt (by (with_reducible repeat (first | apply Kd.R_alloc | apply Kd.R_drewN | apply Kd.R_drew)); exact HO160.out))) (below_size q6y0))
 have n2_ := Aside0.mk (blk_below (g := gb145) (o := .cells #[.int .u64 a1_0, .int .u64 a1_1, .int .u64 a1_2, .string a1_3, .string a1_4, .int .i64 a1_5, .int .i64 a1_6, .int .i64 a1_7, .slice A1_8 n1_8 c1_8, .slice A1_9 n1_9 c1_9, .slice A1_10 n1_10 c1_10] 34 (0, 0)) q6y4 hb)
 have n3_ := Aside0.mk (below_step q6y0 hb)
 clear HO160
 clear BK145
 clear HB
 have HO160 := n0_
 have HO163 := n1_
 have BK145 := n2_
 have HB := n3_
 clear n0_ n1_ n2_ n3_
 (try clear hb)
 (try clear hb2)
 (try clear hk)
 (try clear hi)
 (try clear ho0)
 obtain ⟨Ao27, co27, eo27⟩ := Kd.R_slice HO163.out
 (first | subst eo27 | (injection eo27 with f1_ f2_ f3_; have f4_ := f1_.symm; have f5_ := f3_.symm; clear f1_ f2_ f3_; subst f4_; subst f5_))
 refine hK.out _ _ ⟨q6k BK145.out 0, q6k BK145.out 1, q6k BK145.out 2, q6k BK145.out 3, q6k BK145.out 4, q6k BK145.out 5, q6k BK145.out 6, q6k BK145.out 7, q6k BK145.out 8, q6k BK145.out 9, q6k BK145.out 10⟩ (fun hHeld => ?_)
 clear hK K
 refine norm_ (a' := ?_) ?_ ?_
 rotate_left
 ·show Act.put _ (some 26) _ = _
  simp only [Act.put, q6a, q6b, q6c, i64_w, i32_w]
  rfl
 refine one_ (i := 6) (N := some 27) (q6m 8 127) rfl rfl (one_of HT_.out (by kernel_rfl)) (by decide) (fun K hK => ?_)
 refine Kd.R_append_rows_step (Kd.int .u8) (w0 := w) w.heap.size (by rfl) (.tmp 24) (.tmp 26) 50 5 (.int .u8 0) 1 rfl Try.underlying50 info5 rfl (by decide) (by omega) v159 t158 t161 _ _ _ (fun k_ => some k_ ≠ (.slice Ao27 t161.length co27 : Value).ownBlock) (fun _ => False) rfl rfl ?aO ?aR (fun _ _ h => h) (fun _ h => h.elim) ?aF ?aB ?aS ?aL ?_
 (case aR => repeat (first | exact (Kd.R_reads' HO163.out).2.2 | (with_reducible refine Kd.C_alloc ?_ _) | (with_reducible refine Kd.C_drewN ?_ _) | (with_reducible refine Kd.C_drew ?_)))
 (case aB => exact q6y0)
 (case aF => exact (fun k_ hk => Kd.fresh' (Kd.R_lt (by (with_reducible repeat (first | apply Kd.R_alloc | apply Kd.R_drewN | apply Kd.R_drew)); exact HO163.out)) k_ hk))
 (case aO => exact (by (with_reducible repeat (first | apply Kd.R_alloc | apply Kd.R_drewN | apply Kd.R_drew)); exact Kd.R_mono HO160.out (fun _ hk => hk.2)))
 (case aS => exact (below_size q6y0))
 (case aL => have := LMc21.out; omega)
 intro v165 w26 ho hb hg hat
 rw [← Ny164.out] at ho
 have n0_ := Aside0.mk (blk_grown (g := gb145) (o := .cells #[.int .u64 a1_0, .int .u64 a1_1, .int .u64 a1_2, .string a1_3, .string a1_4, .int .i64 a1_5, .int .i64 a1_6, .int .i64 a1_7, .slice A1_8 n1_8 c1_8, .slice A1_9 n1_9 c1_9, .slice A1_10 n1_10 c1_10] 34 (0, 0)) q6y4 hg (Kd.R_ne HO160.out BK145.out (by decide)))
 have n1_ := Aside0.mk (Kd.R_after (ok := (fun _ => True)) (by (with_reducible repeat (first | apply Kd.R_alloc | apply Kd.R_drewN | apply Kd.R_drew)); exact HO163.out) hg hat)
 have n2_ := Aside0.mk (hb)
 have n3_ := Aside0.mk (ho)
 clear BK145
 clear HO163
 clear HB
 clear HO160
 have BK145 := n0_
 have HO163 := n1_
 have HB := n2_
 have HO166 := n3_
 clear n0_ n1_ n2_ n3_
 clear ho hb hg hat
 refine hK.out _ _ ⟨q6k BK145.out 0, q6k BK145.out 1, q6k BK145.out 2, q6k BK145.out 3, q6k BK145.out 4, q6k BK145.out 5, q6k BK145.out 6, q6k BK145.out 7, q6k BK145.out 8, q6k BK145.out 9, q6k BK145.out 10⟩ (fun hHeld => ?_)
 clear hK K
 refine norm_ (a' := ?_) ?_ ?_
 rotate_left
 ·show Act.put _ (some 27) _ = _
  simp only [Act.put, q6a, q6b, q6c, i64_w, i32_w]
  rfl
 refine q6p (i := 7) (N := some 4) (q6m 8 255) HT_.out ?_
 refine done_ (done_of HT_.out (by kernel_rfl)) ?_
 try go_wp2
 go_ret
 exact ⟨_, by first | rfl | (simp [errW_none, errW_some] <;> rfl) | (simp [*, errW_none, errW_some] <;> rfl), by (with_reducible repeat (first | apply Kd.R_alloc | apply Kd.R_drewN | apply Kd.R_drew)); exact Kd.R_mono HO166.out (fun _ hk => trivial), by repeat (first | (with_reducible first | exact HB.out | apply below_alloc | apply pw_below_drewN | apply below_drew1 | refine below_set ?_ GE145.out) | exact HB.out)⟩
-- NOT PRINTED: function 7 (cambiumlaw22_awake)

end Go.Proofs.Ytffggkhahambhaa.PAll

namespace Go.Proofs.Ytffggkhahambhaa.NumFacts
set_option linter.unusedVariables false
open Go.RowKit Go.Proofs.Ytffggkhahambhaa.PAll Go.Proofs.YtffggkhahambhaaW.PrintWords Go.Proofs.YtffggkhahambhaaW.PrintLast Go.Proofs.YtffggkhahambhaaW.PrintMore Go.Proofs.Ytffggkhahambhaa.Math

/-- A number's eight bytes, the greatest first. -/
def key8 (v : Int) : List Int := [v / 72057594037927936 % 256, v / 281474976710656 % 256, v / 1099511627776 % 256, v / 4294967296 % 256, v / 16777216 % 256, v / 65536 % 256, v / 256 % 256, v % 256]
theorem key8_len (v : Int) : (key8 v).length = 8 := rfl
theorem key8_isB (v : Int) : IsB (key8 v) := by
  intro x hx
  simp only [key8, List.mem_cons, List.not_mem_nil, or_false] at hx
  omega
theorem key_step (k : Nat) (v : Int) (l : List Int) (hl : l.length = 8) (i : Nat) (hi : i < 8) :
    num_Key.l0 (k + 1) v l 8 (i : Int) = num_Key.l0 k v (l.set (7 - i) (v / 256 ^ i % 256)) 8 ((i + 1 : Nat) : Int) := by
  rw [num_Key.l0, if_pos (by omega)]
  have e1 : wrap64 (8 * (i : Int)) = 8 * (i : Int) := wrap_id (by omega) (by omega)
  have e2 : wrap64 (7 - (i : Int)) = 7 - (i : Int) := wrap_id (by omega) (by omega)
  have e3 : wrap64 ((i : Int) + 1) = (i : Int) + 1 := wrap_id (by omega) (by omega)
  rw [e1, e2, e3]
  clear e1 e2 e3
  rw [if_pos (by omega), if_pos (by omega), if_pos (by omega)]
  have e4 : (7 - (i : Int)).toNat = 7 - i := by omega
  have e5 : shr .u64 v (8 * (i : Int)) = v / 256 ^ i := by
    unfold shr
    have : min (8 * (i : Int)).toNat (IntKind.bits .u64) = 8 * i := by
      show min (8 * (i : Int)).toNat 64 = 8 * i
      omega
    rw [this, Int.pow_mul]; rfl
  rw [e4, e5]; rfl

theorem key_eq (k : Nat) (v : Int) (hk : 9 ≤ k) : num_Key.f k v = some (key8 v) := by
  obtain ⟨k, rfl⟩ : ∃ m, k = m + 9 := ⟨k - 9, by omega⟩
  unfold num_Key.f
  rw [if_pos (by omega), Option.bind_some]
  show num_Key.l0 (k + 9) v [0, 0, 0, 0, 0, 0, 0, 0] 8 ((0 : Nat) : Int) = _
  rw [key_step _ _ _ rfl 0 (by omega), key_step _ _ _ rfl 1 (by omega), key_step _ _ _ rfl 2 (by omega), key_step _ _ _ rfl 3 (by omega), key_step _ _ _ rfl 4 (by omega), key_step _ _ _ rfl 5 (by omega), key_step _ _ _ rfl 6 (by omega), key_step _ _ _ rfl 7 (by omega), num_Key.l0, if_neg (by omega)]
  simp [key8]

end Go.Proofs.Ytffggkhahambhaa.NumFacts

namespace Go.Proofs.Ytffggkhahambhaa.Tr
open Go.RowKit Go.Proofs.YtffggkhahambhaaW.PrintWords Go.Proofs.YtffggkhahambhaaW.PrintLast Go.Proofs.YtffggkhahambhaaW.PrintMore Go.Proofs.Ytffggkhahambhaa.Math Go.Proofs.Ytffggkhahambhaa.PAll Go.Proofs.Ytffggkhahambhaa.Stab
set_option linter.unusedVariables false
set_option linter.unusedSimpArgs false
/-- Where the search begins and ends. -/
structure Rng (a m b M N s0 r0 : Nat) : Prop where
  lo : a ≤ s0
  hi : r0 ≤ m
  mid : r0 ≤ M
  sr : s0 ≤ r0
  top : N - s0 ≤ b
  nm : N = M + m
  s0e : s0 = a ∨ N - s0 = b
  r0e : r0 = m ∨ r0 = M
theorem rng1 {a m b M N : Nat} (h1 : a < m) (h2 : m < b) (hM : (a + b) / 2 = M) (hN : M + m = N) (h : M < m) : Rng a m b M N (N - b) M := ⟨by omega, by omega, by omega, by omega, by omega, hN.symm, .inr (by omega), .inr rfl⟩
theorem rng2 {a m b M N : Nat} (h1 : a < m) (h2 : m < b) (hM : (a + b) / 2 = M) (hN : M + m = N) (h : ¬ M < m) : Rng a m b M N a m := ⟨by omega, by omega, by omega, by omega, by omega, hN.symm, .inl rfl, .inl rfl⟩

set_option maxHeartbeats 8000000 in
set_option maxRecDepth 1000000 in
theorem sym_calls (w0 : World) (base g n c bq : Nat) (cf : Sp → Sp → Int) (hw : Swo (ltC cf)) (HC : Hid (Cmp w0 g bq cf)) (hn : n ≤ 1000000) : ∀ (d : Nat) (P L R Q : List Sp) (a m b : Nat) (w : World), L.length + R.length ≤ d → P.length = a → a + L.length = m → m + R.length = b → 0 < L.length → 0 < R.length → Sd (ltC cf) L → Sd (ltC cf) R → Sr w0 w base g n c (P ++ L ++ R ++ Q) →
    Calls Try.prog 67 #[.slice (some ⟨g, 0, none⟩) n c, .int .i64 a, .int .i64 m, .int .i64 b, .func (.func 27) #[] #[.pointer (some ⟨bq, 0, none⟩)]] w fun e w' => e = .returned (.tuple #[]) ∧ ∃ S, Mg (ltC cf) L R S ∧ Sr w0 w' base g n c (P ++ S ++ Q) := by
  have HWO := Lib.hid hw
  have HN := Lib.hid hn
  clear hw hn
  intro d
  induction d with
  | zero => intro P L R Q a m b w hd _ _ _ h1 _; omega
  | succ d ih =>
  intro P L R Q a m b w hd ha hm hb hL0 hR0 hL hR hS
  by_cases hl1 : L.length = 1
  · obtain ⟨v, rfl⟩ : ∃ v, L = [v] := by
      cases L with
      | nil => cases hl1
      | cons v r => exact ⟨v, by simp at hl1; rw [hl1]⟩
    exact symL_calls w0 base g n c bq cf HWO.out HC P R Q v a m b w ha hm hb hR HN.out (by simpa only [List.append_assoc, List.cons_append, List.nil_append] using hS)
  by_cases hr1 : R.length = 1
  · obtain ⟨v, rfl⟩ : ∃ v, R = [v] := by
      cases R with
      | nil => cases hr1
      | cons v r => exact ⟨v, by simp at hr1; rw [hr1]⟩
    exact symR_calls w0 base g n c bq cf HWO.out HC P L Q v a m b w ha hm hb (by omega) hL HN.out (by simpa only [List.append_assoc, List.cons_append, List.nil_append] using hS)
  have IH := Lib.hid ih
  have hnn := HN.out
  have HPa := Lib.hid ha
  have hlen := hS.len
  simp only [List.length_append] at hlen
  have HBN := Lib.hid (show b ≤ n by omega)
  have HS := Lib.hid hS
  have HSL := Lib.hid hL
  have HSR := Lib.hid hR
  have HM := Lib.hid hm
  have HB := Lib.hid hb
  have HL0 := Lib.hid (show 1 < L.length by omega)
  have HR0 := Lib.hid (show 1 < R.length by omega)
  have HD := Lib.hid hd
  obtain ⟨M, hM⟩ : ∃ M, (a + b) / 2 = M := ⟨_, rfl⟩
  obtain ⟨N, hN⟩ : ∃ N, M + m = N := ⟨_, rfl⟩
  have HMA := Lib.hid (show wrap64 ((m : Int) - (a : Int)) = (L.length : Int) by rw [w64 _ (by omega) (by omega)]; omega)
  have HBM := Lib.hid (show wrap64 ((b : Int) - (m : Int)) = (R.length : Int) by rw [w64 _ (by omega) (by omega)]; omega)
  have HMID := Lib.hid (half_eq (I := a) (J := b) (by omega) (by omega) hM)
  have HWN := Lib.hid (show wrap64 ((M : Int) + (m : Int)) = (N : Int) by rw [w64 _ (by omega) (by omega)]; omega)
  have HWS := Lib.hid (show M < m → wrap64 ((N : Int) - (b : Int)) = ((N - b : Nat) : Int) by intro h; rw [w64 _ (by omega) (by omega)]; omega)
  have HWP := Lib.hid (show wrap64 ((N : Int) - 1) = ((N - 1 : Nat) : Int) by rw [w64 _ (by omega) (by omega)]; omega)
  have e0 : ((L.length : Int) == 1) = false := beq_eq_false_iff_ne.2 (by omega)
  have e1 : ((R.length : Int) == 1) = false := beq_eq_false_iff_ne.2 (by omega)
  have HAM := Lib.hid (show a < m by omega)
  have HMB := Lib.hid (show m < b by omega)
  have HMe := Lib.hid hM
  have HNe := Lib.hid hN
  clear ih hd ha hm hb hL0 hR0 hL hR hS hl1 hr1 hlen hnn hM hN
  have mixed : Try.prog.follows Departure.mixedOrders = true := by kernel_rfl
  go_enter Try.func67, Try.ntmps67
  have hma := HMA.out
  have hbm := HBM.out
  go_upto_region 27 with (fail)
  clear hma hbm e0 e1
  obtain ⟨bt, hbt⟩ : ∃ bt : Bool, decide (M < m) = bt := ⟨_, rfl⟩
  have HBT := Lib.hid hbt
  have HBTi := Lib.hid (show decide ((M : Int) < (m : Int)) = bt by rw [← hbt]; exact decide_eq_decide.2 ⟨Int.ofNat_lt.1, Int.ofNat_lt.2⟩)
  clear hbt
  go_cut [18, 19, 140] from 129 to 139 (fun v18 v19 v wq => v18 = .int .i64 M ∧ v19 = .int .i64 N ∧ v = .bool bt ∧ w = wq)
  case first =>
    go_wp2
    go_meet
    case rel => exact ⟨by rw [HMID.out], by rw [HMID.out, HWN.out], by rw [HMID.out]; first | rw [HBTi.out] | simp only [HBT.out, HBTi.out, Int.ofNat_lt], rfl⟩
  case rest =>
  obtain ⟨rfl, rfl, rfl, rfl⟩ := hcut
  apply_assumption
  go_cut [20, 21] from 141 to 146 (fun s r wq => ∃ s0 r0 : Nat, s = .int .i64 s0 ∧ r = .int .i64 r0 ∧ Hid (Rng a m b M N s0 r0) ∧ w = wq)
  case first =>
    cases bt with
    | true =>
      have HR := Lib.hid (rng1 HAM.out HMB.out HMe.out HNe.out (of_decide_eq_true HBT.out))
      have hws := HWS.out (of_decide_eq_true HBT.out)
      go_wp2
      go_meet
      case rel => exact ⟨N - b, M, by first | rfl | rw [hws], rfl, HR, rfl⟩
    | false =>
      have HR := Lib.hid (rng2 HAM.out HMB.out HMe.out HNe.out (of_decide_eq_false HBT.out))
      go_wp2
      go_meet
      case rel => exact ⟨a, m, rfl, rfl, HR, rfl⟩
  case rest =>
  obtain ⟨s0, r0, rfl, rfl, HRG, rfl⟩ := hcut
  apply_assumption
  refine wp_seq_k fun K22 hK22 => ?_
  go_cut [22] from 147 to 148 (fun v wq => v = .int .i64 ((N - 1 : Nat) : Int) ∧ w = wq)
  case first =>
    go_wp2
    go_meet
    case rel => exact ⟨by rw [HWP.out], rfl⟩
  case rest =>
  obtain ⟨rfl, rfl⟩ := hcut
  apply hK22
  refine wp_seq_k fun K33 hK33 => ?_
  go_cut [20, 21, 23] from 149 to 174 (fun s _ _ wq => ∃ e : Nat, s = .int .i64 e ∧ Hid (s0 ≤ e) ∧ Hid (e ≤ r0) ∧ Hid (s0 < e → ∀ x y, L[e - 1 - a]? = some x → R[N - e - m]? = some y → ltC cf y x = false) ∧ Hid (e < r0 → ∀ x y, L[e - a]? = some x → R[N - 1 - e - m]? = some y → ltC cf y x = true) ∧ Hid (Sr w0 wq base g n c (P ++ L ++ R ++ Q)))
  case first =>
    first | (refine wp_block ?_) | skip
    go_loopw [20, 21, 23] (fun s u _ wr => ∃ (i j : Nat), Hid (i ≤ j) ∧ Hid (s0 ≤ i) ∧ Hid (j ≤ r0) ∧ s = .int .i64 i ∧ u = .int .i64 j ∧ Hid (s0 < i → ∀ x y, L[i - 1 - a]? = some x → R[N - i - m]? = some y → ltC cf y x = false) ∧ Hid (j < r0 → ∀ x y, L[j - a]? = some x → R[N - 1 - j - m]? = some y → ltC cf y x = true) ∧ Hid (Sr w0 wr base g n c (P ++ L ++ R ++ Q))) (fun s u _ _ => (intOf u - intOf s).toNat)
    case atStart => exact ⟨s0, r0, Lib.hid HRG.out.sr, Lib.hid (Nat.le_refl _), Lib.hid (Nat.le_refl _), rfl, rfl, Lib.hid (fun h => absurd h (Nat.lt_irrefl _)), Lib.hid (fun h => absurd h (Nat.lt_irrefl _)), HS⟩
    case round =>
      clear HS
      obtain ⟨I, J, HIJ, HSI, HJR, rfl, rfl, HI, HJ, HS⟩ := hrel
      by_cases hlt : I < J
      · have q : (I : Int) < (J : Int) := by omega
        obtain ⟨H, hH⟩ : ∃ H, (I + J) / 2 = H := ⟨_, rfl⟩
        obtain ⟨Z, hZ⟩ : ∃ Z, N - 1 - H = Z := ⟨_, rfl⟩
        have hrg := HRG.out
        have hsi := HSI.out
        have hjr := HJR.out
        have hma2 := HM.out
        have hmb2 := HB.out
        have hpa := HPa.out
        have hbn := HBN.out
        have hnn := HN.out
        obtain ⟨lo, hi, hmid, hsr, htop, hnm, _, _⟩ := hrg
        have hih : I ≤ H := by omega
        have hhj : H < J := by omega
        have hzm : m ≤ Z := by omega
        have hzb : Z < b := by omega
        obtain ⟨x, hx⟩ : ∃ x, L[H - a]? = some x := ⟨_, List.getElem?_eq_getElem (by omega)⟩
        obtain ⟨y, hy⟩ : ∃ y, R[Z - m]? = some y := ⟨_, List.getElem?_eq_getElem (by omega)⟩
        have HGY := Lib.hid (show (P ++ L ++ R ++ Q)[H]? = some x by rw [List.append_assoc, List.append_assoc, List.getElem?_append_right (by omega), hpa, List.getElem?_append_left (by omega)]; exact hx)
        have HGX := Lib.hid (show (P ++ L ++ R ++ Q)[Z]? = some y by rw [List.append_assoc, List.getElem?_append_right (by rw [List.length_append]; omega), List.length_append, show Z - (P.length + L.length) = Z - m by omega, List.getElem?_append_left (by omega)]; exact hy)
        have HX := Lib.hid hx
        have HY := Lib.hid hy
        have HHL := Lib.hid hih
        have HHJ := Lib.hid hhj
        have HZE := Lib.hid hZ
        have HZ1 := Lib.hid (show N - (H + 1) - m = Z - m by omega)
        have b1 : (H : Int) < (n : Int) := by omega
        have b2 : (Z : Int) < (n : Int) := by omega
        have HHALF := Lib.hid (half_eq (by omega) (by omega) hH)
        have HWH := Lib.hid (show wrap64 ((H : Int) + 1) = ((H + 1 : Nat) : Int) by rw [w64 _ (by omega) (by omega)]; omega)
        have HWZ := Lib.hid (show wrap64 (((N - 1 : Nat) : Int) - (H : Int)) = (Z : Int) by rw [w64 _ (by omega) (by omega)]; omega)
        clear hlt hH hZ hsi hjr hma2 hmb2 hpa hbn hnn lo hi hmid hsr htop hnm hih hhj hzm hzb hx hy
        obtain ⟨kk, hkk⟩ : ∃ kk : Nat, kk = 11 := ⟨_, rfl⟩
        have HKK := Lib.hid hkk
        have zE := Try.sizeOf34
        simp only [← hkk] at zE
        have aE := Try.isAgg34
        have la := HS.out.drew.ldk HGX.out hkk Try.prog
        have lb := HS.out.drew.ldk HGY.out hkk Try.prog
        obtain ⟨cx, hcx⟩ : ∃ cx, encS y = cx := ⟨_, rfl⟩
        obtain ⟨cy, hcy⟩ : ∃ cy, encS x = cy := ⟨_, rfl⟩
        have na : cx.length = kk := by rw [← hcx, hkk]; rfl
        have nb : cy.length = kk := by rw [← hcy, hkk]; rfl
        rw [hcx] at la
        rw [hcy] at lb
        have HCX := Lib.hid hcx
        have HCY := Lib.hid hcy
        have aX : (⟨g, 0, none⟩ : Addr).add (Z * kk) = ⟨g, Z * kk, none⟩ := add_at _ _
        have aY : (⟨g, 0, none⟩ : Addr).add (H * kk) = ⟨g, H * kk, none⟩ := add_at _ _
        have HSd := Lib.hid HS.out.drew
        clear hkk hcx hcy
        have hhalf := HHALF.out
        have hwz := HWZ.out
        go_upto_region 35 with (fail)
        refine start_ (n := 14) (S := fun w' => Sem.run Try.prog (loadCellsFrom ⟨g, Z * kk, none⟩ 0 kk #[]) w' = .ok cx.toArray w' ∧ Sem.run Try.prog (loadCellsFrom ⟨g, H * kk, none⟩ 0 kk #[]) w' = .ok cy.toArray w') (ds := []) #[false, false, false, false, false, false, false, false, false, false, false, false, false, false] (by kernel_rfl) rfl rfl ⟨la, lb⟩ (fun hHeld => ?_)
        generalize hwe : wr.drew = w5 at la lb HSd hHeld ⊢
        clear hwe la lb
        refine pure_ (i := 0) (N := some 158) (v := ?_) (a' := ?_) #[true, false, false, false, false, false, false, false, false, false, false, false, false, false] rfl rfl (by kernel_rfl) (fun _ _ _ h => h) (Or.inl ⟨by rfl, ?_⟩) ?_ ?_
        rotate_left
        · intro w'
          go_simp
          with_reducible rfl
        rotate_left
        · simp only [Act.put, List.setIfInBounds_toArray, List.set_cons_zero, List.set_cons_succ, i64_w, i32_w]
          rfl
        refine pure_ (i := 1) (N := some 159) (v := ?_) (a' := ?_) #[true, true, false, false, false, false, false, false, false, false, false, false, false, false] rfl rfl (by kernel_rfl) (fun _ _ _ h => h) (Or.inl ⟨by rfl, ?_⟩) ?_ ?_
        rotate_left
        · intro w'
          go_simp
          with_reducible rfl
        rotate_left
        · simp only [Act.put, List.setIfInBounds_toArray, List.set_cons_zero, List.set_cons_succ, i64_w, i32_w]
          rfl
        refine pure_ (i := 2) (N := some 160) (v := ?_) (a' := ?_) #[true, true, true, false, false, false, false, false, false, false, false, false, false, false] rfl rfl (by kernel_rfl) (fun _ _ _ h => h) (Or.inl ⟨by rfl, ?_⟩) ?_ ?_
        rotate_left
        · intro w'
          go_simp
          with_reducible rfl
        rotate_left
        · simp only [Act.put, List.setIfInBounds_toArray, List.set_cons_zero, List.set_cons_succ, i64_w, i32_w]
          rfl
        refine pure_ (i := 3) (N := some 161) (v := ?_) (a' := ?_) #[true, true, true, true, false, false, false, false, false, false, false, false, false, false] rfl rfl (by kernel_rfl) (fun _ _ _ h => h) (Or.inl ⟨by rfl, ?_⟩) ?_ ?_
        rotate_left
        · intro w'
          go_simp
          with_reducible rfl
        rotate_left
        · simp only [Act.put, List.setIfInBounds_toArray, List.set_cons_zero, List.set_cons_succ, i64_w, i32_w]
          rfl
        refine pure_ (i := 4) (N := some 162) (v := ?_) (a' := ?_) #[true, true, true, true, true, false, false, false, false, false, false, false, false, false] rfl rfl (by kernel_rfl) (fun _ _ _ h => h) (Or.inl ⟨by rfl, ?_⟩) ?_ ?_
        rotate_left
        · intro w'
          go_simp
          with_reducible rfl
        rotate_left
        · simp only [Act.put, List.setIfInBounds_toArray, List.set_cons_zero, List.set_cons_succ, i64_w, i32_w]
          rfl
        refine pure_ (i := 5) (N := some 163) (v := ?_) (a' := ?_) #[true, true, true, true, true, true, false, false, false, false, false, false, false, false] rfl rfl (by kernel_rfl) (fun _ _ _ h => h) (Or.inl ⟨by rfl, ?_⟩) ?_ ?_
        rotate_left
        · intro w'
          go_simp
          with_reducible rfl
        rotate_left
        · simp only [Act.put, List.setIfInBounds_toArray, List.set_cons_zero, List.set_cons_succ, i64_w, i32_w]
          rfl
        refine pure_ (i := 7) (N := some 165) (v := ?_) (a' := ?_) #[true, true, true, true, true, true, false, true, false, false, false, false, false, false] rfl rfl (by kernel_rfl) (fun _ _ _ h => h) (Or.inl ⟨by rfl, ?_⟩) ?_ ?_
        rotate_left
        · intro w'
          go_simp
          with_reducible rfl
        rotate_left
        · simp only [Act.put, List.setIfInBounds_toArray, List.set_cons_zero, List.set_cons_succ, i64_w, i32_w]
          rfl
        refine pure_ (i := 8) (N := some 166) (v := ?_) (a' := ?_) #[true, true, true, true, true, true, false, true, true, false, false, false, false, false] rfl rfl (by kernel_rfl) (fun _ _ _ h => h) (Or.inl ⟨by rfl, ?_⟩) ?_ ?_
        rotate_left
        · intro w'
          go_simp
          with_reducible rfl
        rotate_left
        · simp only [Act.put, List.setIfInBounds_toArray, List.set_cons_zero, List.set_cons_succ, i64_w, i32_w]
          rfl
        refine pure_ (i := 9) (N := some 167) (v := ?_) (a' := ?_) #[true, true, true, true, true, true, false, true, true, true, false, false, false, false] rfl rfl (by kernel_rfl) (fun _ _ _ h => h) (Or.inl ⟨by rfl, ?_⟩) ?_ ?_
        rotate_left
        · intro w'
          go_simp
          with_reducible rfl
        rotate_left
        · simp only [Act.put, List.setIfInBounds_toArray, List.set_cons_zero, List.set_cons_succ, i64_w, i32_w]
          rfl
        refine take_ (i := 6) (N := some 164) (v := ?_) (a' := ?_) #[true, true, true, true, true, true, true, true, true, true, false, false, false, false] rfl rfl (by kernel_rfl) (fun _ _ _ h => h) (Or.inl ⟨by rfl, ?_⟩) hHeld ?_ ?_
        rotate_left
        · rintro w' ⟨s0, s1⟩
          go_simp
          with_reducible rfl
        rotate_left
        · simp only [Act.put, List.setIfInBounds_toArray, List.set_cons_zero, List.set_cons_succ, i64_w, i32_w]
          rfl
        refine take_ (i := 10) (N := some 168) (v := ?_) (a' := ?_) #[true, true, true, true, true, true, true, true, true, true, true, false, false, false] rfl rfl (by kernel_rfl) (fun _ _ _ h => h) (Or.inl ⟨by rfl, ?_⟩) hHeld ?_ ?_
        rotate_left
        · rintro w' ⟨s0, s1⟩
          go_simp
          with_reducible rfl
        rotate_left
        · simp only [Act.put, List.setIfInBounds_toArray, List.set_cons_zero, List.set_cons_succ, i64_w, i32_w]
          rfl
        refine one_ (i := 11) (N := some 169) #[true, true, true, true, true, true, true, true, true, true, true, true, false, false] rfl rfl (by kernel_rfl) (by decide) (fun K hK => ?_)
        have hcm := HC.out y x w5 HSd.out.gr
        rw [HCX.out, HCY.out] at hcm
        refine goesv_ Try.func27 (by kernel_rfl) rfl #[.agg cx.toArray, .agg cy.toArray, .pointer (some ⟨bq, 0, none⟩)] (by rfl) rfl rfl (by rfl) (by simp only [List.map_toArray, List.map_cons, List.map_nil]; rfl) ?_
        with_reducible refine (hcm).mono ?_
        rintro ee w6 ⟨rfl, hb⟩
        refine ⟨_, rfl, ?_⟩
        have HS6 := Lib.hid (HSd.out.next hb)
        clear hb hcm
        have la := HS6.out.ldk HGX.out HKK.out Try.prog
        have lb := HS6.out.ldk HGY.out HKK.out Try.prog
        rw [HCX.out] at la
        rw [HCY.out] at lb
        refine hK.out _ _ ⟨la, lb⟩ (fun hHeld => ?_)
        clear hK K
        refine norm_ (a' := ?_) ?_ ?_
        rotate_left
        · show Act.put _ (some 169) _ = _
          simp only [Act.put, List.setIfInBounds_toArray, List.set_cons_zero, List.set_cons_succ, i64_w, i32_w]
          rfl
        refine pure_ (i := 12) (N := some 170) (v := ?_) (a' := ?_) #[true, true, true, true, true, true, true, true, true, true, true, true, true, false] rfl rfl (by kernel_rfl) (fun _ _ _ h => h) (Or.inl ⟨by rfl, ?_⟩) ?_ ?_
        rotate_left
        · intro w'
          go_simp
          with_reducible rfl
        rotate_left
        · simp only [Act.put, List.setIfInBounds_toArray, List.set_cons_zero, List.set_cons_succ, i64_w, i32_w]
          rfl
        refine pure_ (i := 13) (N := some 171) (v := ?_) (a' := ?_) #[true, true, true, true, true, true, true, true, true, true, true, true, true, true] rfl rfl (by kernel_rfl) (fun _ _ _ h => h) (Or.inl ⟨by rfl, ?_⟩) ?_ ?_
        rotate_left
        · intro w'
          go_simp
          with_reducible rfl
        rotate_left
        · simp only [Act.put, List.setIfInBounds_toArray, List.set_cons_zero, List.set_cons_succ, i64_w, i32_w]
          rfl
        refine done_ (by kernel_rfl) ?_
        clear la lb
        clear hhalf hwz b1 b2
        obtain ⟨rb, hrb⟩ : ∃ rb, decide (cf y x < 0) = rb := ⟨_, rfl⟩
        rw [hrb]
        cases rb with
        | true =>
          have HLV := Lib.hid (show ltC cf y x = true from hrb)
          clear hrb
          go_wp2
          go_roundw
          case rel => exact ⟨I, H, HHL, HSI, Lib.hid (by have h1 := HHJ.out; have h2 := HJR.out; omega), rfl, by rw [HHALF.out], HI, Lib.hid (fun _ x' y' hx' hy' => by rw [HX.out] at hx'; rw [HZE.out, HY.out] at hy'; injection hx' with hx'; injection hy' with hy'; rw [← hx', ← hy']; exact HLV.out), HS6⟩
          case measure => rw [HHALF.out]; exact bs_m2 HHL.out HHJ.out
        | false =>
          have HLV := Lib.hid (show ltC cf y x = false from hrb)
          clear hrb
          go_wp2
          go_roundw
          case rel => exact ⟨H + 1, J, Lib.hid (by have := HHJ.out; omega), Lib.hid (by have h1 := HHL.out; have h2 := HSI.out; omega), HJR, by rw [HHALF.out, HWH.out], rfl, Lib.hid (fun _ x' y' hx' hy' => by rw [Nat.add_sub_cancel, HX.out] at hx'; rw [HZ1.out, HY.out] at hy'; injection hx' with hx'; injection hy' with hy'; rw [← hx', ← hy']; exact HLV.out), HJ, HS6⟩
          case measure => rw [HHALF.out, HWH.out]; exact bs_m1 HHL.out HHJ.out
      · have hij : I = J := by have h3 := HIJ.out; omega
        subst hij
        have q : decide ((I : Int) < (I : Int)) = false := decide_eq_false (by omega)
        clear hlt
        go_wp2
        go_meet
        case rel => exact ⟨I, rfl, HSI, HJR, HI, HJ, HS⟩
  case rest =>
  clear HS
  obtain ⟨e, rfl, HSE, HER, HI, HJ, HS⟩ := hcut
  apply hK33
  obtain ⟨E, hE⟩ : ∃ E, N - e = E := ⟨_, rfl⟩
  obtain ⟨lo, hi, hmid, hsr, htop, hnm, hs0e, hr0e⟩ := HRG.out
  have hse := HSE.out
  have her := HER.out
  have hm2 := HM.out
  have hb2 := HB.out
  have hpa := HPa.out
  have hbn := HBN.out
  have hnn := HN.out
  have hMe := HMe.out
  have HWE := Lib.hid (show wrap64 ((N : Int) - (e : Int)) = (E : Int) by rw [w64 _ (by omega) (by omega)]; omega)
  obtain ⟨k1, hk1⟩ : ∃ k1, e - a = k1 := ⟨_, rfl⟩
  obtain ⟨k2, hk2⟩ : ∃ k2, E - m = k2 := ⟨_, rfl⟩
  have HBL := Lib.hid (border_le (k1 := k1) (k2 := k2) HWO.out HSL.out HSR.out (by omega) (fun h x y hx hy => by
    have h1 := (List.getElem?_eq_some_iff.1 hy).1
    refine HI.out (by omega) x y ?_ ?_
    · rw [show e - 1 - a = k1 - 1 by omega]; exact hx
    · rw [show N - e - m = k2 by omega]; exact hy))
  have HBT2 := Lib.hid (border_lt (k1 := k1) (k2 := k2) HWO.out HSL.out HSR.out (by omega) (fun h x y hx hy => by
    have h1 := (List.getElem?_eq_some_iff.1 hx).1
    refine HJ.out (by omega) x y ?_ ?_
    · rw [show e - a = k1 by omega]; exact hx
    · rw [show N - 1 - e - m = k2 - 1 by omega]; exact hy))
  obtain ⟨L1, hL1⟩ : ∃ L1, L.take k1 = L1 := ⟨_, rfl⟩
  obtain ⟨L2, hL2⟩ : ∃ L2, L.drop k1 = L2 := ⟨_, rfl⟩
  obtain ⟨R1, hR1⟩ : ∃ R1, R.take k2 = R1 := ⟨_, rfl⟩
  obtain ⟨R2, hR2⟩ : ∃ R2, R.drop k2 = R2 := ⟨_, rfl⟩
  have HLS := Lib.hid (show L1 ++ L2 = L by rw [← hL1, ← hL2, List.take_append_drop])
  have HRS := Lib.hid (show R1 ++ R2 = R by rw [← hR1, ← hR2, List.take_append_drop])
  have HL1 := Lib.hid (show a + L1.length = e by rw [← hL1, List.length_take]; omega)
  have HL2 := Lib.hid (show e + L2.length = m by rw [← hL2, List.length_drop]; omega)
  have HR1 := Lib.hid (show m + R1.length = E by rw [← hR1, List.length_take]; omega)
  have HR2 := Lib.hid (show E + R2.length = b by rw [← hR2, List.length_drop]; omega)
  have HEM := Lib.hid (show e + R1.length = M by rw [← hR1, List.length_take]; omega)
  have HME := Lib.hid (show M + L2.length = E by rw [← hL2, List.length_drop]; omega)
  have HDL := Lib.hid (show L1.length + R1.length ≤ d by have h1 := HD.out; have h2 := HL0.out; rw [← hL1, ← hR1, List.length_take, List.length_take]; omega)
  have HDR := Lib.hid (show L2.length + R2.length ≤ d by have h1 := HD.out; have h2 := HL0.out; have h3 := HR0.out; rw [← hL2, ← hR2, List.length_drop, List.length_drop]; omega)
  rw [hL1, hR2] at HBL
  rw [hL2, hR1] at HBT2
  have hsr2 := HS.out
  rw [← HLS.out, ← HRS.out] at hsr2
  have HSO := Lib.hid (show Sr w0 wc base g n c ((P ++ L1) ++ L2 ++ R1 ++ (R2 ++ Q)) by simpa only [List.append_assoc] using hsr2)
  have HPL1 := Lib.hid (show (P ++ L1).length = e by rw [List.length_append, hpa, HL1.out])
  clear hE lo hi hmid hsr htop hnm hs0e hr0e hse her hm2 hb2 hpa hbn hnn hMe hk1 hk2 hL1 hL2 hR1 hR2 hsr2 HS HI HJ
  refine wp_seq_k fun K24 hK24 => ?_
  go_cut [24] from 175 to 177 (fun v wq => v = .int .i64 E ∧ wc = wq)
  case first =>
    go_wp2
    go_meet
    case rel => exact ⟨by rw [HWE.out], rfl⟩
  case rest =>
  obtain ⟨rfl, rfl⟩ := hcut
  apply hK24
  obtain ⟨bo, hbo⟩ : ∃ bo : Bool, (decide (e < m) && decide (m < E)) = bo := ⟨_, rfl⟩
  have Hbo := Lib.hid hbo
  clear hbo
  go_upto_region 39 with (fail)
  go_cut [185] from 178 to 184 (fun v wq => v = .bool bo ∧ wc = wq)
  case first =>
    by_cases h1 : e < m
    · have q1 : (e : Int) < (m : Int) := by omega
      by_cases h2 : m < E
      · have q2 : (m : Int) < (E : Int) := by omega
        have HE1 := Lib.hid (show true = bo by rw [← Hbo.out, decide_eq_true h1, decide_eq_true h2]; rfl)
        go_wp2
        go_meet
        case rel => exact ⟨by rw [← HE1.out], rfl⟩
      · have q2 : decide ((m : Int) < (E : Int)) = false := decide_eq_false (by omega)
        have q2n : decide (m < E) = false := decide_eq_false h2
        have HE1 := Lib.hid (show false = bo by rw [← Hbo.out, decide_eq_true h1, decide_eq_false h2]; rfl)
        clear h2
        go_wp2
        go_meet
        case rel => exact ⟨by rw [← HE1.out], rfl⟩
    · have q1 : decide ((e : Int) < (m : Int)) = false := decide_eq_false (by omega)
      have q1n : decide (e < m) = false := decide_eq_false h1
      have HE1 := Lib.hid (show false = bo by rw [← Hbo.out, decide_eq_false h1]; rfl)
      clear h1
      go_wp2
      go_meet
      case rel => exact ⟨by rw [← HE1.out], rfl⟩
  case rest =>
  obtain ⟨rfl, rfl⟩ := hcut
  apply_assumption
  go_cut [185] from 186 to 191 (fun _ wq => Hid (Sr w0 wq base g n c ((P ++ L1) ++ R1 ++ L2 ++ (R2 ++ Q))))
  case first =>
    cases bo with
    | true =>
      have hq : e < m ∧ m < E := by have := Hbo.out; simpa using this
      have hcall := rotate_calls w0 base g n c (P ++ L1) L2 R1 (R2 ++ Q) e m E (.func (.func 27) #[] #[.pointer (some ⟨bq, 0, none⟩)]) wc HPL1.out (by rw [HPL1.out]; exact HL2.out) HR1.out (by have := HL2.out; omega) (by have := HR1.out; omega) HN.out HSO.out
      have HCALL := Lib.hid hcall
      clear hcall hq
      go_wp2_with fail
      refine HCALL.out.mono ?_
      rintro ee w2 ⟨rfl, hs2⟩
      have HS2 := Lib.hid hs2
      clear hs2
      go_wp2
      go_meet
      case rel => exact HS2
    | false =>
      have HS2 := Lib.hid (show Sr w0 wc base g n c ((P ++ L1) ++ R1 ++ L2 ++ (R2 ++ Q)) by
        have hq := Hbo.out
        rw [Bool.and_eq_false_iff, decide_eq_false_iff_not, decide_eq_false_iff_not] at hq
        have h := HSO.out
        rcases hq with hq | hq
        · have : L2 = [] := List.eq_nil_of_length_eq_zero (by have := HL2.out; omega)
          rw [this] at h ⊢
          simpa using h
        · have : R1 = [] := List.eq_nil_of_length_eq_zero (by have := HR1.out; omega)
          rw [this] at h ⊢
          simpa using h)
      go_wp2
      go_meet
      case rel => exact HS2
  case rest =>
  clear HSO
  have HSO := hcut
  clear hcut
  apply_assumption
  obtain ⟨bp, hbp⟩ : ∃ bp : Bool, (decide (a < e) && decide (e < M)) = bp := ⟨_, rfl⟩
  have Hbp := Lib.hid hbp
  clear hbp
  go_upto_region 41 with (fail)
  go_cut [199] from 192 to 198 (fun v wq => v = .bool bp ∧ wc = wq)
  case first =>
    by_cases h1 : a < e
    · have q1 : (a : Int) < (e : Int) := by omega
      by_cases h2 : e < M
      · have q2 : (e : Int) < (M : Int) := by omega
        have HE1 := Lib.hid (show true = bp by rw [← Hbp.out, decide_eq_true h1, decide_eq_true h2]; rfl)
        go_wp2
        go_meet
        case rel => exact ⟨by rw [← HE1.out], rfl⟩
      · have q2 : decide ((e : Int) < (M : Int)) = false := decide_eq_false (by omega)
        have q2n : decide (e < M) = false := decide_eq_false h2
        have HE1 := Lib.hid (show false = bp by rw [← Hbp.out, decide_eq_true h1, decide_eq_false h2]; rfl)
        clear h2
        go_wp2
        go_meet
        case rel => exact ⟨by rw [← HE1.out], rfl⟩
    · have q1 : decide ((a : Int) < (e : Int)) = false := decide_eq_false (by omega)
      have q1n : decide (a < e) = false := decide_eq_false h1
      have HE1 := Lib.hid (show false = bp by rw [← Hbp.out, decide_eq_false h1]; rfl)
      clear h1
      go_wp2
      go_meet
      case rel => exact ⟨by rw [← HE1.out], rfl⟩
  case rest =>
  obtain ⟨rfl, rfl⟩ := hcut
  apply_assumption
  go_cut [199] from 200 to 205 (fun _ wq => ∃ S1, Hid (Mg (ltC cf) L1 R1 S1) ∧ Hid (Sr w0 wq base g n c ((P ++ S1) ++ L2 ++ R2 ++ Q)))
  case first =>
    have HSL1 := Lib.hid (show Sd (ltC cf) L1 from by have h := HSL.out; rw [← HLS.out] at h; exact (sd_app.1 h).1)
    have HSR1 := Lib.hid (show Sd (ltC cf) R1 from by have h := HSR.out; rw [← HRS.out] at h; exact (sd_app.1 h).1)
    cases bp with
    | true =>
      have hq : a < e ∧ e < M := by have := Hbp.out; simpa using this
      have hcall := IH.out P L1 R1 (L2 ++ R2 ++ Q) a e M wc HDL.out HPa.out HL1.out HEM.out (by have := HL1.out; omega) (by have := HEM.out; omega) HSL1.out HSR1.out (by have h := HSO.out; simpa only [List.append_assoc] using h)
      have HCALL := Lib.hid hcall
      clear hcall hq
      go_wp2_with fail
      refine HCALL.out.mono ?_
      rintro ee w2 ⟨rfl, S1, hg1, hs2⟩
      have HG1 := Lib.hid hg1
      have HS2 := Lib.hid (show Sr w0 w2 base g n c ((P ++ S1) ++ L2 ++ R2 ++ Q) by simpa only [List.append_assoc] using hs2)
      clear hs2 hg1
      go_wp2
      go_meet
      case rel => exact ⟨S1, HG1, HS2⟩
    | false =>
      have HG1 := Lib.hid (show Mg (ltC cf) L1 R1 (L1 ++ R1) by
        have hq := Hbp.out
        rw [Bool.and_eq_false_iff, decide_eq_false_iff_not, decide_eq_false_iff_not] at hq
        rcases hq with hq | hq
        · have : L1 = [] := List.eq_nil_of_length_eq_zero (by have := HL1.out; omega)
          rw [this, List.nil_append]
          exact Mg.nilL HSR1.out
        · have : R1 = [] := List.eq_nil_of_length_eq_zero (by have := HEM.out; omega)
          rw [this, List.append_nil]
          exact Mg.nilR HSL1.out)
      have HS2 := Lib.hid (show Sr w0 wc base g n c ((P ++ (L1 ++ R1)) ++ L2 ++ R2 ++ Q) by have h := HSO.out; simpa only [List.append_assoc] using h)
      go_wp2
      go_meet
      case rel => exact ⟨L1 ++ R1, HG1, HS2⟩
  case rest =>
  clear HSO
  obtain ⟨S1, HG1, HSO⟩ := hcut
  apply_assumption
  have HPS1 := Lib.hid (show (P ++ S1).length = M by rw [List.length_append, HPa.out, HG1.out.len]; have h1 := HL1.out; have h2 := HEM.out; omega)
  obtain ⟨bq2, hbq2⟩ : ∃ bq2 : Bool, (decide (M < E) && decide (E < b)) = bq2 := ⟨_, rfl⟩
  have Hbq2 := Lib.hid hbq2
  clear hbq2
  go_upto_region 43 with (fail)
  go_cut [213] from 206 to 212 (fun v wq => v = .bool bq2 ∧ wc = wq)
  case first =>
    by_cases h1 : M < E
    · have q1 : (M : Int) < (E : Int) := by omega
      by_cases h2 : E < b
      · have q2 : (E : Int) < (b : Int) := by omega
        have HE1 := Lib.hid (show true = bq2 by rw [← Hbq2.out, decide_eq_true h1, decide_eq_true h2]; rfl)
        go_wp2
        go_meet
        case rel => exact ⟨by rw [← HE1.out], rfl⟩
      · have q2 : decide ((E : Int) < (b : Int)) = false := decide_eq_false (by omega)
        have q2n : decide (E < b) = false := decide_eq_false h2
        have HE1 := Lib.hid (show false = bq2 by rw [← Hbq2.out, decide_eq_true h1, decide_eq_false h2]; rfl)
        clear h2
        go_wp2
        go_meet
        case rel => exact ⟨by rw [← HE1.out], rfl⟩
    · have q1 : decide ((M : Int) < (E : Int)) = false := decide_eq_false (by omega)
      have q1n : decide (M < E) = false := decide_eq_false h1
      have HE1 := Lib.hid (show false = bq2 by rw [← Hbq2.out, decide_eq_false h1]; rfl)
      clear h1
      go_wp2
      go_meet
      case rel => exact ⟨by rw [← HE1.out], rfl⟩
  case rest =>
  obtain ⟨rfl, rfl⟩ := hcut
  apply_assumption
  have HSL2 := Lib.hid (show Sd (ltC cf) L2 from by have h := HSL.out; rw [← HLS.out] at h; exact (sd_app.1 h).2.1)
  have HSR2 := Lib.hid (show Sd (ltC cf) R2 from by have h := HSR.out; rw [← HRS.out] at h; exact (sd_app.1 h).2.1)
  have HJOIN := Lib.hid (show ∀ S2, Mg (ltC cf) L2 R2 S2 → Mg (ltC cf) L R (S1 ++ S2) from fun S2 hg2 => by
    have h := Mg.join HWO.out HG1.out hg2 (by rw [HLS.out]; exact HSL.out) (by rw [HRS.out]; exact HSR.out) HBL.out HBT2.out
    rwa [HLS.out, HRS.out] at h)
  cases bq2 with
  | true =>
    have hq : M < E ∧ E < b := by have := Hbq2.out; simpa using this
    have hcall := IH.out (P ++ S1) L2 R2 Q M E b wc HDR.out HPS1.out HME.out HR2.out (by have := HME.out; omega) (by have := HR2.out; omega) HSL2.out HSR2.out HSO.out
    have HCALL := Lib.hid hcall
    clear hcall hq
    go_wp2_with fail
    refine HCALL.out.mono ?_
    rintro ee w2 ⟨rfl, S2, hg2, hs2⟩
    have HG2 := Lib.hid (HJOIN.out S2 hg2)
    have HS2 := Lib.hid hs2
    clear hs2 hg2
    go_wp2
    go_end0
    exact ⟨rfl, S1 ++ S2, HG2.out, by have h := HS2.out; simpa only [List.append_assoc] using h⟩
  | false =>
    have HG2 := Lib.hid (HJOIN.out (L2 ++ R2) (by
      have hq := Hbq2.out
      rw [Bool.and_eq_false_iff, decide_eq_false_iff_not, decide_eq_false_iff_not] at hq
      rcases hq with hq | hq
      · have : L2 = [] := List.eq_nil_of_length_eq_zero (by have := HME.out; omega)
        rw [this, List.nil_append]
        exact Mg.nilL HSR2.out
      · have : R2 = [] := List.eq_nil_of_length_eq_zero (by have := HR2.out; omega)
        rw [this, List.append_nil]
        exact Mg.nilR HSL2.out))
    go_wp2
    go_end0
    exact ⟨rfl, S1 ++ (L2 ++ R2), HG2.out, by have h := HSO.out; simpa only [List.append_assoc] using h⟩
end Go.Proofs.Ytffggkhahambhaa.Tr

namespace Go.Proofs.Ytffggkhahambhaa.Sq
open Go.RowKit Go.Proofs.YtffggkhahambhaaW.PrintWords Go.Proofs.YtffggkhahambhaaW.PrintLast
set_option linter.unusedVariables false
variable {P : Program} {md : Region.Mode} {ops : Array Oper} {Q : Exit → Act → World → Prop} {S : World → Prop} {ds : List Nat}
/-- Which operations have run: the bits of a number. -/
def fl (n m : Nat) : Array Bool := ((List.range n).map (Nat.testBit m)).toArray
theorem pu (i : Nat) (N : Option Tmp) {oi : Oper} {v : Value} {fuel : Nat} {l : Array Bool} {a : Act} {w : World} (l' : Array Bool) {a' : Act}
    (h : wpAnyLast P md ops Q S ds fuel l' a' w) (hi : ops[i]? = some oi := by rfl) (hN : oi.dst = N := by rfl) (hc : anyB md ops l l' i = true := by kernel_rfl) (hQ : ∀ c a w, Q (.panic c) (a.put oi.dst v) w → Q (.panic c) a w := by exact fun _ _ _ h => h)
    (hw : Region.wanted oi (yielded ops a.tmps) = true := by rfl) (hy : ∀ w', (execOp a.eval oi).run P w' = .ok (.value v) w' := by intro w'; go_simp; with_reducible rfl)
    (ha : a.put N v = a' := by first | (simp only [Act.put, List.setIfInBounds_toArray, List.set_cons_zero, List.set_cons_succ, i64_w, i32_w]; rfl) | rfl) : wpAnyLast P md ops Q S ds (fuel + 1) l a w :=
  pure_ l' hi hN hc hQ (Or.inl ⟨hw, hy⟩) ha h
theorem off (i : Nat) (N : Option Tmp) {oi : Oper} {fuel : Nat} {l : Array Bool} {a : Act} {w : World} (l' : Array Bool) {a' : Act}
    (h : wpAnyLast P md ops Q S ds fuel l' a' w) (hi : ops[i]? = some oi := by rfl) (hN : oi.dst = N := by rfl) (hc : anyB md ops l l' i = true := by kernel_rfl) (hQ : ∀ c a w, Q (.panic c) (a.put oi.dst undef) w → Q (.panic c) a w := by exact fun _ _ _ h => h)
    (hw : Region.wanted oi (yielded ops a.tmps) = false := by rfl)
    (ha : a.put N undef = a' := by first | (simp only [Act.put, List.setIfInBounds_toArray, List.set_cons_zero, List.set_cons_succ, i64_w, i32_w]; rfl) | rfl) : wpAnyLast P md ops Q S ds (fuel + 1) l a w :=
  pure_ l' hi hN hc hQ (Or.inr ⟨hw, rfl⟩) ha h
theorem tk (i : Nat) (N : Option Tmp) {oi : Oper} {v : Value} {fuel : Nat} {l : Array Bool} {a : Act} {w : World} (l' : Array Bool) (hS : S w) {a' : Act}
    (h : wpAnyLast P md ops Q S ds fuel l' a' w) (hi : ops[i]? = some oi := by rfl) (hN : oi.dst = N := by rfl) (hc : takeB md ops ds l l' i = true := by kernel_rfl) (hQ : ∀ c a w, Q (.panic c) (a.put oi.dst v) w → Q (.panic c) a w := by exact fun _ _ _ h => h)
    (hw : Region.wanted oi (yielded ops a.tmps) = true := by rfl) (hy : ∀ w', S w' → (execOp a.eval oi).run P w' = .ok (.value v) w' := by intro w' hS_; (repeat (obtain ⟨_, hS_⟩ := hS_)); go_simp; with_reducible rfl)
    (ha : a.put N v = a' := by first | (simp only [Act.put, List.setIfInBounds_toArray, List.set_cons_zero, List.set_cons_succ, i64_w, i32_w]; rfl) | rfl) : wpAnyLast P md ops Q S ds (fuel + 1) l a w :=
  take_ l' hi hN hc hQ (Or.inl ⟨hw, hy⟩) hS ha h
theorem on_ (i : Nat) (N : Option Tmp) {oi : Oper} {fuel : Nat} {l : Array Bool} {a : Act} {w : World} (l' : Array Bool)
    (h : ∀ K : Act → World → Prop, Shut (∀ a' w', S w' → (S w' → wpAnyLast P md ops Q S ds fuel l' a' w') → K a' w') → if Region.wanted oi (yielded ops a.tmps) = true then Oper.wp P oi a w K Q else K (a.put N undef) w)
    (hi : ops[i]? = some oi := by rfl) (hN : oi.dst = N := by rfl) (hc : readyB md ops l l' i = true := by kernel_rfl) (hd : i ∉ ds := by decide) : wpAnyLast P md ops Q S ds (fuel + 1) l a w :=
  one_ l' hi hN hc hd h
theorem nm {fuel : Nat} {l : Array Bool} {a a' : Act} {w : World} (h : wpAnyLast P md ops Q S ds fuel l a' w) (ha : a = a' := by simp only [putAll, Act.put, List.setIfInBounds_toArray, List.set_cons_zero, List.set_cons_succ, i64_w, i32_w]; rfl) : wpAnyLast P md ops Q S ds fuel l a w := norm_ ha h
theorem gs {oi : Oper} {N : Option Tmp} {a : Act} {w : World} {K : Act → World → Prop} {f : FuncId} {fn : Func} (hf : P.funcs[f]? = some fn) {ags : Array Operand} {ts : Array TypeId} (args : Array Value)
    (h : Calls P f args w fun e w' => ∃ v, e = .returned v ∧ K (a.put N v) w') (hw : Region.wanted oi (yielded ops a.tmps) = true := by rfl) (hN : oi.dst = N := by rfl) (hop : oi.op = .call { callee := .value (.func f), args := ags, argTypes := ts } := by rfl)
    (hname : (fn.name == "runtime.NumGoroutine") = false := by kernel_rfl) (hb : fn.body.isSome = true := by rfl) (hargs : ags.map a.eval = args := by first | (simp only [List.map_toArray, List.map_cons, List.map_nil]; rfl) | simp only [List.map_toArray, List.map_nil]) :
    if Region.wanted oi (yielded ops a.tmps) = true then Oper.wp P oi a w K Q else K (a.put N undef) w := goes_ hf hname hb args hw hN hop hargs h
end Go.Proofs.Ytffggkhahambhaa.Sq
