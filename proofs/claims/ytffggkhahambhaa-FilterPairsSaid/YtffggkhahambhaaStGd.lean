/- filter.Holds: printed by tools/st_holds.py. -/
import Derived.Test.YtffggkhahambhaaSq
import Derived.Test.YtffggkhahambhaaPAllx4
import Derived.Test.YtffggkhahambhaaPAllx5
import Derived.Test.YtffggkhahambhaaPAllx6
import Derived.Test.YtffggkhahambhaaPAllx0
import Derived.Test.YtffggkhahambhaaPAllx1
import Derived.Test.YtffggkhahambhaaPAllx2
import Derived.Test.YtffggkhahambhaaPAllx3
import Derived.Test.YtffggkhahambhaaPAllx8
import Derived.Test.YtffggkhahambhaaPAllx15
import Derived.Lib.BytesEntry
import Derived.Laws.Externs
import Derived.Test.YtffggkhahambhaaPAllx7
import Derived.Lib.ValidLaws
import Derived.Test.YtffggkhahambhaaPAllx9
namespace Go.Proofs.Ytffggkhahambhaa.Tr
open Go.RowKit Go.Proofs.YtffggkhahambhaaW.PrintWords Go.Proofs.YtffggkhahambhaaW.PrintLast Go.Proofs.YtffggkhahambhaaW.PrintMore Go.Proofs.Ytffggkhahambhaa.Math Go.Proofs.Ytffggkhahambhaa.PAll Go.Proofs.Ytffggkhahambhaa.MapG Go.Proofs.Ytffggkhahambhaa.Span Go.Proofs.Ytffggkhahambhaa.PLow
set_option linter.unusedVariables false
set_option linter.unusedSimpArgs false
def numI (a0 a1 a2 a5 a6 a7 : Int) (k : ByteArray) : Option Int := if k = (⟨#[112, 97, 114, 101, 110, 116]⟩ : ByteArray) then some a2 else if k = (⟨#[105, 100]⟩ : ByteArray) then some a1 else if k = (⟨#[116, 114, 97, 99, 101]⟩ : ByteArray) then some a0 else if k = (⟨#[115, 116, 97, 114, 116]⟩ : ByteArray) then some (IntKind.u64.wrap a5) else if k = (⟨#[100, 117, 114]⟩ : ByteArray) then some (IntKind.u64.wrap a6) else if k = (⟨#[115, 116, 97, 116, 117, 115]⟩ : ByteArray) then some (IntKind.u64.wrap a7) else none
theorem numF_eq (s : Sp) (k : ByteArray) : numF s k = (numI s.tr s.id s.par s.st s.du s.stt k).map (Value.int .u64) := by
  unfold numF numI
  repeat' split
  all_goals rfl

set_option maxHeartbeats 8000000 in
set_option maxRecDepth 1000000 in
theorem holds_num (t0 : ByteArray) (t1 t2 : Int) (t3 : ByteArray) (t4 : Int) (t5 : Bool) (a0 a1 a2 : Int) (a3 a4 : ByteArray) (a5 a6 a7 : Int) (A8 : Option Addr) (c8 : Nat) (l8 : List S45) (A9 : Option Addr) (c9 : Nat) (l9 : List S77) (A10 : Option Addr) (c10 : Nat) (l10 : List S80) (n : Int) (r : Bool) (w : World) (hn : numI a0 a1 a2 a5 a6 a7 t0 = some n) (hr : filter_holds.f t1 (if 9223372036854775807 < n then 1 else cmpI (wrap64 n) t4) = some r) : Calls Try.prog 15 #[.agg #[.string t0, .int .i64 t1, .int .i64 t2, .string t3, .int .i64 t4, .bool t5], .agg #[.int .u64 a0, .int .u64 a1, .int .u64 a2, .string a3, .string a4, .int .i64 a5, .int .i64 a6, .int .i64 a7, .slice A8 l8.length c8, .slice A9 l9.length c9, .slice A10 l10.length c10]] w fun e w' => e = .returned (.bool r) ∧ Below w.heap.size w w' := by
  have HNUM := Lib.hid (show numF (⟨a0, a1, a2, a3, a4, a5, a6, a7, (A8, l8.length, c8), (A9, l9.length, c9), (A10, l10.length, c10)⟩ : Sp) t0 = some (.int .u64 n) by rw [numF_eq]; show (numI a0 a1 a2 a5 a6 a7 t0).map _ = _; rw [hn]; rfl)
  have HR := Lib.hid hr
  clear hn hr
  have hgr := below_alloc (below_alloc (Below.refl w.heap.size w) (.cells #[.string t0, .int .i64 t1, .int .i64 t2, .string t3, .int .i64 t4, .bool t5] 41)) (.cells #[.int .u64 a0, .int .u64 a1, .int .u64 a2, .string a3, .string a4, .int .i64 a5, .int .i64 a6, .int .i64 a7, .slice A8 l8.length c8, .slice A9 l9.length c9, .slice A10 l10.length c10] 34)
  have k1 : ((w.alloc (.cells #[.string t0, .int .i64 t1, .int .i64 t2, .string t3, .int .i64 t4, .bool t5] 41)).alloc (.cells #[.int .u64 a0, .int .u64 a1, .int .u64 a2, .string a3, .string a4, .int .i64 a5, .int .i64 a6, .int .i64 a7, .slice A8 l8.length c8, .slice A9 l9.length c9, .slice A10 l10.length c10] 34)).heap[w.heap.size]? = some (.cells #[.string t0, .int .i64 t1, .int .i64 t2, .string t3, .int .i64 t4, .bool t5] 41 (0, 0)) := block_below (heap_alloc_new w _) (below_alloc (Below.refl _ _) _)
  have k2 : ((w.alloc (.cells #[.string t0, .int .i64 t1, .int .i64 t2, .string t3, .int .i64 t4, .bool t5] 41)).alloc (.cells #[.int .u64 a0, .int .u64 a1, .int .u64 a2, .string a3, .string a4, .int .i64 a5, .int .i64 a6, .int .i64 a7, .slice A8 l8.length c8, .slice A9 l9.length c9, .slice A10 l10.length c10] 34)).heap[(w.alloc (.cells #[.string t0, .int .i64 t1, .int .i64 t2, .string t3, .int .i64 t4, .bool t5] 41)).heap.size]? = some (.cells #[.int .u64 a0, .int .u64 a1, .int .u64 a2, .string a3, .string a4, .int .i64 a5, .int .i64 a6, .int .i64 a7, .slice A8 l8.length c8, .slice A9 l9.length c9, .slice A10 l10.length c10] 34 (0, 0)) := heap_alloc_new _ _
  rw [show (w.alloc (.cells #[.string t0, .int .i64 t1, .int .i64 t2, .string t3, .int .i64 t4, .bool t5] 41)).heap.size = w.heap.size + 1 by simp] at k2
  have HG := Lib.hid hgr
  have K1 := Lib.hid k1
  have K2 := Lib.hid k2
  clear hgr k1 k2
  go_enter Try.func15, Try.ntmps15
  go_wp2
  have k1 := blk_drew K1.out
  have k2 := blk_drew K2.out
  have hg := below_drew1 HG.out
  refine start_ (n := 10) (S := fun w' => w'.cell? ⟨w.heap.size, 0, none⟩ = some (.string t0) ∧ w'.cell? ⟨w.heap.size + 1, 0, none⟩ = some (.int .u64 a0) ∧ w'.cell? ⟨w.heap.size + 1, 1, none⟩ = some (.int .u64 a1) ∧ w'.cell? ⟨w.heap.size + 1, 2, none⟩ = some (.int .u64 a2) ∧ w'.cell? ⟨w.heap.size + 1, 3, none⟩ = some (.string a3) ∧ w'.cell? ⟨w.heap.size + 1, 4, none⟩ = some (.string a4) ∧ w'.cell? ⟨w.heap.size + 1, 5, none⟩ = some (.int .i64 a5) ∧ w'.cell? ⟨w.heap.size + 1, 6, none⟩ = some (.int .i64 a6) ∧ w'.cell? ⟨w.heap.size + 1, 7, none⟩ = some (.int .i64 a7) ∧ w'.cell? ⟨w.heap.size + 1, 8, none⟩ = some (.slice A8 l8.length c8) ∧ w'.cell? ⟨w.heap.size + 1, 9, none⟩ = some (.slice A9 l9.length c9) ∧ w'.cell? ⟨w.heap.size + 1, 10, none⟩ = some (.slice A10 l10.length c10)) (ds := []) #[false, false, false, false, false, false, false, false, false, false] (by kernel_rfl) rfl rfl ⟨(blk_cell k1 0).trans rfl, (blk_cell k2 0).trans rfl, (blk_cell k2 1).trans rfl, (blk_cell k2 2).trans rfl, (blk_cell k2 3).trans rfl, (blk_cell k2 4).trans rfl, (blk_cell k2 5).trans rfl, (blk_cell k2 6).trans rfl, (blk_cell k2 7).trans rfl, (blk_cell k2 8).trans rfl, (blk_cell k2 9).trans rfl, (blk_cell k2 10).trans rfl⟩ (fun hHeld => ?_)
  generalize ((w.alloc (.cells #[.string t0, .int .i64 t1, .int .i64 t2, .string t3, .int .i64 t4, .bool t5] 41)).alloc (.cells #[.int .u64 a0, .int .u64 a1, .int .u64 a2, .string a3, .string a4, .int .i64 a5, .int .i64 a6, .int .i64 a7, .slice A8 l8.length c8, .slice A9 l9.length c9, .slice A10 l10.length c10] 34)).drew = w5 at k1 k2 hg hHeld ⊢
  have K15 := Lib.hid k1
  have K25 := Lib.hid k2
  have HG5 := Lib.hid hg
  clear k1 k2 hg
  refine pure_ (i := 2) (N := some 13) (v := ?_) (a' := ?_) #[false, false, true, false, false, false, false, false, false, false] rfl rfl (by kernel_rfl) (fun _ _ _ h => h) (Or.inl ⟨by rfl, ?_⟩) ?_ ?_
  rotate_left
  · intro w'
    go_simp
    with_reducible rfl
  rotate_left
  · simp only [Act.put, List.setIfInBounds_toArray, List.set_cons_zero, List.set_cons_succ, i64_w, i32_w]
    rfl
  refine take_ (i := 0) (N := some 11) (v := ?_) (a' := ?_) #[true, false, true, false, false, false, false, false, false, false] rfl rfl (by kernel_rfl) (fun _ _ _ h => h) (Or.inl ⟨by rfl, ?_⟩) hHeld ?_ ?_
  rotate_left
  · rintro w' ⟨s0, s1, s2, s3, s4, s5, s6, s7, s8, s9, s10, s11⟩
    go_simp
    with_reducible rfl
  rotate_left
  · simp only [Act.put, List.setIfInBounds_toArray, List.set_cons_zero, List.set_cons_succ, i64_w, i32_w]
    rfl
  refine take_ (i := 3) (N := some 14) (v := ?_) (a' := ?_) #[true, false, true, true, false, false, false, false, false, false] rfl rfl (by kernel_rfl) (fun _ _ _ h => h) (Or.inl ⟨by rfl, ?_⟩) hHeld ?_ ?_
  rotate_left
  · rintro w' ⟨s0, s1, s2, s3, s4, s5, s6, s7, s8, s9, s10, s11⟩
    go_simp
    with_reducible rfl
  rotate_left
  · simp only [Act.put, List.setIfInBounds_toArray, List.set_cons_zero, List.set_cons_succ, i64_w, i32_w]
    rfl
  refine one_ (i := 1) (N := some 12) #[true, true, true, true, false, false, false, false, false, false] rfl rfl (by kernel_rfl) (by decide) (fun K hK => ?_)
  have hnum := numbers_calls (⟨a0, a1, a2, a3, a4, a5, a6, a7, (A8, l8.length, c8), (A9, l9.length, c9), (A10, l10.length, c10)⟩ : Sp) w5
  rw [arr_S] at hnum
  dsimp only at hnum
  refine goes_ Try.func36 (by kernel_rfl) rfl #[.agg #[.int .u64 a0, .int .u64 a1, .int .u64 a2, .string a3, .string a4, .int .i64 a5, .int .i64 a6, .int .i64 a7, .slice A8 l8.length c8, .slice A9 l9.length c9, .slice A10 l10.length c10]] (by rfl) rfl rfl (by simp only [List.map_toArray, List.map_cons, List.map_nil]; rfl) ?_
  with_reducible refine (hnum).mono ?_
  rintro e w6 ⟨g, es, clk, rfl, hmap, hmo, hb6⟩
  refine ⟨_, rfl, ?_⟩
  have hlk : (Instr.lookup 64 (.map (some g)) (.string t0) true).run Try.prog w6 = .ok (.tuple #[.int .u64 n, .bool true]) w6 := (run_look mkey_string Try.underlying64 Try.underlying9 (.int .u64 0) w6 (Try.zeroValue29 w6) hmap hmo t0).trans (by rw [HNUM.out]; rfl)
  have K16 := Lib.hid (block_below K15.out hb6)
  have K26 := Lib.hid (block_below K25.out hb6)
  have HG6 := Lib.hid (below_step HG5.out hb6)
  clear hnum hmap hmo hb6
  refine hK.out _ _ ⟨(blk_cell K16.out 0).trans rfl, (blk_cell K26.out 0).trans rfl, (blk_cell K26.out 1).trans rfl, (blk_cell K26.out 2).trans rfl, (blk_cell K26.out 3).trans rfl, (blk_cell K26.out 4).trans rfl, (blk_cell K26.out 5).trans rfl, (blk_cell K26.out 6).trans rfl, (blk_cell K26.out 7).trans rfl, (blk_cell K26.out 8).trans rfl, (blk_cell K26.out 9).trans rfl, (blk_cell K26.out 10).trans rfl⟩ (fun hHeld => ?_)
  clear hK K
  refine norm_ (a' := ?_) ?_ ?_
  rotate_left
  · show Act.put _ (some 12) _ = _
    simp only [Act.put, List.setIfInBounds_toArray, List.set_cons_zero, List.set_cons_succ, i64_w, i32_w]
    rfl
  refine one_ (i := 4) (N := some 15) #[true, true, true, true, true, false, false, false, false, false] rfl rfl (by kernel_rfl) (by decide) (fun K hK => ?_)
  refine value_ (w1 := ?_) (v := ?_) (by rfl) rfl ?_ ?_
  rotate_left 2
  · go_simp
    constructor
    · rfl
    · rfl
  refine hK.out _ _ ⟨(blk_cell K16.out 0).trans rfl, (blk_cell K26.out 0).trans rfl, (blk_cell K26.out 1).trans rfl, (blk_cell K26.out 2).trans rfl, (blk_cell K26.out 3).trans rfl, (blk_cell K26.out 4).trans rfl, (blk_cell K26.out 5).trans rfl, (blk_cell K26.out 6).trans rfl, (blk_cell K26.out 7).trans rfl, (blk_cell K26.out 8).trans rfl, (blk_cell K26.out 9).trans rfl, (blk_cell K26.out 10).trans rfl⟩ (fun hHeld => ?_)
  clear hK K
  refine norm_ (a' := ?_) ?_ ?_
  rotate_left
  · show Act.put _ (some 15) _ = _
    simp only [Act.put, List.setIfInBounds_toArray, List.set_cons_zero, List.set_cons_succ, i64_w, i32_w]
    rfl
  refine pure_ (i := 5) (N := some 10) (v := ?_) (a' := ?_) #[true, true, true, true, true, true, false, false, false, false] rfl rfl (by kernel_rfl) (fun _ _ _ h => h) (Or.inl ⟨by rfl, ?_⟩) ?_ ?_
  rotate_left
  · intro w'
    go_simp
    with_reducible rfl
  rotate_left
  · simp only [Act.put, List.setIfInBounds_toArray, List.set_cons_zero, List.set_cons_succ, i64_w, i32_w]
    rfl
  refine pure_ (i := 6) (N := some 16) (v := ?_) (a' := ?_) #[true, true, true, true, true, true, true, false, false, false] rfl rfl (by kernel_rfl) (fun _ _ _ h => h) (Or.inl ⟨by rfl, ?_⟩) ?_ ?_
  rotate_left
  · intro w'
    go_simp
    with_reducible rfl
  rotate_left
  · simp only [Act.put, List.setIfInBounds_toArray, List.set_cons_zero, List.set_cons_succ, i64_w, i32_w]
    rfl
  refine pure_ (i := 7) (N := some 17) (v := ?_) (a' := ?_) #[true, true, true, true, true, true, true, true, false, false] rfl rfl (by kernel_rfl) (fun _ _ _ h => h) (Or.inl ⟨by rfl, ?_⟩) ?_ ?_
  rotate_left
  · intro w'
    go_simp
    with_reducible rfl
  rotate_left
  · simp only [Act.put, List.setIfInBounds_toArray, List.set_cons_zero, List.set_cons_succ, i64_w, i32_w]
    rfl
  refine pure_ (i := 8) (N := some 5) (v := ?_) (a' := ?_) #[true, true, true, true, true, true, true, true, true, false] rfl rfl (by kernel_rfl) (fun _ _ _ h => h) (Or.inl ⟨by rfl, ?_⟩) ?_ ?_
  rotate_left
  · intro w'
    go_simp
    with_reducible rfl
  rotate_left
  · simp only [Act.put, List.setIfInBounds_toArray, List.set_cons_zero, List.set_cons_succ, i64_w, i32_w]
    rfl
  refine pure_ (i := 9) (N := some 6) (v := ?_) (a' := ?_) #[true, true, true, true, true, true, true, true, true, true] rfl rfl (by kernel_rfl) (fun _ _ _ h => h) (Or.inl ⟨by rfl, ?_⟩) ?_ ?_
  rotate_left
  · intro w'
    go_simp
    with_reducible rfl
  rotate_left
  · simp only [Act.put, List.setIfInBounds_toArray, List.set_cons_zero, List.set_cons_succ, i64_w, i32_w]
    rfl
  refine done_ (by kernel_rfl) ?_
  clear hlk
  have y1 : w6.cell? ⟨w.heap.size, 1, none⟩ = some (.int .i64 t1) := (blk_cell K16.out 1).trans rfl
  by_cases hbig : 9223372036854775807 < n
  · have d : decide (9223372036854775807 < n) = true := decide_eq_true hbig
    have HRR := Lib.hid (show filter_holds.f t1 1 = some r by have := HR.out; rw [if_pos hbig] at this; exact this)
    clear hbig
    go_wp2_with fail
    refine (filter_holds.calls t1 1 r _ HRR.out).mono ?_
    rintro e w8 ⟨rfl, nd, rfl⟩
    go_wp2
    go_ret
    exact ⟨rfl, HG6.out.os, HG6.out.tape, HG6.out.output, HG6.out.size, HG6.out.block⟩
  · have d : decide (9223372036854775807 < n) = false := decide_eq_false hbig
    have HRR := Lib.hid (show filter_holds.f t1 (cmpI (wrap64 n) t4) = some r by have := HR.out; rw [if_neg hbig] at this; exact this)
    clear hbig
    go_wp2
    have k1 := blk_drew K16.out
    have hg := below_drew1 HG6.out
    refine start_ (n := 10) (S := fun w' => w'.cell? ⟨w.heap.size, 1, none⟩ = some (.int .i64 t1) ∧ w'.cell? ⟨w.heap.size, 4, none⟩ = some (.int .i64 t4)) (ds := []) #[false, false, false, false, false, false, false, false, false, false] (by kernel_rfl) rfl rfl ⟨(blk_cell k1 1).trans rfl, (blk_cell k1 4).trans rfl⟩ (fun hHeld => ?_)
    generalize w6.drew = w7 at k1 hg hHeld ⊢
    have K17 := Lib.hid k1
    have HG7 := Lib.hid hg
    clear k1 hg
    refine pure_ (i := 0) (N := some 24) (v := ?_) (a' := ?_) #[true, false, false, false, false, false, false, false, false, false] rfl rfl (by kernel_rfl) (fun _ _ _ h => h) (Or.inl ⟨by rfl, ?_⟩) ?_ ?_
    rotate_left
    · intro w'
      go_simp
      with_reducible rfl
    rotate_left
    · simp only [Act.put, List.setIfInBounds_toArray, List.set_cons_zero, List.set_cons_succ, i64_w, i32_w]
      rfl
    refine pure_ (i := 2) (N := some 26) (v := ?_) (a' := ?_) #[true, false, true, false, false, false, false, false, false, false] rfl rfl (by kernel_rfl) (fun _ _ _ h => h) (Or.inl ⟨by rfl, ?_⟩) ?_ ?_
    rotate_left
    · intro w'
      go_simp
      with_reducible rfl
    rotate_left
    · simp only [Act.put, List.setIfInBounds_toArray, List.set_cons_zero, List.set_cons_succ, i64_w, i32_w]
      rfl
    refine pure_ (i := 3) (N := some 27) (v := ?_) (a' := ?_) #[true, false, true, true, false, false, false, false, false, false] rfl rfl (by kernel_rfl) (fun _ _ _ h => h) (Or.inl ⟨by rfl, ?_⟩) ?_ ?_
    rotate_left
    · intro w'
      go_simp
      with_reducible rfl
    rotate_left
    · simp only [Act.put, List.setIfInBounds_toArray, List.set_cons_zero, List.set_cons_succ, i64_w, i32_w]
      rfl
    refine pure_ (i := 4) (N := some 28) (v := ?_) (a' := ?_) #[true, false, true, true, true, false, false, false, false, false] rfl rfl (by kernel_rfl) (fun _ _ _ h => h) (Or.inl ⟨by rfl, ?_⟩) ?_ ?_
    rotate_left
    · intro w'
      go_simp
      with_reducible rfl
    rotate_left
    · simp only [Act.put, List.setIfInBounds_toArray, List.set_cons_zero, List.set_cons_succ, i64_w, i32_w]
      rfl
    refine pure_ (i := 5) (N := some 29) (v := ?_) (a' := ?_) #[true, false, true, true, true, true, false, false, false, false] rfl rfl (by kernel_rfl) (fun _ _ _ h => h) (Or.inl ⟨by rfl, ?_⟩) ?_ ?_
    rotate_left
    · intro w'
      go_simp
      with_reducible rfl
    rotate_left
    · simp only [Act.put, List.setIfInBounds_toArray, List.set_cons_zero, List.set_cons_succ, i64_w, i32_w]
      rfl
    refine take_ (i := 1) (N := some 25) (v := ?_) (a' := ?_) #[true, true, true, true, true, true, false, false, false, false] rfl rfl (by kernel_rfl) (fun _ _ _ h => h) (Or.inl ⟨by rfl, ?_⟩) hHeld ?_ ?_
    rotate_left
    · rintro w' ⟨s0, s1⟩
      go_simp
      with_reducible rfl
    rotate_left
    · simp only [Act.put, List.setIfInBounds_toArray, List.set_cons_zero, List.set_cons_succ, i64_w, i32_w]
      rfl
    refine take_ (i := 6) (N := some 30) (v := ?_) (a' := ?_) #[true, true, true, true, true, true, true, false, false, false] rfl rfl (by kernel_rfl) (fun _ _ _ h => h) (Or.inl ⟨by rfl, ?_⟩) hHeld ?_ ?_
    rotate_left
    · rintro w' ⟨s0, s1⟩
      go_simp
      with_reducible rfl
    rotate_left
    · simp only [Act.put, List.setIfInBounds_toArray, List.set_cons_zero, List.set_cons_succ, i64_w, i32_w]
      rfl
    refine one_ (i := 7) (N := some 31) #[true, true, true, true, true, true, true, true, false, false] rfl rfl (by kernel_rfl) (by decide) (fun K hK => ?_)
    refine goes_ Try.func38 (by kernel_rfl) rfl #[.int .i64 (wrap64 n), .int .i64 t4] (by rfl) rfl rfl (by simp only [List.map_toArray, List.map_cons, List.map_nil]; rfl) ?_
    with_reducible refine (cmp_Compare_int64.calls _ _ _ w7 (cmp64 (wrap64 n) t4)).mono ?_
    rintro e w8 ⟨rfl, nd, rfl⟩
    refine ⟨_, rfl, ?_⟩
    refine hK.out _ _ ⟨(blk_cell K17.out 1).trans rfl, (blk_cell K17.out 4).trans rfl⟩ (fun hHeld => ?_)
    clear hK K
    refine norm_ (a' := ?_) ?_ ?_
    rotate_left
    · show Act.put _ (some 31) _ = _
      simp only [Act.put, List.setIfInBounds_toArray, List.set_cons_zero, List.set_cons_succ, i64_w, i32_w]
      rfl
    refine one_ (i := 8) (N := some 32) #[true, true, true, true, true, true, true, true, true, false] rfl rfl (by kernel_rfl) (by decide) (fun K hK => ?_)
    refine goes_ Try.func37 (by kernel_rfl) rfl #[.int .i64 t1, .int .i64 (cmpI (wrap64 n) t4)] (by rfl) rfl rfl (by simp only [List.map_toArray, List.map_cons, List.map_nil]; rfl) ?_
    with_reducible refine (filter_holds.calls t1 (cmpI (wrap64 n) t4) r _ HRR.out).mono ?_
    rintro e w9 ⟨rfl, nd2, rfl⟩
    refine ⟨_, rfl, ?_⟩
    refine hK.out _ _ ⟨(blk_cell K17.out 1).trans rfl, (blk_cell K17.out 4).trans rfl⟩ (fun hHeld => ?_)
    clear hK K
    refine norm_ (a' := ?_) ?_ ?_
    rotate_left
    · show Act.put _ (some 32) _ = _
      simp only [Act.put, List.setIfInBounds_toArray, List.set_cons_zero, List.set_cons_succ, i64_w, i32_w]
      rfl
    refine pure_ (i := 9) (N := some 4) (v := ?_) (a' := ?_) #[true, true, true, true, true, true, true, true, true, true] rfl rfl (by kernel_rfl) (fun _ _ _ h => h) (Or.inl ⟨by rfl, ?_⟩) ?_ ?_
    rotate_left
    · intro w'
      go_simp
      with_reducible rfl
    rotate_left
    · simp only [Act.put, List.setIfInBounds_toArray, List.set_cons_zero, List.set_cons_succ, i64_w, i32_w]
      rfl
    refine done_ (by kernel_rfl) ?_
    go_wp2
    go_ret
    exact ⟨rfl, HG7.out.os, HG7.out.tape, HG7.out.output, HG7.out.size, HG7.out.block⟩

/-- What Holds tells of a field's value. -/
def holdV (k : Nat) (t1 t2 : Int) (t3 : ByteArray) (t4 : Int) (t5 : Bool) (r1 : Int) (r2 : ByteArray) (r3 : Int) (r4 ok : Bool) : Option Bool := if ok = false then some false else if t1 = 6 then (if r1 = t2 then text_Match.f k t3 r2 else some false) else if (cmpV r1 r2 r3 r4 t2 t3 t4 t5).2 = true then filter_holds.f t1 (cmpV r1 r2 r3 r4 t2 t3 t4 t5).1 else some false
set_option maxHeartbeats 8000000 in
set_option maxRecDepth 1000000 in
theorem holds_val (k : Nat) (t0 : ByteArray) (t1 t2 : Int) (t3 : ByteArray) (t4 : Int) (t5 : Bool) (a0 a1 a2 : Int) (a3 a4 : ByteArray) (a5 a6 a7 : Int) (A8 : Option Addr) (c8 : Nat) (l8 : List S45) (A9 : Option Addr) (c9 : Nat) (l9 : List S77) (A10 : Option Addr) (c10 : Nat) (l10 : List S80) (r1 : Int) (r2 : ByteArray) (r3 : Int) (r4 ok : Bool) (r : Bool) (w : World) (hc8 : Kd.C k45 w A8 l8.length l8) (hl8 : l8.length ≤ c8) (hc9 : Kd.C k77 w A9 l9.length l9) (hl9 : l9.length ≤ c9) (hc10 : Kd.C k80 w A10 l10.length l10) (hl10 : l10.length ≤ c10) (hn : numI a0 a1 a2 a5 a6 a7 t0 = none) (hv : filter_value.f k t0 a0 a1 a2 a3 a4 a5 a6 a7 l8 l9 l10 = some (r1, r2, r3, r4, ok)) (hr : holdV k t1 t2 t3 t4 t5 r1 r2 r3 r4 ok = some r) : Calls Try.prog 15 #[.agg #[.string t0, .int .i64 t1, .int .i64 t2, .string t3, .int .i64 t4, .bool t5], .agg #[.int .u64 a0, .int .u64 a1, .int .u64 a2, .string a3, .string a4, .int .i64 a5, .int .i64 a6, .int .i64 a7, .slice A8 l8.length c8, .slice A9 l9.length c9, .slice A10 l10.length c10]] w fun e w' => e = .returned (.bool r) ∧ Below w.heap.size w w' := by
  have HNUM := Lib.hid (show numF (⟨a0, a1, a2, a3, a4, a5, a6, a7, (A8, l8.length, c8), (A9, l9.length, c9), (A10, l10.length, c10)⟩ : Sp) t0 = none by rw [numF_eq]; show (numI a0 a1 a2 a5 a6 a7 t0).map _ = _; rw [hn]; rfl)
  have HR := Lib.hid hr
  have HV := Lib.hid hv
  have HC8 := Lib.hid hc8
  have HL8 := Lib.hid hl8
  have HC9 := Lib.hid hc9
  have HL9 := Lib.hid hl9
  have HC10 := Lib.hid hc10
  have HL10 := Lib.hid hl10
  clear hn hr hv hc8 hl8 hc9 hl9 hc10 hl10
  have hgr := below_alloc (below_alloc (Below.refl w.heap.size w) (.cells #[.string t0, .int .i64 t1, .int .i64 t2, .string t3, .int .i64 t4, .bool t5] 41)) (.cells #[.int .u64 a0, .int .u64 a1, .int .u64 a2, .string a3, .string a4, .int .i64 a5, .int .i64 a6, .int .i64 a7, .slice A8 l8.length c8, .slice A9 l9.length c9, .slice A10 l10.length c10] 34)
  have k1 : ((w.alloc (.cells #[.string t0, .int .i64 t1, .int .i64 t2, .string t3, .int .i64 t4, .bool t5] 41)).alloc (.cells #[.int .u64 a0, .int .u64 a1, .int .u64 a2, .string a3, .string a4, .int .i64 a5, .int .i64 a6, .int .i64 a7, .slice A8 l8.length c8, .slice A9 l9.length c9, .slice A10 l10.length c10] 34)).heap[w.heap.size]? = some (.cells #[.string t0, .int .i64 t1, .int .i64 t2, .string t3, .int .i64 t4, .bool t5] 41 (0, 0)) := block_below (heap_alloc_new w _) (below_alloc (Below.refl _ _) _)
  have k2 : ((w.alloc (.cells #[.string t0, .int .i64 t1, .int .i64 t2, .string t3, .int .i64 t4, .bool t5] 41)).alloc (.cells #[.int .u64 a0, .int .u64 a1, .int .u64 a2, .string a3, .string a4, .int .i64 a5, .int .i64 a6, .int .i64 a7, .slice A8 l8.length c8, .slice A9 l9.length c9, .slice A10 l10.length c10] 34)).heap[(w.alloc (.cells #[.string t0, .int .i64 t1, .int .i64 t2, .string t3, .int .i64 t4, .bool t5] 41)).heap.size]? = some (.cells #[.int .u64 a0, .int .u64 a1, .int .u64 a2, .string a3, .string a4, .int .i64 a5, .int .i64 a6, .int .i64 a7, .slice A8 l8.length c8, .slice A9 l9.length c9, .slice A10 l10.length c10] 34 (0, 0)) := heap_alloc_new _ _
  rw [show (w.alloc (.cells #[.string t0, .int .i64 t1, .int .i64 t2, .string t3, .int .i64 t4, .bool t5] 41)).heap.size = w.heap.size + 1 by simp] at k2
  have HG := Lib.hid hgr
  have K1 := Lib.hid k1
  have K2 := Lib.hid k2
  clear hgr k1 k2
  go_enter Try.func15, Try.ntmps15
  go_wp2
  have k1 := blk_drew K1.out
  have k2 := blk_drew K2.out
  have hg := below_drew1 HG.out
  refine start_ (n := 10) (S := fun w' => w'.cell? ⟨w.heap.size, 0, none⟩ = some (.string t0) ∧ w'.cell? ⟨w.heap.size + 1, 0, none⟩ = some (.int .u64 a0) ∧ w'.cell? ⟨w.heap.size + 1, 1, none⟩ = some (.int .u64 a1) ∧ w'.cell? ⟨w.heap.size + 1, 2, none⟩ = some (.int .u64 a2) ∧ w'.cell? ⟨w.heap.size + 1, 3, none⟩ = some (.string a3) ∧ w'.cell? ⟨w.heap.size + 1, 4, none⟩ = some (.string a4) ∧ w'.cell? ⟨w.heap.size + 1, 5, none⟩ = some (.int .i64 a5) ∧ w'.cell? ⟨w.heap.size + 1, 6, none⟩ = some (.int .i64 a6) ∧ w'.cell? ⟨w.heap.size + 1, 7, none⟩ = some (.int .i64 a7) ∧ w'.cell? ⟨w.heap.size + 1, 8, none⟩ = some (.slice A8 l8.length c8) ∧ w'.cell? ⟨w.heap.size + 1, 9, none⟩ = some (.slice A9 l9.length c9) ∧ w'.cell? ⟨w.heap.size + 1, 10, none⟩ = some (.slice A10 l10.length c10)) (ds := []) #[false, false, false, false, false, false, false, false, false, false] (by kernel_rfl) rfl rfl ⟨(blk_cell k1 0).trans rfl, (blk_cell k2 0).trans rfl, (blk_cell k2 1).trans rfl, (blk_cell k2 2).trans rfl, (blk_cell k2 3).trans rfl, (blk_cell k2 4).trans rfl, (blk_cell k2 5).trans rfl, (blk_cell k2 6).trans rfl, (blk_cell k2 7).trans rfl, (blk_cell k2 8).trans rfl, (blk_cell k2 9).trans rfl, (blk_cell k2 10).trans rfl⟩ (fun hHeld => ?_)
  generalize ((w.alloc (.cells #[.string t0, .int .i64 t1, .int .i64 t2, .string t3, .int .i64 t4, .bool t5] 41)).alloc (.cells #[.int .u64 a0, .int .u64 a1, .int .u64 a2, .string a3, .string a4, .int .i64 a5, .int .i64 a6, .int .i64 a7, .slice A8 l8.length c8, .slice A9 l9.length c9, .slice A10 l10.length c10] 34)).drew = w5 at k1 k2 hg hHeld ⊢
  have K15 := Lib.hid k1
  have K25 := Lib.hid k2
  have HG5 := Lib.hid hg
  clear k1 k2 hg
  refine pure_ (i := 2) (N := some 13) (v := ?_) (a' := ?_) #[false, false, true, false, false, false, false, false, false, false] rfl rfl (by kernel_rfl) (fun _ _ _ h => h) (Or.inl ⟨by rfl, ?_⟩) ?_ ?_
  rotate_left
  · intro w'
    go_simp
    with_reducible rfl
  rotate_left
  · simp only [Act.put, List.setIfInBounds_toArray, List.set_cons_zero, List.set_cons_succ, i64_w, i32_w]
    rfl
  refine take_ (i := 0) (N := some 11) (v := ?_) (a' := ?_) #[true, false, true, false, false, false, false, false, false, false] rfl rfl (by kernel_rfl) (fun _ _ _ h => h) (Or.inl ⟨by rfl, ?_⟩) hHeld ?_ ?_
  rotate_left
  · rintro w' ⟨s0, s1, s2, s3, s4, s5, s6, s7, s8, s9, s10, s11⟩
    go_simp
    with_reducible rfl
  rotate_left
  · simp only [Act.put, List.setIfInBounds_toArray, List.set_cons_zero, List.set_cons_succ, i64_w, i32_w]
    rfl
  refine take_ (i := 3) (N := some 14) (v := ?_) (a' := ?_) #[true, false, true, true, false, false, false, false, false, false] rfl rfl (by kernel_rfl) (fun _ _ _ h => h) (Or.inl ⟨by rfl, ?_⟩) hHeld ?_ ?_
  rotate_left
  · rintro w' ⟨s0, s1, s2, s3, s4, s5, s6, s7, s8, s9, s10, s11⟩
    go_simp
    with_reducible rfl
  rotate_left
  · simp only [Act.put, List.setIfInBounds_toArray, List.set_cons_zero, List.set_cons_succ, i64_w, i32_w]
    rfl
  refine one_ (i := 1) (N := some 12) #[true, true, true, true, false, false, false, false, false, false] rfl rfl (by kernel_rfl) (by decide) (fun K hK => ?_)
  have hnum := numbers_calls (⟨a0, a1, a2, a3, a4, a5, a6, a7, (A8, l8.length, c8), (A9, l9.length, c9), (A10, l10.length, c10)⟩ : Sp) w5
  rw [arr_S] at hnum
  dsimp only at hnum
  refine goes_ Try.func36 (by kernel_rfl) rfl #[.agg #[.int .u64 a0, .int .u64 a1, .int .u64 a2, .string a3, .string a4, .int .i64 a5, .int .i64 a6, .int .i64 a7, .slice A8 l8.length c8, .slice A9 l9.length c9, .slice A10 l10.length c10]] (by rfl) rfl rfl (by simp only [List.map_toArray, List.map_cons, List.map_nil]; rfl) ?_
  with_reducible refine (hnum).mono ?_
  rintro e w6 ⟨g, es, clk, rfl, hmap, hmo, hb6⟩
  refine ⟨_, rfl, ?_⟩
  have hlk : (Instr.lookup 64 (.map (some g)) (.string t0) true).run Try.prog w6 = .ok (.tuple #[.int .u64 0, .bool false]) w6 := (run_look mkey_string Try.underlying64 Try.underlying9 (.int .u64 0) w6 (Try.zeroValue29 w6) hmap hmo t0).trans (by rw [HNUM.out]; rfl)
  have K16 := Lib.hid (block_below K15.out hb6)
  have K26 := Lib.hid (block_below K25.out hb6)
  have HG6 := Lib.hid (below_step HG5.out hb6)
  clear hnum hmap hmo hb6
  refine hK.out _ _ ⟨(blk_cell K16.out 0).trans rfl, (blk_cell K26.out 0).trans rfl, (blk_cell K26.out 1).trans rfl, (blk_cell K26.out 2).trans rfl, (blk_cell K26.out 3).trans rfl, (blk_cell K26.out 4).trans rfl, (blk_cell K26.out 5).trans rfl, (blk_cell K26.out 6).trans rfl, (blk_cell K26.out 7).trans rfl, (blk_cell K26.out 8).trans rfl, (blk_cell K26.out 9).trans rfl, (blk_cell K26.out 10).trans rfl⟩ (fun hHeld => ?_)
  clear hK K
  refine norm_ (a' := ?_) ?_ ?_
  rotate_left
  · show Act.put _ (some 12) _ = _
    simp only [Act.put, List.setIfInBounds_toArray, List.set_cons_zero, List.set_cons_succ, i64_w, i32_w]
    rfl
  refine one_ (i := 4) (N := some 15) #[true, true, true, true, true, false, false, false, false, false] rfl rfl (by kernel_rfl) (by decide) (fun K hK => ?_)
  refine value_ (w1 := ?_) (v := ?_) (by rfl) rfl ?_ ?_
  rotate_left 2
  · go_simp
    constructor
    · rfl
    · rfl
  refine hK.out _ _ ⟨(blk_cell K16.out 0).trans rfl, (blk_cell K26.out 0).trans rfl, (blk_cell K26.out 1).trans rfl, (blk_cell K26.out 2).trans rfl, (blk_cell K26.out 3).trans rfl, (blk_cell K26.out 4).trans rfl, (blk_cell K26.out 5).trans rfl, (blk_cell K26.out 6).trans rfl, (blk_cell K26.out 7).trans rfl, (blk_cell K26.out 8).trans rfl, (blk_cell K26.out 9).trans rfl, (blk_cell K26.out 10).trans rfl⟩ (fun hHeld => ?_)
  clear hK K
  refine norm_ (a' := ?_) ?_ ?_
  rotate_left
  · show Act.put _ (some 15) _ = _
    simp only [Act.put, List.setIfInBounds_toArray, List.set_cons_zero, List.set_cons_succ, i64_w, i32_w]
    rfl
  refine pure_ (i := 5) (N := some 10) (v := ?_) (a' := ?_) #[true, true, true, true, true, true, false, false, false, false] rfl rfl (by kernel_rfl) (fun _ _ _ h => h) (Or.inl ⟨by rfl, ?_⟩) ?_ ?_
  rotate_left
  · intro w'
    go_simp
    with_reducible rfl
  rotate_left
  · simp only [Act.put, List.setIfInBounds_toArray, List.set_cons_zero, List.set_cons_succ, i64_w, i32_w]
    rfl
  refine pure_ (i := 6) (N := some 16) (v := ?_) (a' := ?_) #[true, true, true, true, true, true, true, false, false, false] rfl rfl (by kernel_rfl) (fun _ _ _ h => h) (Or.inl ⟨by rfl, ?_⟩) ?_ ?_
  rotate_left
  · intro w'
    go_simp
    with_reducible rfl
  rotate_left
  · simp only [Act.put, List.setIfInBounds_toArray, List.set_cons_zero, List.set_cons_succ, i64_w, i32_w]
    rfl
  refine pure_ (i := 7) (N := some 17) (v := ?_) (a' := ?_) #[true, true, true, true, true, true, true, true, false, false] rfl rfl (by kernel_rfl) (fun _ _ _ h => h) (Or.inl ⟨by rfl, ?_⟩) ?_ ?_
  rotate_left
  · intro w'
    go_simp
    with_reducible rfl
  rotate_left
  · simp only [Act.put, List.setIfInBounds_toArray, List.set_cons_zero, List.set_cons_succ, i64_w, i32_w]
    rfl
  refine pure_ (i := 8) (N := some 5) (v := ?_) (a' := ?_) #[true, true, true, true, true, true, true, true, true, false] rfl rfl (by kernel_rfl) (fun _ _ _ h => h) (Or.inl ⟨by rfl, ?_⟩) ?_ ?_
  rotate_left
  · intro w'
    go_simp
    with_reducible rfl
  rotate_left
  · simp only [Act.put, List.setIfInBounds_toArray, List.set_cons_zero, List.set_cons_succ, i64_w, i32_w]
    rfl
  refine pure_ (i := 9) (N := some 6) (v := ?_) (a' := ?_) #[true, true, true, true, true, true, true, true, true, true] rfl rfl (by kernel_rfl) (fun _ _ _ h => h) (Or.inl ⟨by rfl, ?_⟩) ?_ ?_
  rotate_left
  · intro w'
    go_simp
    with_reducible rfl
  rotate_left
  · simp only [Act.put, List.setIfInBounds_toArray, List.set_cons_zero, List.set_cons_succ, i64_w, i32_w]
    rfl
  refine done_ (by kernel_rfl) ?_
  clear hlk
  have y0 : w6.cell? ⟨w.heap.size, 0, none⟩ = some (.string t0) := (blk_cell K16.out 0).trans rfl
  have x0 := (blk_cell K26.out 0).trans rfl
  have x1 := (blk_cell K26.out 1).trans rfl
  have x2 := (blk_cell K26.out 2).trans rfl
  have x3 := (blk_cell K26.out 3).trans rfl
  have x4 := (blk_cell K26.out 4).trans rfl
  have x5 := (blk_cell K26.out 5).trans rfl
  have x6 := (blk_cell K26.out 6).trans rfl
  have x7 := (blk_cell K26.out 7).trans rfl
  have x8 := (blk_cell K26.out 8).trans rfl
  have x9 := (blk_cell K26.out 9).trans rfl
  have x10 := (blk_cell K26.out 10).trans rfl
  go_wp2_with fail
  refine (filter_value.calls k t0 a0 a1 a2 a3 a4 a5 a6 a7 A8 c8 l8 A9 c9 l9 A10 c10 l10 r1 r2 r3 r4 ok w6 (Kd.C_below HC8.out HG6.out) HL8.out (Kd.C_below HC9.out HG6.out) HL9.out (Kd.C_below HC10.out HG6.out) HL10.out HV.out).mono ?_
  rintro e w8 ⟨rfl, hb8⟩
  have K18 := Lib.hid (block_below K16.out hb8)
  have HG8 := Lib.hid (below_step HG6.out hb8)
  clear hb8 x0 x1 x2 x3 x4 x5 x6 x7 x8 x9 x10 y0
  have y0 : w8.cell? ⟨w.heap.size, 0, none⟩ = some (.string t0) := (blk_cell K18.out 0).trans rfl
  have hb9 := below_alloc (Below.refl w8.heap.size w8) (.cells #[.int .i64 r1, .string r2, .int .i64 r3, .bool r4] 39)
  have K19 := Lib.hid (block_below K18.out hb9)
  have KV := Lib.hid (heap_alloc_new w8 (.cells #[.int .i64 r1, .string r2, .int .i64 r3, .bool r4] 39))
  have HG9 := Lib.hid (below_step HG8.out hb9)
  have HS8 := Lib.hid HG8.out.size
  clear hb9
  have y1 : (w8.alloc (.cells #[.int .i64 r1, .string r2, .int .i64 r3, .bool r4] 39)).cell? ⟨w.heap.size, 1, none⟩ = some (.int .i64 t1) := (blk_cell K19.out 1).trans rfl
  have y2 : (w8.alloc (.cells #[.int .i64 r1, .string r2, .int .i64 r3, .bool r4] 39)).cell? ⟨w.heap.size, 2, none⟩ = some (.int .i64 t2) := (blk_cell K19.out 2).trans rfl
  have y3 : (w8.alloc (.cells #[.int .i64 r1, .string r2, .int .i64 r3, .bool r4] 39)).cell? ⟨w.heap.size, 3, none⟩ = some (.string t3) := (blk_cell K19.out 3).trans rfl
  have y4 : (w8.alloc (.cells #[.int .i64 r1, .string r2, .int .i64 r3, .bool r4] 39)).cell? ⟨w.heap.size, 4, none⟩ = some (.int .i64 t4) := (blk_cell K19.out 4).trans rfl
  have y5 : (w8.alloc (.cells #[.int .i64 r1, .string r2, .int .i64 r3, .bool r4] 39)).cell? ⟨w.heap.size, 5, none⟩ = some (.bool t5) := (blk_cell K19.out 5).trans rfl
  have z0 : (w8.alloc (.cells #[.int .i64 r1, .string r2, .int .i64 r3, .bool r4] 39)).cell? ⟨w8.heap.size, 0, none⟩ = some (.int .i64 r1) := (blk_cell KV.out 0).trans rfl
  have z1 : (w8.alloc (.cells #[.int .i64 r1, .string r2, .int .i64 r3, .bool r4] 39)).cell? ⟨w8.heap.size, 1, none⟩ = some (.string r2) := (blk_cell KV.out 1).trans rfl
  have z2 : (w8.alloc (.cells #[.int .i64 r1, .string r2, .int .i64 r3, .bool r4] 39)).cell? ⟨w8.heap.size, 2, none⟩ = some (.int .i64 r3) := (blk_cell KV.out 2).trans rfl
  have z3 : (w8.alloc (.cells #[.int .i64 r1, .string r2, .int .i64 r3, .bool r4] 39)).cell? ⟨w8.heap.size, 3, none⟩ = some (.bool r4) := (blk_cell KV.out 3).trans rfl
  cases ok with
  | false =>
    obtain rfl := Option.some.inj (show some false = some r from HR.out)
    go_wp2
    go_ret
    exact ⟨rfl, HG9.out⟩
  | true =>
    by_cases h6 : t1 = 6
    · have d6 : (t1 == 6) = true := beq_iff_eq.2 h6
      by_cases hk : r1 = t2
      · have dk : (r1 == t2) = true := beq_iff_eq.2 hk
        have HRR := Lib.hid (show text_Match.f k t3 r2 = some r by have := HR.out; unfold holdV at this; rw [if_neg (by decide), if_pos h6, if_pos hk] at this; exact this)
        clear h6 hk
        go_wp2_with fail
        refine (text_Match.calls k t3 r2 r _ HRR.out).mono ?_
        rintro e w10 ⟨rfl, hb10⟩
        go_wp2
        go_ret
        exact ⟨rfl, below_step HG9.out hb10⟩
      · have dk : (r1 == t2) = false := beq_eq_false_iff_ne.2 hk
        obtain rfl := Option.some.inj (show some false = some r by have := HR.out; unfold holdV at this; rw [if_neg (by decide), if_pos h6, if_neg hk] at this; exact this)
        clear h6 hk
        go_wp2
        go_ret
        exact ⟨rfl, HG9.out⟩
    · have d6 : (t1 == 6) = false := beq_eq_false_iff_ne.2 h6
      obtain ⟨n, o, hno⟩ : ∃ n o, cmpV r1 r2 r3 r4 t2 t3 t4 t5 = (n, o) := ⟨_, _, rfl⟩
      have HNO := Lib.hid (show span_Compare.f r1 r2 r3 r4 t2 t3 t4 t5 = some (n, o) by unfold span_Compare.f; rw [hno])
      have HRR := Lib.hid (show (if o = true then filter_holds.f t1 n else some false) = some r by have := HR.out; unfold holdV at this; rw [if_neg (by decide), if_neg h6, hno] at this; exact this)
      clear h6 hno
      go_wp2_with fail
      refine (span_Compare.calls r1 r2 r3 r4 t2 t3 t4 t5 n o _ HNO.out).mono ?_
      rintro e w10 ⟨rfl, hb10⟩
      have y1' : w10.cell? ⟨w.heap.size, 1, none⟩ = some (.int .i64 t1) := (blk_cell (block_below K19.out hb10) 1).trans rfl
      have HG10 := Lib.hid (below_step HG9.out hb10)
      clear hb10 y1 y2 y3 y4 y5 z0 z1 z2 z3
      cases o with
      | false =>
        obtain rfl := Option.some.inj (show some false = some r from HRR.out)
        go_wp2
        go_ret
        exact ⟨rfl, HG10.out⟩
      | true =>
        have HRR2 := Lib.hid (show filter_holds.f t1 n = some r from HRR.out)
        go_wp2_with fail
        refine (filter_holds.calls t1 n r _ HRR2.out).mono ?_
        rintro e w11 ⟨rfl, nd, rfl⟩
        go_wp2
        go_ret
        exact ⟨rfl, HG10.out.os, HG10.out.tape, HG10.out.output, HG10.out.size, HG10.out.block⟩
end Go.Proofs.Ytffggkhahambhaa.Tr

namespace Go.Proofs.Ytffggkhahambhaa.Tr
open Go.RowKit Go.Proofs.YtffggkhahambhaaW.PrintWords Go.Proofs.YtffggkhahambhaaW.PrintLast Go.Proofs.YtffggkhahambhaaW.PrintMore Go.Proofs.Ytffggkhahambhaa.Math Go.Proofs.Ytffggkhahambhaa.PAll Go.Proofs.Ytffggkhahambhaa.Span
set_option linter.unusedVariables false
set_option linter.unusedSimpArgs false
/-- What Holds tells. -/
def holdF (k : Nat) (t : S41) (x : S34) : Option Bool :=
  match numI x.f0 x.f1 x.f2 x.f5 x.f6 x.f7 t.f0 with
  | some n => filter_holds.f t.f1 (if 9223372036854775807 < n then 1 else cmpI (wrap64 n) t.f2.f2)
  | none => (filter_value.f k t.f0 x.f0 x.f1 x.f2 x.f3 x.f4 x.f5 x.f6 x.f7 x.f8 x.f9 x.f10).bind fun v => holdV k t.f1 t.f2.f0 t.f2.f1 t.f2.f2 t.f2.f3 v.1 v.2.1 v.2.2.1 v.2.2.2.1 v.2.2.2.2
def encT (t : S41) : List Value := [.string t.f0, .int .i64 t.f1, .int .i64 t.f2.f0, .string t.f2.f1, .int .i64 t.f2.f2, .bool t.f2.f3]
theorem holds_calls {k : Nat} {t : S41} {x : S34} {s : Sp} {r : Bool} {w : World} (hx : Is w s x) (h : holdF k t x = some r) :
    Calls Try.prog 15 #[.agg (encT t).toArray, .agg (encS s).toArray] w fun e w' => e = .returned (.bool r) ∧ Below w.heap.size w w' := by
  obtain ⟨A8, c8, A9, c9, A10, c10, he, l8, g8, l9, g9, l10, g10⟩ := k34_open hx
  rw [he]
  unfold holdF at h
  cases hn : numI x.f0 x.f1 x.f2 x.f5 x.f6 x.f7 t.f0 with
  | some n =>
    rw [hn] at h
    exact holds_num t.f0 t.f1 t.f2.f0 t.f2.f1 t.f2.f2 t.f2.f3 x.f0 x.f1 x.f2 x.f3 x.f4 x.f5 x.f6 x.f7 A8 c8 x.f8 A9 c9 x.f9 A10 c10 x.f10 n r w hn h
  | none =>
    rw [hn] at h
    obtain ⟨v, hv, h⟩ := Option.bind_eq_some_iff.1 h
    exact holds_val k t.f0 t.f1 t.f2.f0 t.f2.f1 t.f2.f2 t.f2.f3 x.f0 x.f1 x.f2 x.f3 x.f4 x.f5 x.f6 x.f7 A8 c8 x.f8 A9 c9 x.f9 A10 c10 x.f10 _ _ _ _ _ r w g8 l8 g9 l9 g10 l10 hn hv h
theorem at_T {w : World} {A : Option Addr} {n : Nat} {xs : List S41} (h : Kd.C k41 w A n xs) {k : Nat} {t : S41} (hk : xs[k]? = some t) : ∃ ad, A = some ad ∧ w.cell? (ad.add (k * 6)) = some (.string t.f0) ∧ w.cell? ⟨(ad.add (k * 6)).block, (ad.add (k * 6)).off + 1, none⟩ = some (.int .i64 t.f1) ∧ w.cell? ⟨(ad.add (k * 6)).block, (ad.add (k * 6)).off + 2, none⟩ = some (.int .i64 t.f2.f0) ∧ w.cell? ⟨(ad.add (k * 6)).block, (ad.add (k * 6)).off + 3, none⟩ = some (.string t.f2.f1) ∧ w.cell? ⟨(ad.add (k * 6)).block, (ad.add (k * 6)).off + 4, none⟩ = some (.int .i64 t.f2.f2) ∧ w.cell? ⟨(ad.add (k * 6)).block, (ad.add (k * 6)).off + 5, none⟩ = some (.bool t.f2.f3) := by
  obtain ⟨hkl, hs⟩ := List.getElem?_eq_some_iff.1 hk
  obtain ⟨hn, _, hC⟩ := h
  obtain ⟨ad, e, hcc⟩ := hC (by omega)
  obtain ⟨c, hcl, hK, hc⟩ := hcc k t hk
  have hK := k41_open hK
  subst hK
  have hc : ∀ j u, (encT t)[j]? = some u → w.cell? (ad.add (k * 6 + j)) = some u := hc
  exact ⟨ad, e, hc 0 _ rfl, by rw [← add_field _ _ 1 (by omega)]; exact hc 1 _ rfl, by rw [← add_field _ _ 2 (by omega)]; exact hc 2 _ rfl, by rw [← add_field _ _ 3 (by omega)]; exact hc 3 _ rfl, by rw [← add_field _ _ 4 (by omega)]; exact hc 4 _ rfl, by rw [← add_field _ _ 5 (by omega)]; exact hc 5 _ rfl⟩

set_option maxHeartbeats 2000000 in
/-- filter.Match's closure: does a term not hold? -/
theorem mt1_calls {k : Nat} {t : S41} {x : S34} {s : Sp} {r : Bool} {w : World} {bs : Nat} (hb : w.heap[bs]? = some (.cells (encS s).toArray 34 (0, 0))) (hx : Is w s x) (h : holdF k t x = some r) :
    Calls Try.prog 43 #[.agg (encT t).toArray, .pointer (some ⟨bs, 0, none⟩)] w fun e w' => e = .returned (.bool (!r)) ∧ Below w.heap.size w w' := by
  have hal := below_alloc (Below.refl w.heap.size w) (.cells (encT t).toArray 41)
  have h1 := block_below hb hal
  obtain ⟨x0, x1, x2, x3, x4, x5, x6, x7, x8, x9, x10⟩ := blkS h1
  have h2 := heap_alloc_new w (.cells (encT t).toArray 41)
  have y0 : (w.alloc (.cells (encT t).toArray 41)).cell? ⟨w.heap.size, 0, none⟩ = some (.string t.f0) := (blk_cell h2 0).trans rfl
  have y1 : (w.alloc (.cells (encT t).toArray 41)).cell? ⟨w.heap.size, 1, none⟩ = some (.int .i64 t.f1) := (blk_cell h2 1).trans rfl
  have y2 : (w.alloc (.cells (encT t).toArray 41)).cell? ⟨w.heap.size, 2, none⟩ = some (.int .i64 t.f2.f0) := (blk_cell h2 2).trans rfl
  have y3 : (w.alloc (.cells (encT t).toArray 41)).cell? ⟨w.heap.size, 3, none⟩ = some (.string t.f2.f1) := (blk_cell h2 3).trans rfl
  have y4 : (w.alloc (.cells (encT t).toArray 41)).cell? ⟨w.heap.size, 4, none⟩ = some (.int .i64 t.f2.f2) := (blk_cell h2 4).trans rfl
  have y5 : (w.alloc (.cells (encT t).toArray 41)).cell? ⟨w.heap.size, 5, none⟩ = some (.bool t.f2.f3) := (blk_cell h2 5).trans rfl
  have hcall := holds_calls (hx.below hal) h
  have HCALL := Lib.hid hcall
  have HAL := Lib.hid hal
  clear hcall hal h1 h2 hb hx h
  rw [arr_S] at HCALL
  unfold encT at HCALL HAL y0 y1 y2 y3 y4 y5 x0 x1 x2 x3 x4 x5 x6 x7 x8 x9 x10 ⊢
  go_enter Try.func43, Try.ntmps43
  go_wp2_with fail
  refine HCALL.out.mono ?_
  rintro e w1 ⟨rfl, hb1⟩
  have HB1 := Lib.hid (below_step HAL.out hb1)
  clear hb1 y0 y1 y2 y3 y4 y5 x0 x1 x2 x3 x4 x5 x6 x7 x8 x9 x10 HCALL
  go_wp2
  go_ret
  exact ⟨rfl, HB1.out⟩

set_option maxHeartbeats 4000000 in
set_option maxRecDepth 100000 in
theorem ixt_calls {A : Option Addr} {c : Nat} {ts : List S41} {x : S34} {s : Sp} {p : S41 → Bool} {w : World} {bs : Nat} (hP : ∀ t ∈ ts, ∃ k, holdF k t x = some (p t)) (hb : w.heap[bs]? = some (.cells (encS s).toArray 34 (0, 0))) (hx : Is w s x) (hr : Kd.C k41 w A ts.length ts) (hl : ts.length ≤ c) (hn : ts.length ≤ 1000000) :
    Calls Try.prog 65 #[.slice A ts.length c, .func (.func 43) #[] #[.pointer (some ⟨bs, 0, none⟩)]] w fun e w' => ∃ i : Int, e = .returned (.int .i64 i) ∧ decide (i ≥ 0) = !(ts.all p) ∧ Below w.heap.size w w' := by
  have HP := Lib.hid hP
  have HBS := Lib.hid hb
  have HX := Lib.hid hx
  have HR := Lib.hid hr
  have HN := Lib.hid hn
  clear hP hb hx hr hn
  go_enter Try.func65, Try.ntmps65
  go_wp2
  go_loopw [5, 8] (fun _ i wr => ∃ k : Nat, k ≤ ts.length ∧ i = .int .i64 k ∧ Hid (∀ t ∈ ts.take k, p t = true) ∧ Hid (Below w.heap.size w wr)) (fun _ i _ => ts.length - (intOf i).toNat)
  case atStart => exact ⟨0, by omega, rfl, Lib.hid (fun s hs => by simp at hs), Lib.hid (Below.refl _ _)⟩
  case round =>
    obtain ⟨k, hk, rfl, HA, HB⟩ := hrel
    by_cases hlt : k < ts.length
    · obtain ⟨t, hs⟩ : ∃ t, ts[k]? = some t := ⟨_, List.getElem?_eq_getElem hlt⟩
      obtain ⟨ad, rfl, x0, x1, x2, x3, x4, x5⟩ := at_T (Kd.C_below HR.out HB.out) hs
      have HTk := Lib.hid (show ts.take (k + 1) = ts.take k ++ [t] by
        obtain ⟨hk2, e⟩ := List.getElem?_eq_some_iff.1 hs
        rw [List.take_succ_eq_append_getElem hk2, e])
      have q : (k : Int) < (ts.length : Int) := by omega
      have HK := Lib.hid (show k + 1 ≤ ts.length by omega)
      have HW := Lib.hid (show wrap64 ((k : Int) + 1) = ((k + 1 : Nat) : Int) by have := HN.out; unfold wrap64; omega)
      have HGS := Lib.hid (List.mem_of_getElem? hs)
      obtain ⟨kf, hkf⟩ := HP.out t (List.mem_of_getElem? hs)
      have hcall := mt1_calls (block_below HBS.out HB.out) (HX.out.below HB.out) hkf
      unfold encT at hcall
      have HCALL := Lib.hid hcall
      clear hs hlt hk hcall hkf
      go_wp2_with fail
      refine HCALL.out.mono ?_
      rintro e w1 ⟨rfl, hb⟩
      have HB1 := Lib.hid (below_step HB.out hb)
      clear hb x0 x1 x2 x3 x4 x5
      cases hroot : p t with
      | true =>
        have HRT := Lib.hid hroot
        clear hroot
        go_wp2
        go_roundw
        case rel => exact ⟨k + 1, HK.out, by rw [HW.out], Lib.hid (by rw [HTk.out]; intro y hy; rcases List.mem_append.1 hy with hy | hy; exact HA.out y hy; rw [List.mem_singleton.1 hy]; exact HRT.out), HB1⟩
        case measure => exact meas_up HN.out HK.out
      | false =>
        have HRT := Lib.hid hroot
        clear hroot
        go_wp2
        go_ret
        refine ⟨k, rfl, ?_, HB1.out⟩
        have e1 : ts.all p = false := by
          rw [List.all_eq_false]
          exact ⟨t, HGS.out, by rw [HRT.out]; decide⟩
        rw [e1]
        simp
    · have hkl : k = ts.length := by omega
      subst hkl
      have q : decide ((ts.length : Int) < (ts.length : Int)) = false := decide_eq_false (by omega)
      rw [List.take_length] at HA
      clear hlt hk
      go_wp2
      go_ret
      refine ⟨-1, rfl, ?_, HB.out⟩
      rw [List.all_eq_true.2 HA.out]
      rfl

set_option maxHeartbeats 2000000 in
theorem cft_calls {A : Option Addr} {c : Nat} {ts : List S41} {x : S34} {s : Sp} {p : S41 → Bool} {w : World} {bs : Nat} (hP : ∀ t ∈ ts, ∃ k, holdF k t x = some (p t)) (hb : w.heap[bs]? = some (.cells (encS s).toArray 34 (0, 0))) (hx : Is w s x) (hr : Kd.C k41 w A ts.length ts) (hl : ts.length ≤ c) (hn : ts.length ≤ 1000000) :
    Calls Try.prog 42 #[.slice A ts.length c, .func (.func 43) #[] #[.pointer (some ⟨bs, 0, none⟩)]] w fun e w' => e = .returned (.bool (!(ts.all p))) ∧ Below w.heap.size w w' := by
  have HC := Lib.hid (ixt_calls hP hb hx hr hl hn)
  clear hP hb hx hr hl hn
  go_enter Try.func42, Try.ntmps42
  go_wp2_with fail
  refine HC.out.mono ?_
  rintro e w1 ⟨i, rfl, hi, hb⟩
  have HI := Lib.hid hi
  have HB := Lib.hid hb
  clear hi hb HC
  go_wp2
  go_ret
  exact ⟨by rw [← HI.out]; rfl, HB.out⟩

set_option maxHeartbeats 2000000 in
theorem match_calls {A : Option Addr} {c : Nat} {ts : List S41} {o : Int} {x : S34} {s : Sp} {p : S41 → Bool} {w : World} (hP : ∀ t ∈ ts, ∃ k, holdF k t x = some (p t)) (hx : Is w s x) (hr : Kd.C k41 w A ts.length ts) (hl : ts.length ≤ c) (hn : ts.length ≤ 1000000) :
    Calls Try.prog 16 #[.agg #[.slice A ts.length c, .int .i64 o], .agg (encS s).toArray] w fun e w' => e = .returned (.bool (ts.all p)) ∧ Below w.heap.size w w' := by
  have hal := below_alloc (below_alloc (Below.refl w.heap.size w) (.cells #[.slice A ts.length c, .int .i64 o] 24)) (.cells (encS s).toArray 34)
  have k1 : ((w.alloc (.cells #[.slice A ts.length c, .int .i64 o] 24)).alloc (.cells (encS s).toArray 34)).heap[w.heap.size]? = some (.cells #[.slice A ts.length c, .int .i64 o] 24 (0, 0)) := block_below (heap_alloc_new w _) (below_alloc (Below.refl _ _) _)
  have k2 : ((w.alloc (.cells #[.slice A ts.length c, .int .i64 o] 24)).alloc (.cells (encS s).toArray 34)).heap[(w.alloc (.cells #[.slice A ts.length c, .int .i64 o] 24)).heap.size]? = some (.cells (encS s).toArray 34 (0, 0)) := heap_alloc_new _ _
  rw [show (w.alloc (.cells #[.slice A ts.length c, .int .i64 o] 24)).heap.size = w.heap.size + 1 by simp] at k2
  have y0 : ((w.alloc (.cells #[.slice A ts.length c, .int .i64 o] 24)).alloc (.cells (encS s).toArray 34)).cell? ⟨w.heap.size, 0, none⟩ = some (.slice A ts.length c) := (blk_cell k1 0).trans rfl
  have HC := Lib.hid (cft_calls hP k2 (hx.below hal) (Kd.C_below hr hal) hl hn)
  have HAL := Lib.hid hal
  clear hP hx hr hl hn k1 k2 hal
  rw [arr_S] at HC HAL y0 ⊢
  go_enter Try.func16, Try.ntmps16
  go_wp2_with fail
  refine HC.out.mono ?_
  rintro e w1 ⟨rfl, hb⟩
  have HB := Lib.hid (below_step HAL.out hb)
  clear hb HC y0
  go_wp2
  go_ret
  exact ⟨rfl, HB.out⟩

set_option maxHeartbeats 2000000 in
theorem all1_calls {A : Option Addr} {c : Nat} {ts : List S41} {o : Int} {x : S34} {s : Sp} {p : S41 → Bool} {w : World} {bq : Nat} (hq : w.heap[bq]? = some (.cells #[.slice A ts.length c, .int .i64 o] 24 (0, 0))) (hP : ∀ t ∈ ts, ∃ k, holdF k t x = some (p t)) (hx : Is w s x) (hr : Kd.C k41 w A ts.length ts) (hl : ts.length ≤ c) (hn : ts.length ≤ 1000000) :
    Calls Try.prog 25 #[.agg (encS s).toArray, .pointer (some ⟨bq, 0, none⟩)] w fun e w' => e = .returned (.bool (!(ts.all p))) ∧ Below w.heap.size w w' := by
  have hal := below_alloc (Below.refl w.heap.size w) (.cells (encS s).toArray 34)
  obtain ⟨x0, x1, x2, x3, x4, x5, x6, x7, x8, x9, x10⟩ := blkS (heap_alloc_new w (.cells (encS s).toArray 34))
  have k1 := block_below hq hal
  have y0 : (w.alloc (.cells (encS s).toArray 34)).cell? ⟨bq, 0, none⟩ = some (.slice A ts.length c) := (blk_cell k1 0).trans rfl
  have y1 : (w.alloc (.cells (encS s).toArray 34)).cell? ⟨bq, 1, none⟩ = some (.int .i64 o) := (blk_cell k1 1).trans rfl
  have HC := Lib.hid (match_calls (o := o) hP (hx.below hal) (Kd.C_below hr hal) hl hn)
  have HAL := Lib.hid hal
  clear hP hx hr hl hn k1 hal hq
  rw [arr_S] at HC HAL y0 y1 x0 x1 x2 x3 x4 x5 x6 x7 x8 x9 x10 ⊢
  go_enter Try.func25, Try.ntmps25
  go_wp2_with fail
  refine HC.out.mono ?_
  rintro e w1 ⟨rfl, hb⟩
  have HB := Lib.hid (below_step HAL.out hb)
  clear hb HC y0 y1 x0 x1 x2 x3 x4 x5 x6 x7 x8 x9 x10
  go_wp2
  go_ret
  exact ⟨rfl, HB.out⟩
end Go.Proofs.Ytffggkhahambhaa.Tr

namespace Go.Proofs.Ytffggkhahambhaa.PAll
open Go.RowKit Go.Proofs.YtffggkhahambhaaW.PrintWords Go.Proofs.YtffggkhahambhaaW.PrintLast Go.Proofs.YtffggkhahambhaaW.PrintMore
set_option linter.unusedVariables false
set_option linter.unusedSimpArgs false
set_option maxHeartbeats 8000000 in
set_option maxRecDepth 100000 in
theorem key_Primary.callsR (k : Nat) (a0_0 : Int) (a0_1 : Int) (a0_2 : Int) (a0_3 : ByteArray) (a0_4 : ByteArray) (a0_5 : Int) (a0_6 : Int) (a0_7 : Int) (A0_8 : Option Addr) (c0_8 : Nat) (n0_8 : Nat) (A0_9 : Option Addr) (c0_9 : Nat) (n0_9 : Nat) (A0_10 : Option Addr) (c0_10 : Nat) (n0_10 : Nat) (r : List Int) (w : World) (h : key_Primary.f k a0_0 a0_1 a0_2 a0_3 a0_4 a0_5 a0_6 a0_7 [] [] [] = some r) :
  Calls Try.prog 44 #[.agg #[.int .u64 a0_0, .int .u64 a0_1, .int .u64 a0_2, .string a0_3, .string a0_4, .int .i64 a0_5, .int .i64 a0_6, .int .i64 a0_7, .slice A0_8 n0_8 c0_8, .slice A0_9 n0_9 c0_9, .slice A0_10 n0_10 c0_10]] w fun e w' => ∃ v0_ : Value, e = .returned (v0_) ∧ Kd.R (Kd.int .u8) 5 w' w.heap.size (fun _ => True) v0_ r ∧ Below w.heap.size w w' := by
 have hu34 := Try.underlying34
 have HB := Aside0.mk (Below.refl w.heap.size w)
 have H : ((num_Key.f k a0_0).bind fun t136 => ((num_Key.f k a0_1).bind fun t139 => (if t136.length + t139.length < 140737488355328 then (some (t136 ++ t139)) else (none)))) = some r := h
 clear h
 replace H := Option.bind_eq_some_iff.mp H
 obtain ⟨t136, A20, H⟩ := H
 replace H : ((num_Key.f k a0_1).bind fun t139 => (if t136.length + t139.length < 140737488355328 then (some (t136 ++ t139)) else (none))) = some r := H
 have A2 := Aside0.mk A20
 clear A20
 replace H := Option.bind_eq_some_iff.mp H
 obtain ⟨t139, A30, H⟩ := H
 replace H : (if t136.length + t139.length < 140737488355328 then (some (t136 ++ t139)) else (none)) = some r := H
 have A3 := Aside0.mk A30
 clear A30
 by_cases c4 : t136.length + t139.length < 140737488355328
 rotate_left
 ·rw [if_neg c4] at H
  exact absurd H (by simp)

 rw [if_pos c4] at H
 have LMc4 := Aside0.mk c4
 clear c4
 obtain ⟨y142, hy142⟩ : ∃ y_ : List Int, y_ = (t136 ++ t139) := ⟨_, rfl⟩
 replace H : (some y142) = some r := by first | (rw [hy142]; with_reducible exact H) | (have H2_ := (Option.bind_some _ _).symm.trans H; rw [hy142]; with_reducible exact H2_) | (have H2_ := (Option.bind_some _ _).symm.trans H; with_reducible exact H2_) | with_reducible exact H | (rw [hy142]; exact H) | exact H
 have Ny142 := Aside0.mk hy142
 clear hy142
 obtain rfl := Option.some.inj H
 go_enter Try.func44, Try.ntmps44
 try go_wp2_with (first | ((with_reducible refine gate_dst (N := 1) rfl ?_); refine box_event ?hg (N := 1) ?hd (cs := #[.int .u64 a0_0, .int .u64 a0_1, .int .u64 a0_2, .string a0_3, .string a0_4, .int .i64 a0_5, .int .i64 a0_6, .int .i64 a0_7, .slice A0_8 n0_8 c0_8, .slice A0_9 n0_9 c0_9, .slice A0_10 n0_10 c0_10]) (t := 34) ?hr ?_; (case hd => rfl); (case hg => rfl); (case hr => first | (go_simp; done) | (go_simp; rfl)); intro gb135 hg w5 hbox hb; have n0_ := Aside0.mk (below_step q6y1 hb); have n1_ := Aside0.mk (hbox); have n2_ := Aside0.mk ((by rw [hg]; exact (below_size q6y1) : w.heap.size ≤ gb135)); have n3_ := Aside0.mk ((by rw [hg]; exact (below_size q6y1) : w.heap.size ≤ gb135)); clear HB; have HB := n0_; have BK135 := n1_; have GW135 := n2_; have GE135 := n3_; clear n0_ n1_ n2_ n3_; clear hb hbox hg))
 have n0_ := Aside0.mk (blk_drew BK135.out)
 have n1_ := Aside0.mk (below_drew1 HB.out)
 clear BK135
 clear HB
 have BK135 := n0_
 have HB := n1_
 clear n0_ n1_
 refine start_ (n := 8) (S := fun w' => w'.cell? ⟨gb135, 0, none⟩ = some (.int .u64 a0_0) ∧ w'.cell? ⟨gb135, 1, none⟩ = some (.int .u64 a0_1) ∧ w'.cell? ⟨gb135, 2, none⟩ = some (.int .u64 a0_2) ∧ w'.cell? ⟨gb135, 3, none⟩ = some (.string a0_3) ∧ w'.cell? ⟨gb135, 4, none⟩ = some (.string a0_4) ∧ w'.cell? ⟨gb135, 5, none⟩ = some (.int .i64 a0_5) ∧ w'.cell? ⟨gb135, 6, none⟩ = some (.int .i64 a0_6) ∧ w'.cell? ⟨gb135, 7, none⟩ = some (.int .i64 a0_7) ∧ w'.cell? ⟨gb135, 8, none⟩ = some (.slice A0_8 n0_8 c0_8) ∧ w'.cell? ⟨gb135, 9, none⟩ = some (.slice A0_9 n0_9 c0_9) ∧ w'.cell? ⟨gb135, 10, none⟩ = some (.slice A0_10 n0_10 c0_10)) (ds := []) #[false, false, false, false, false, false, false, false] (by kernel_rfl) rfl rfl ⟨q6k BK135.out 0, q6k BK135.out 1, q6k BK135.out 2, q6k BK135.out 3, q6k BK135.out 4, q6k BK135.out 5, q6k BK135.out 6, q6k BK135.out 7, q6k BK135.out 8, q6k BK135.out 9, q6k BK135.out 10⟩ (fun hHeld => ?_); refine with_tabW key_Primary.tab1 key_Primary.bits1 (fun HT_ HW_ => ?_)
 generalize w5.drew = w6 at BK135 HB hHeld ⊢
 refine q6p (i := 0) (N := some 3) (q6m 8 1) HT_.out ?_
 refine q6p (i := 3) (N := some 6) (q6m 8 9) HT_.out ?_
 refine take_ (i := 1) (N := some 4) (v := ?_) (a' := ?_) (q6m 8 11) rfl rfl (take_ofW HT_.out HW_.out (by kernel_rfl)) (fun _ _ _ h => h) (Or.inl ⟨by rfl, ?_⟩) hHeld ?_ ?_; rotate_left; (rintro w' ⟨s0, s1, s2, s3, s4, s5, s6, s7, s8, s9, s10⟩; go_simp; with_reducible rfl); rotate_left; (simp only [Act.put, q6a, q6b, q6c, i64_w, i32_w]; rfl)
 refine take_ (i := 4) (N := some 7) (v := ?_) (a' := ?_) (q6m 8 27) rfl rfl (take_ofW HT_.out HW_.out (by kernel_rfl)) (fun _ _ _ h => h) (Or.inl ⟨by rfl, ?_⟩) hHeld ?_ ?_; rotate_left; (rintro w' ⟨s0, s1, s2, s3, s4, s5, s6, s7, s8, s9, s10⟩; go_simp; with_reducible rfl); rotate_left; (simp only [Act.put, q6a, q6b, q6c, i64_w, i32_w]; rfl)
 refine one_ (i := 2) (N := some 5) (q6m 8 31) rfl rfl (one_of HT_.out (by kernel_rfl)) (by decide) (fun K hK => ?_)
 refine goes_ Try.func45 (by kernel_rfl) rfl #[.int .u64 a0_0] (by rfl) rfl rfl q6y2 ?_
 with_reducible refine (num_Key.calls k a0_0 t136 _ A2.out).mono ?_
 rintro e w7 ⟨v137, rfl, ho0, hb⟩
 refine ⟨_, rfl, ?_⟩
 have n0_ := Aside0.mk (Kd.R_lower ho0 (below_size q6y3))
 have n1_ := Aside0.mk (blk_below (g := gb135) (o := .cells #[.int .u64 a0_0, .int .u64 a0_1, .int .u64 a0_2, .string a0_3, .string a0_4, .int .i64 a0_5, .int .i64 a0_6, .int .i64 a0_7, .slice A0_8 n0_8 c0_8, .slice A0_9 n0_9 c0_9, .slice A0_10 n0_10 c0_10] 34 (0, 0)) q6y5 hb)
 have n2_ := Aside0.mk (below_step q6y3 hb)
 clear BK135
 clear HB
 have HO138 := n0_
 have BK135 := n1_
 have HB := n2_
 clear n0_ n1_ n2_
 (try clear hb)
 (try clear hb2)
 (try clear hk)
 (try clear hi)
 (try clear ho0)
 refine hK.out _ _ ⟨q6k BK135.out 0, q6k BK135.out 1, q6k BK135.out 2, q6k BK135.out 3, q6k BK135.out 4, q6k BK135.out 5, q6k BK135.out 6, q6k BK135.out 7, q6k BK135.out 8, q6k BK135.out 9, q6k BK135.out 10⟩ (fun hHeld => ?_)
 clear hK K
 refine norm_ (a' := ?_) ?_ ?_
 rotate_left
 ·show Act.put _ (some 5) _ = _
  simp only [Act.put, q6a, q6b, q6c, i64_w, i32_w]
  rfl
 refine one_ (i := 5) (N := some 8) (q6m 8 63) rfl rfl (one_of HT_.out (by kernel_rfl)) (by decide) (fun K hK => ?_)
 refine goes_ Try.func45 (by kernel_rfl) rfl #[.int .u64 a0_1] (by rfl) rfl rfl q6y2 ?_
 with_reducible refine (num_Key.calls k a0_1 t139 _ A3.out).mono ?_
 rintro e w8 ⟨v140, rfl, ho0, hb⟩
 refine ⟨_, rfl, ?_⟩
 have n0_ := Aside0.mk (Kd.R_elder' (by (with_reducible repeat (first | apply Kd.R_alloc | apply Kd.R_drewN | apply Kd.R_drew)); exact HO138.out) (Kd.R_base ho0) hb)
 have n1_ := Aside0.mk (Kd.R_lower (Kd.R_new' ho0 (Kd.R_lt (by (with_reducible repeat (first | apply Kd.R_alloc | apply Kd.R_drewN | apply Kd.R_drew)); exact HO138.out))) (below_size q6y3))
 have n2_ := Aside0.mk (blk_below (g := gb135) (o := .cells #[.int .u64 a0_0, .int .u64 a0_1, .int .u64 a0_2, .string a0_3, .string a0_4, .int .i64 a0_5, .int .i64 a0_6, .int .i64 a0_7, .slice A0_8 n0_8 c0_8, .slice A0_9 n0_9 c0_9, .slice A0_10 n0_10 c0_10] 34 (0, 0)) q6y5 hb)
 have n3_ := Aside0.mk (below_step q6y3 hb)
 clear HO138
 clear BK135
 clear HB
 have HO138 := n0_
 have HO141 := n1_
 have BK135 := n2_
 have HB := n3_
 clear n0_ n1_ n2_ n3_
 (try clear hb)
 (try clear hb2)
 (try clear hk)
 (try clear hi)
 (try clear ho0)
 obtain ⟨Ao10, co10, eo10⟩ := Kd.R_slice HO141.out
 (first | subst eo10 | (injection eo10 with f1_ f2_ f3_; have f4_ := f1_.symm; have f5_ := f3_.symm; clear f1_ f2_ f3_; subst f4_; subst f5_))
 refine hK.out _ _ ⟨q6k BK135.out 0, q6k BK135.out 1, q6k BK135.out 2, q6k BK135.out 3, q6k BK135.out 4, q6k BK135.out 5, q6k BK135.out 6, q6k BK135.out 7, q6k BK135.out 8, q6k BK135.out 9, q6k BK135.out 10⟩ (fun hHeld => ?_)
 clear hK K
 refine norm_ (a' := ?_) ?_ ?_
 rotate_left
 ·show Act.put _ (some 8) _ = _
  simp only [Act.put, q6a, q6b, q6c, i64_w, i32_w]
  rfl
 refine one_ (i := 6) (N := some 9) (q6m 8 127) rfl rfl (one_of HT_.out (by kernel_rfl)) (by decide) (fun K hK => ?_)
 refine Kd.R_append_rows_step (Kd.int .u8) (w0 := w) w.heap.size (by rfl) (.tmp 5) (.tmp 8) 50 5 (.int .u8 0) 1 rfl Try.underlying50 info5 rfl (by decide) (by omega) v137 t136 t139 _ _ _ (fun k_ => some k_ ≠ (.slice Ao10 t139.length co10 : Value).ownBlock) (fun _ => False) rfl rfl ?aO ?aR (fun _ _ h => h) (fun _ h => h.elim) ?aF ?aB ?aS ?aL ?_
 (case aR => repeat (first | exact (Kd.R_reads' HO141.out).2.2 | (with_reducible refine Kd.C_alloc ?_ _) | (with_reducible refine Kd.C_drewN ?_ _) | (with_reducible refine Kd.C_drew ?_)))
 (case aB => exact q6y3)
 (case aF => exact (fun k_ hk => Kd.fresh' (Kd.R_lt (by (with_reducible repeat (first | apply Kd.R_alloc | apply Kd.R_drewN | apply Kd.R_drew)); exact HO141.out)) k_ hk))
 (case aO => exact (by (with_reducible repeat (first | apply Kd.R_alloc | apply Kd.R_drewN | apply Kd.R_drew)); exact Kd.R_mono HO138.out (fun _ hk => hk.2)))
 (case aS => exact (below_size q6y3))
 (case aL => have := LMc4.out; omega)
 intro v143 w9 ho hb hg hat
 rw [← Ny142.out] at ho
 have n0_ := Aside0.mk (blk_grown (g := gb135) (o := .cells #[.int .u64 a0_0, .int .u64 a0_1, .int .u64 a0_2, .string a0_3, .string a0_4, .int .i64 a0_5, .int .i64 a0_6, .int .i64 a0_7, .slice A0_8 n0_8 c0_8, .slice A0_9 n0_9 c0_9, .slice A0_10 n0_10 c0_10] 34 (0, 0)) q6y5 hg (Kd.R_ne HO138.out BK135.out (by decide)))
 have n1_ := Aside0.mk (Kd.R_after (ok := (fun _ => True)) (by (with_reducible repeat (first | apply Kd.R_alloc | apply Kd.R_drewN | apply Kd.R_drew)); exact HO141.out) hg hat)
 have n2_ := Aside0.mk (hb)
 have n3_ := Aside0.mk (ho)
 clear BK135
 clear HO141
 clear HB
 clear HO138
 have BK135 := n0_
 have HO141 := n1_
 have HB := n2_
 have HO144 := n3_
 clear n0_ n1_ n2_ n3_
 clear ho hb hg hat
 refine hK.out _ _ ⟨q6k BK135.out 0, q6k BK135.out 1, q6k BK135.out 2, q6k BK135.out 3, q6k BK135.out 4, q6k BK135.out 5, q6k BK135.out 6, q6k BK135.out 7, q6k BK135.out 8, q6k BK135.out 9, q6k BK135.out 10⟩ (fun hHeld => ?_)
 clear hK K
 refine norm_ (a' := ?_) ?_ ?_
 rotate_left
 ·show Act.put _ (some 9) _ = _
  simp only [Act.put, q6a, q6b, q6c, i64_w, i32_w]
  rfl
 refine q6p (i := 7) (N := some 2) (q6m 8 255) HT_.out ?_
 refine done_ (done_of HT_.out (by kernel_rfl)) ?_
 try go_wp2
 go_ret
 exact ⟨_, by first | rfl | (simp [errW_none, errW_some] <;> rfl) | (simp [*, errW_none, errW_some] <;> rfl), by (with_reducible repeat (first | apply Kd.R_alloc | apply Kd.R_drewN | apply Kd.R_drew)); exact Kd.R_mono HO144.out (fun _ hk => trivial), by repeat (first | (with_reducible first | exact HB.out | apply below_alloc | apply pw_below_drewN | apply below_drew1 | refine below_set ?_ GE135.out) | exact HB.out)⟩
/-! ### filter_Key: function 17 -/
set_option maxHeartbeats 8000000 in
set_option maxRecDepth 100000 in
theorem filter_Key.callsR (k : Nat) (a0 : Int) (a1_0 : Int) (a1_1 : Int) (a1_2 : Int) (a1_3 : ByteArray) (a1_4 : ByteArray) (a1_5 : Int) (a1_6 : Int) (a1_7 : Int) (A1_8 : Option Addr) (c1_8 : Nat) (n1_8 : Nat) (A1_9 : Option Addr) (c1_9 : Nat) (n1_9 : Nat) (A1_10 : Option Addr) (c1_10 : Nat) (n1_10 : Nat) (r : List Int) (w : World) (h : filter_Key.f k a0 a1_0 a1_1 a1_2 a1_3 a1_4 a1_5 a1_6 a1_7 [] [] [] = some r) :
  Calls Try.prog 17 #[.int .i64 a0, .agg #[.int .u64 a1_0, .int .u64 a1_1, .int .u64 a1_2, .string a1_3, .string a1_4, .int .i64 a1_5, .int .i64 a1_6, .int .i64 a1_7, .slice A1_8 n1_8 c1_8, .slice A1_9 n1_9 c1_9, .slice A1_10 n1_10 c1_10]] w fun e w' => ∃ v0_ : Value, e = .returned (v0_) ∧ Kd.R (Kd.int .u8) 5 w' w.heap.size (fun _ => True) v0_ r ∧ Below w.heap.size w w' := by
 have hu34 := Try.underlying34
 have HB := Aside0.mk (Below.refl w.heap.size w)
 have H : (if a0 = 0 then ((key_Primary.f k a1_0 a1_1 a1_2 a1_3 a1_4 a1_5 a1_6 a1_7 [] [] []).bind fun t146 => (some t146)) else (if a0 = 1 then ((num_Key.f k (IntKind.u64.wrap (a1_5))).bind fun t149 => ((key_Primary.f k a1_0 a1_1 a1_2 a1_3 a1_4 a1_5 a1_6 a1_7 [] [] []).bind fun t152 => (if t149.length + t152.length < 140737488355328 then (some (t149 ++ t152)) else (none)))) else (if a0 = 2 then ((num_Key.f k (IntKind.u64.wrap (a1_6))).bind fun t158 => ((key_Primary.f k a1_0 a1_1 a1_2 a1_3 a1_4 a1_5 a1_6 a1_7 [] [] []).bind fun t161 => (if t158.length + t161.length < 140737488355328 then (some (t158 ++ t161)) else (none)))) else (some ([] : List Int))))) = some r := h
 clear h
 by_cases c3 : a0 = 0
 ·rw [if_pos c3] at H
  have c3b0 : (a0 == 0) = true := beq_iff_eq.mpr c3
  have c3b1 : (a0 != 0) = false := bne_eq_false_iff_eq.mpr c3
  clear c3
  replace H := Option.bind_eq_some_iff.mp H
  obtain ⟨t146, A40, H⟩ := H
  replace H : (some t146) = some r := H
  have A4 := Aside0.mk A40
  clear A40
  obtain rfl := Option.some.inj H
  go_enter Try.func17, Try.ntmps17
  go_wp2_with (first | ((with_reducible refine gate_dst (N := 3) rfl ?_); refine box_event ?hg (N := 3) ?hd (cs := #[.int .u64 a1_0, .int .u64 a1_1, .int .u64 a1_2, .string a1_3, .string a1_4, .int .i64 a1_5, .int .i64 a1_6, .int .i64 a1_7, .slice A1_8 n1_8 c1_8, .slice A1_9 n1_9 c1_9, .slice A1_10 n1_10 c1_10]) (t := 34) ?hr ?_; (case hd => rfl); (case hg => rfl); (case hr => first | (go_simp; done) | (go_simp; rfl)); intro gb145 hg w5 hbox hb; have n0_ := Aside0.mk (below_step q6y1 hb); have n1_ := Aside0.mk (hbox); have n2_ := Aside0.mk ((by rw [hg]; exact (below_size q6y1) : w.heap.size ≤ gb145)); have n3_ := Aside0.mk ((by rw [hg]; exact (below_size q6y1) : w.heap.size ≤ gb145)); clear HB; have HB := n0_; have BK145 := n1_; have GW145 := n2_; have GE145 := n3_; clear n0_ n1_ n2_ n3_; clear hb hbox hg; have hcz6_0 : w5.cell? ⟨gb145, 0, none⟩ = some (.int .u64 a1_0) := (blk_cell BK145.out 0).trans rfl; have hcz6_1 : w5.cell? ⟨gb145, 1, none⟩ = some (.int .u64 a1_1) := (blk_cell BK145.out 1).trans rfl; have hcz6_2 : w5.cell? ⟨gb145, 2, none⟩ = some (.int .u64 a1_2) := (blk_cell BK145.out 2).trans rfl; have hcz6_3 : w5.cell? ⟨gb145, 3, none⟩ = some (.string a1_3) := (blk_cell BK145.out 3).trans rfl; have hcz6_4 : w5.cell? ⟨gb145, 4, none⟩ = some (.string a1_4) := (blk_cell BK145.out 4).trans rfl; have hcz6_5 : w5.cell? ⟨gb145, 5, none⟩ = some (.int .i64 a1_5) := (blk_cell BK145.out 5).trans rfl; have hcz6_6 : w5.cell? ⟨gb145, 6, none⟩ = some (.int .i64 a1_6) := (blk_cell BK145.out 6).trans rfl; have hcz6_7 : w5.cell? ⟨gb145, 7, none⟩ = some (.int .i64 a1_7) := (blk_cell BK145.out 7).trans rfl; have hcz6_8 : w5.cell? ⟨gb145, 8, none⟩ = some (.slice A1_8 n1_8 c1_8) := (blk_cell BK145.out 8).trans rfl; have hcz6_9 : w5.cell? ⟨gb145, 9, none⟩ = some (.slice A1_9 n1_9 c1_9) := (blk_cell BK145.out 9).trans rfl; have hcz6_10 : w5.cell? ⟨gb145, 10, none⟩ = some (.slice A1_10 n1_10 c1_10) := (blk_cell BK145.out 10).trans rfl; have hfz6_0 := blk_frozen BK145.out 0; have hfz6_1 := blk_frozen BK145.out 1; have hfz6_2 := blk_frozen BK145.out 2; have hfz6_3 := blk_frozen BK145.out 3; have hfz6_4 := blk_frozen BK145.out 4; have hfz6_5 := blk_frozen BK145.out 5; have hfz6_6 := blk_frozen BK145.out 6; have hfz6_7 := blk_frozen BK145.out 7; have hfz6_8 := blk_frozen BK145.out 8; have hfz6_9 := blk_frozen BK145.out 9; have hfz6_10 := blk_frozen BK145.out 10) | ((with_reducible refine gate_callee (f := 44) rfl ?_); refine goesL_ (some 9) rfl rfl Try.func44 (by kernel_rfl) rfl #[.agg #[.int .u64 a1_0, .int .u64 a1_1, .int .u64 a1_2, .string a1_3, .string a1_4, .int .i64 a1_5, .int .i64 a1_6, .int .i64 a1_7, .slice A1_8 n1_8 c1_8, .slice A1_9 n1_9 c1_9, .slice A1_10 n1_10 c1_10]] rfl q6y2 ?_; (with_reducible refine (key_Primary.callsR k a1_0 a1_1 a1_2 a1_3 a1_4 a1_5 a1_6 a1_7 _ _ n1_8 _ _ n1_9 _ _ n1_10 t146 _ A4.out).mono ?_); rintro e w7 ⟨v147, rfl, ho0, hb⟩; refine ⟨_, rfl, ?_⟩; have n0_ := Aside0.mk (Kd.R_lower ho0 (below_size q6y0)); have n1_ := Aside0.mk (blk_below (g := gb145) (o := .cells #[.int .u64 a1_0, .int .u64 a1_1, .int .u64 a1_2, .string a1_3, .string a1_4, .int .i64 a1_5, .int .i64 a1_6, .int .i64 a1_7, .slice A1_8 n1_8 c1_8, .slice A1_9 n1_9 c1_9, .slice A1_10 n1_10 c1_10] 34 (0, 0)) q6y4 hb); have n2_ := Aside0.mk (below_step q6y0 hb); clear BK145; clear HB; have HO148 := n0_; have BK145 := n1_; have HB := n2_; clear n0_ n1_ n2_; (try clear hb); (try clear hb2); (try clear hk); (try clear hi); (try clear ho0)))
  go_ret
  exact ⟨_, by first | rfl | (simp [errW_none, errW_some] <;> rfl) | (simp [*, errW_none, errW_some] <;> rfl), by (with_reducible repeat (first | apply Kd.R_alloc | apply Kd.R_drewN | apply Kd.R_drew)); exact HO148.out, by repeat (first | (with_reducible first | exact HB.out | apply below_alloc | apply pw_below_drewN | apply below_drew1 | refine below_set ?_ GE145.out) | exact HB.out)⟩
 rw [if_neg c3] at H
 have c3b0 : (a0 == 0) = false := beq_eq_false_iff_ne.mpr c3
 have c3b1 : (a0 != 0) = true := bne_iff_ne.mpr c3
 by_cases c8 : a0 = 1
 ·rw [if_pos c8] at H
  have c8b0 : (a0 == 1) = true := beq_iff_eq.mpr c8
  have c8b1 : (a0 != 1) = false := bne_eq_false_iff_eq.mpr c8
  clear c8
  replace H := Option.bind_eq_some_iff.mp H
  obtain ⟨t149, A90, H⟩ := H
  replace H : ((key_Primary.f k a1_0 a1_1 a1_2 a1_3 a1_4 a1_5 a1_6 a1_7 [] [] []).bind fun t152 => (if t149.length + t152.length < 140737488355328 then (some (t149 ++ t152)) else (none))) = some r := H
  have A9 := Aside0.mk A90
  clear A90
  replace H := Option.bind_eq_some_iff.mp H
  obtain ⟨t152, A100, H⟩ := H
  replace H : (if t149.length + t152.length < 140737488355328 then (some (t149 ++ t152)) else (none)) = some r := H
  have A10 := Aside0.mk A100
  clear A100
  by_cases c11 : t149.length + t152.length < 140737488355328
  rotate_left
  ·rw [if_neg c11] at H
   exact absurd H (by simp)
  rw [if_pos c11] at H
  have LMc11 := Aside0.mk c11
  clear c11
  obtain ⟨y155, hy155⟩ : ∃ y_ : List Int, y_ = (t149 ++ t152) := ⟨_, rfl⟩
  replace H : (some y155) = some r := by first | (rw [hy155]; with_reducible exact H) | (have H2_ := (Option.bind_some _ _).symm.trans H; rw [hy155]; with_reducible exact H2_) | (have H2_ := (Option.bind_some _ _).symm.trans H; with_reducible exact H2_) | with_reducible exact H | (rw [hy155]; exact H) | exact H
  have Ny155 := Aside0.mk hy155
  clear hy155
  obtain rfl := Option.some.inj H
  go_enter Try.func17, Try.ntmps17
  try go_wp2_with (first | ((with_reducible refine gate_dst (N := 3) rfl ?_); refine box_event ?hg (N := 3) ?hd (cs := #[.int .u64 a1_0, .int .u64 a1_1, .int .u64 a1_2, .string a1_3, .string a1_4, .int .i64 a1_5, .int .i64 a1_6, .int .i64 a1_7, .slice A1_8 n1_8 c1_8, .slice A1_9 n1_9 c1_9, .slice A1_10 n1_10 c1_10]) (t := 34) ?hr ?_; (case hd => rfl); (case hg => rfl); (case hr => first | (go_simp; done) | (go_simp; rfl)); intro gb145 hg w12 hbox hb; have n0_ := Aside0.mk (below_step q6y1 hb); have n1_ := Aside0.mk (hbox); have n2_ := Aside0.mk ((by rw [hg]; exact (below_size q6y1) : w.heap.size ≤ gb145)); have n3_ := Aside0.mk ((by rw [hg]; exact (below_size q6y1) : w.heap.size ≤ gb145)); clear HB; have HB := n0_; have BK145 := n1_; have GW145 := n2_; have GE145 := n3_; clear n0_ n1_ n2_ n3_; clear hb hbox hg))
  have n0_ := Aside0.mk (blk_drew BK145.out)
  have n1_ := Aside0.mk (below_drew1 HB.out)
  clear BK145
  clear HB
  have BK145 := n0_
  have HB := n1_
  clear n0_ n1_
  refine start_ (n := 8) (S := fun w' => w'.cell? ⟨gb145, 0, none⟩ = some (.int .u64 a1_0) ∧ w'.cell? ⟨gb145, 1, none⟩ = some (.int .u64 a1_1) ∧ w'.cell? ⟨gb145, 2, none⟩ = some (.int .u64 a1_2) ∧ w'.cell? ⟨gb145, 3, none⟩ = some (.string a1_3) ∧ w'.cell? ⟨gb145, 4, none⟩ = some (.string a1_4) ∧ w'.cell? ⟨gb145, 5, none⟩ = some (.int .i64 a1_5) ∧ w'.cell? ⟨gb145, 6, none⟩ = some (.int .i64 a1_6) ∧ w'.cell? ⟨gb145, 7, none⟩ = some (.int .i64 a1_7) ∧ w'.cell? ⟨gb145, 8, none⟩ = some (.slice A1_8 n1_8 c1_8) ∧ w'.cell? ⟨gb145, 9, none⟩ = some (.slice A1_9 n1_9 c1_9) ∧ w'.cell? ⟨gb145, 10, none⟩ = some (.slice A1_10 n1_10 c1_10)) (ds := []) #[false, false, false, false, false, false, false, false] (by kernel_rfl) rfl rfl ⟨q6k BK145.out 0, q6k BK145.out 1, q6k BK145.out 2, q6k BK145.out 3, q6k BK145.out 4, q6k BK145.out 5, q6k BK145.out 6, q6k BK145.out 7, q6k BK145.out 8, q6k BK145.out 9, q6k BK145.out 10⟩ (fun hHeld => ?_); refine with_tabW filter_Key.tab5 filter_Key.bits5 (fun HT_ HW_ => ?_)
  generalize w12.drew = w13 at BK145 HB hHeld ⊢
  refine q6p (i := 0) (N := some 12) (q6m 8 1) HT_.out ?_
  refine take_ (i := 1) (N := some 13) (v := ?_) (a' := ?_) (q6m 8 3) rfl rfl (take_ofW HT_.out HW_.out (by kernel_rfl)) (fun _ _ _ h => h) (Or.inl ⟨by rfl, ?_⟩) hHeld ?_ ?_; rotate_left; (rintro w' ⟨s0, s1, s2, s3, s4, s5, s6, s7, s8, s9, s10⟩; go_simp; with_reducible rfl); rotate_left; (simp only [Act.put, q6a, q6b, q6c, i64_w, i32_w]; rfl)
  refine q6p (i := 2) (N := some 14) (q6m 8 7) HT_.out ?_
  refine take_ (i := 4) (N := some 16) (v := ?_) (a' := ?_) (q6m 8 23) rfl rfl (take_ofW HT_.out HW_.out (by kernel_rfl)) (fun _ _ _ h => h) (Or.inl ⟨by rfl, ?_⟩) hHeld ?_ ?_; rotate_left; (rintro w' ⟨s0, s1, s2, s3, s4, s5, s6, s7, s8, s9, s10⟩; go_simp; with_reducible rfl); rotate_left; (simp only [Act.put, q6a, q6b, q6c, i64_w, i32_w]; rfl)
  refine one_ (i := 3) (N := some 15) (q6m 8 31) rfl rfl (one_of HT_.out (by kernel_rfl)) (by decide) (fun K hK => ?_)
  refine goes_ Try.func45 (by kernel_rfl) rfl #[.int .u64 (IntKind.u64.wrap (a1_5))] (by rfl) rfl rfl q6y2 ?_
  with_reducible refine (num_Key.calls k (IntKind.u64.wrap (a1_5)) t149 _ A9.out).mono ?_
  rintro e w14 ⟨v150, rfl, ho0, hb⟩
  refine ⟨_, rfl, ?_⟩
  have n0_ := Aside0.mk (Kd.R_lower ho0 (below_size q6y0))
  have n1_ := Aside0.mk (blk_below (g := gb145) (o := .cells #[.int .u64 a1_0, .int .u64 a1_1, .int .u64 a1_2, .string a1_3, .string a1_4, .int .i64 a1_5, .int .i64 a1_6, .int .i64 a1_7, .slice A1_8 n1_8 c1_8, .slice A1_9 n1_9 c1_9, .slice A1_10 n1_10 c1_10] 34 (0, 0)) q6y4 hb)
  have n2_ := Aside0.mk (below_step q6y0 hb)
  clear BK145
  clear HB
  have HO151 := n0_
  have BK145 := n1_
  have HB := n2_
  clear n0_ n1_ n2_
  (try clear hb)
  (try clear hb2)
  (try clear hk)
  (try clear hi)
  (try clear ho0)
  refine hK.out _ _ ⟨q6k BK145.out 0, q6k BK145.out 1, q6k BK145.out 2, q6k BK145.out 3, q6k BK145.out 4, q6k BK145.out 5, q6k BK145.out 6, q6k BK145.out 7, q6k BK145.out 8, q6k BK145.out 9, q6k BK145.out 10⟩ (fun hHeld => ?_)
  clear hK K
  refine norm_ (a' := ?_) ?_ ?_
  rotate_left
  ·show Act.put _ (some 15) _ = _
   simp only [Act.put, q6a, q6b, q6c, i64_w, i32_w]
   rfl
  refine one_ (i := 5) (N := some 17) (q6m 8 63) rfl rfl (one_of HT_.out (by kernel_rfl)) (by decide) (fun K hK => ?_)
  refine goes_ Try.func44 (by kernel_rfl) rfl #[.agg #[.int .u64 a1_0, .int .u64 a1_1, .int .u64 a1_2, .string a1_3, .string a1_4, .int .i64 a1_5, .int .i64 a1_6, .int .i64 a1_7, .slice A1_8 n1_8 c1_8, .slice A1_9 n1_9 c1_9, .slice A1_10 n1_10 c1_10]] (by rfl) rfl rfl q6y2 ?_
  with_reducible refine (key_Primary.callsR k a1_0 a1_1 a1_2 a1_3 a1_4 a1_5 a1_6 a1_7 _ _ n1_8 _ _ n1_9 _ _ n1_10 t152 _ A10.out).mono ?_
  rintro e w15 ⟨v153, rfl, ho0, hb⟩
  refine ⟨_, rfl, ?_⟩
  have n0_ := Aside0.mk (Kd.R_elder' (by (with_reducible repeat (first | apply Kd.R_alloc | apply Kd.R_drewN | apply Kd.R_drew)); exact HO151.out) (Kd.R_base ho0) hb)
  have n1_ := Aside0.mk (Kd.R_lower (Kd.R_new' ho0 (Kd.R_lt (by (with_reducible repeat (first | apply Kd.R_alloc | apply Kd.R_drewN | apply Kd.R_drew)); exact HO151.out))) (below_size q6y0))
  have n2_ := Aside0.mk (blk_below (g := gb145) (o := .cells #[.int .u64 a1_0, .int .u64 a1_1, .int .u64 a1_2, .string a1_3, .string a1_4, .int .i64 a1_5, .int .i64 a1_6, .int .i64 a1_7, .slice A1_8 n1_8 c1_8, .slice A1_9 n1_9 c1_9, .slice A1_10 n1_10 c1_10] 34 (0, 0)) q6y4 hb)
  have n3_ := Aside0.mk (below_step q6y0 hb)
  clear HO151
  clear BK145
  clear HB
  have HO151 := n0_
  have HO154 := n1_
  have BK145 := n2_
  have HB := n3_
  clear n0_ n1_ n2_ n3_
  (try clear hb)
  (try clear hb2)
  (try clear hk)
  (try clear hi)
  (try clear ho0)
  obtain ⟨Ao17, co17, eo17⟩ := Kd.R_slice HO154.out
  (first | subst eo17 | (injection eo17 with f1_ f2_ f3_; have f4_ := f1_.symm; have f5_ := f3_.symm; clear f1_ f2_ f3_; subst f4_; subst f5_))
  refine hK.out _ _ ⟨q6k BK145.out 0, q6k BK145.out 1, q6k BK145.out 2, q6k BK145.out 3, q6k BK145.out 4, q6k BK145.out 5, q6k BK145.out 6, q6k BK145.out 7, q6k BK145.out 8, q6k BK145.out 9, q6k BK145.out 10⟩ (fun hHeld => ?_)
  clear hK K
  refine norm_ (a' := ?_) ?_ ?_
  rotate_left
  ·show Act.put _ (some 17) _ = _
   simp only [Act.put, q6a, q6b, q6c, i64_w, i32_w]
   rfl
  refine one_ (i := 6) (N := some 18) (q6m 8 127) rfl rfl (one_of HT_.out (by kernel_rfl)) (by decide) (fun K hK => ?_)
  refine Kd.R_append_rows_step (Kd.int .u8) (w0 := w) w.heap.size (by rfl) (.tmp 15) (.tmp 17) 50 5 (.int .u8 0) 1 rfl Try.underlying50 info5 rfl (by decide) (by omega) v150 t149 t152 _ _ _ (fun k_ => some k_ ≠ (.slice Ao17 t152.length co17 : Value).ownBlock) (fun _ => False) rfl rfl ?aO ?aR (fun _ _ h => h) (fun _ h => h.elim) ?aF ?aB ?aS ?aL ?_
  (case aR => repeat (first | exact (Kd.R_reads' HO154.out).2.2 | (with_reducible refine Kd.C_alloc ?_ _) | (with_reducible refine Kd.C_drewN ?_ _) | (with_reducible refine Kd.C_drew ?_)))
  (case aB => exact q6y0)
  (case aF => exact (fun k_ hk => Kd.fresh' (Kd.R_lt (by (with_reducible repeat (first | apply Kd.R_alloc | apply Kd.R_drewN | apply Kd.R_drew)); exact HO154.out)) k_ hk))
  (case aO => exact (by (with_reducible repeat (first | apply Kd.R_alloc | apply Kd.R_drewN | apply Kd.R_drew)); exact Kd.R_mono HO151.out (fun _ hk => hk.2)))
  (case aS => exact (below_size q6y0))
  (case aL => have := LMc11.out; omega)
  intro v156 w16 ho hb hg hat
  rw [← Ny155.out] at ho
  have n0_ := Aside0.mk (blk_grown (g := gb145) (o := .cells #[.int .u64 a1_0, .int .u64 a1_1, .int .u64 a1_2, .string a1_3, .string a1_4, .int .i64 a1_5, .int .i64 a1_6, .int .i64 a1_7, .slice A1_8 n1_8 c1_8, .slice A1_9 n1_9 c1_9, .slice A1_10 n1_10 c1_10] 34 (0, 0)) q6y4 hg (Kd.R_ne HO151.out BK145.out (by decide)))
  have n1_ := Aside0.mk (Kd.R_after (ok := (fun _ => True)) (by (with_reducible repeat (first | apply Kd.R_alloc | apply Kd.R_drewN | apply Kd.R_drew)); exact HO154.out) hg hat)
  have n2_ := Aside0.mk (hb)
  have n3_ := Aside0.mk (ho)
  clear BK145
  clear HO154
  clear HB
  clear HO151
  have BK145 := n0_
  have HO154 := n1_
  have HB := n2_
  have HO157 := n3_
  clear n0_ n1_ n2_ n3_
  clear ho hb hg hat
  refine hK.out _ _ ⟨q6k BK145.out 0, q6k BK145.out 1, q6k BK145.out 2, q6k BK145.out 3, q6k BK145.out 4, q6k BK145.out 5, q6k BK145.out 6, q6k BK145.out 7, q6k BK145.out 8, q6k BK145.out 9, q6k BK145.out 10⟩ (fun hHeld => ?_)
  clear hK K
  refine norm_ (a' := ?_) ?_ ?_
  rotate_left
  ·show Act.put _ (some 18) _ = _
   simp only [Act.put, q6a, q6b, q6c, i64_w, i32_w]
   rfl
  refine q6p (i := 7) (N := some 4) (q6m 8 255) HT_.out ?_
  refine done_ (done_of HT_.out (by kernel_rfl)) ?_
  try go_wp2
  go_ret
  exact ⟨_, by first | rfl | (simp [errW_none, errW_some] <;> rfl) | (simp [*, errW_none, errW_some] <;> rfl), by (with_reducible repeat (first | apply Kd.R_alloc | apply Kd.R_drewN | apply Kd.R_drew)); exact Kd.R_mono HO157.out (fun _ hk => trivial), by repeat (first | (with_reducible first | exact HB.out | apply below_alloc | apply pw_below_drewN | apply below_drew1 | refine below_set ?_ GE145.out) | exact HB.out)⟩
 rw [if_neg c8] at H
 have c8b0 : (a0 == 1) = false := beq_eq_false_iff_ne.mpr c8
 have c8b1 : (a0 != 1) = true := bne_iff_ne.mpr c8
 by_cases c18 : a0 = 2
 rotate_left
 ·rw [if_neg c18] at H
  have c18b0 : (a0 == 2) = false := beq_eq_false_iff_ne.mpr c18
  have c18b1 : (a0 != 2) = true := bne_iff_ne.mpr c18
  obtain rfl := Option.some.inj H
  go_enter Try.func17, Try.ntmps17
  go_wp2_with (first | ((with_reducible refine gate_dst (N := 3) rfl ?_); refine box_event ?hg (N := 3) ?hd (cs := #[.int .u64 a1_0, .int .u64 a1_1, .int .u64 a1_2, .string a1_3, .string a1_4, .int .i64 a1_5, .int .i64 a1_6, .int .i64 a1_7, .slice A1_8 n1_8 c1_8, .slice A1_9 n1_9 c1_9, .slice A1_10 n1_10 c1_10]) (t := 34) ?hr ?_; (case hd => rfl); (case hg => rfl); (case hr => first | (go_simp; done) | (go_simp; rfl)); intro gb145 hg w28 hbox hb; have n0_ := Aside0.mk (below_step q6y1 hb); have n1_ := Aside0.mk (hbox); have n2_ := Aside0.mk ((by rw [hg]; exact (below_size q6y1) : w.heap.size ≤ gb145)); have n3_ := Aside0.mk ((by rw [hg]; exact (below_size q6y1) : w.heap.size ≤ gb145)); clear HB; have HB := n0_; have BK145 := n1_; have GW145 := n2_; have GE145 := n3_; clear n0_ n1_ n2_ n3_; clear hb hbox hg))
  go_ret
  exact ⟨_, by first | rfl | (simp [errW_none, errW_some] <;> rfl) | (simp [*, errW_none, errW_some] <;> rfl), by first | exact Kd.R_nil _ _ _ _ _ | exact Kd.N_nil _ _ _ _ _ | exact Kd.V_nil _ _ _ _ _ | exact Kd.Q_nil _ _ _ _ _ | exact Kd.S_nil _ _ _ _ _, by repeat (first | (with_reducible first | exact HB.out | apply below_alloc | apply pw_below_drewN | apply below_drew1 | refine below_set ?_ GE145.out) | exact HB.out)⟩

 rw [if_pos c18] at H
 have c18b0 : (a0 == 2) = true := beq_iff_eq.mpr c18
 have c18b1 : (a0 != 2) = false := bne_eq_false_iff_eq.mpr c18
 clear c18
 replace H := Option.bind_eq_some_iff.mp H
 obtain ⟨t158, A190, H⟩ := H
 replace H : ((key_Primary.f k a1_0 a1_1 a1_2 a1_3 a1_4 a1_5 a1_6 a1_7 [] [] []).bind fun t161 => (if t158.length + t161.length < 140737488355328 then (some (t158 ++ t161)) else (none))) = some r := H
 have A19 := Aside0.mk A190
 clear A190
 replace H := Option.bind_eq_some_iff.mp H
 obtain ⟨t161, A200, H⟩ := H
 replace H : (if t158.length + t161.length < 140737488355328 then (some (t158 ++ t161)) else (none)) = some r := H
 have A20 := Aside0.mk A200
 clear A200
 by_cases c21 : t158.length + t161.length < 140737488355328
 rotate_left
 ·rw [if_neg c21] at H
  exact absurd H (by simp)
 rw [if_pos c21] at H
 have LMc21 := Aside0.mk c21
 clear c21
 obtain ⟨y164, hy164⟩ : ∃ y_ : List Int, y_ = (t158 ++ t161) := ⟨_, rfl⟩
 replace H : (some y164) = some r := by first | (rw [hy164]; with_reducible exact H) | (have H2_ := (Option.bind_some _ _).symm.trans H; rw [hy164]; with_reducible exact H2_) | (have H2_ := (Option.bind_some _ _).symm.trans H; with_reducible exact H2_) | with_reducible exact H | (rw [hy164]; exact H) | exact H
 have Ny164 := Aside0.mk hy164
 clear hy164
 obtain rfl := Option.some.inj H
 go_enter Try.func17, Try.ntmps17
 try go_wp2_with (first | ((with_reducible refine gate_dst (N := 3) rfl ?_); refine box_event ?hg (N := 3) ?hd (cs := #[.int .u64 a1_0, .int .u64 a1_1, .int .u64 a1_2, .string a1_3, .string a1_4, .int .i64 a1_5, .int .i64 a1_6, .int .i64 a1_7, .slice A1_8 n1_8 c1_8, .slice A1_9 n1_9 c1_9, .slice A1_10 n1_10 c1_10]) (t := 34) ?hr ?_; (case hd => rfl); (case hg => rfl); (case hr => first | (go_simp; done) | (go_simp; rfl)); intro gb145 hg w22 hbox hb; have n0_ := Aside0.mk (below_step q6y1 hb); have n1_ := Aside0.mk (hbox); have n2_ := Aside0.mk ((by rw [hg]; exact (below_size q6y1) : w.heap.size ≤ gb145)); have n3_ := Aside0.mk ((by rw [hg]; exact (below_size q6y1) : w.heap.size ≤ gb145)); clear HB; have HB := n0_; have BK145 := n1_; have GW145 := n2_; have GE145 := n3_; clear n0_ n1_ n2_ n3_; clear hb hbox hg))
 have n0_ := Aside0.mk (blk_drew BK145.out)
 have n1_ := Aside0.mk (below_drew1 HB.out)
 clear BK145
 clear HB
 have BK145 := n0_
 have HB := n1_
 clear n0_ n1_
 refine start_ (n := 8) (S := fun w' => w'.cell? ⟨gb145, 0, none⟩ = some (.int .u64 a1_0) ∧ w'.cell? ⟨gb145, 1, none⟩ = some (.int .u64 a1_1) ∧ w'.cell? ⟨gb145, 2, none⟩ = some (.int .u64 a1_2) ∧ w'.cell? ⟨gb145, 3, none⟩ = some (.string a1_3) ∧ w'.cell? ⟨gb145, 4, none⟩ = some (.string a1_4) ∧ w'.cell? ⟨gb145, 5, none⟩ = some (.int .i64 a1_5) ∧ w'.cell? ⟨gb145, 6, none⟩ = some (.int .i64 a1_6) ∧ w'.cell? ⟨gb145, 7, none⟩ = some (.int .i64 a1_7) ∧ w'.cell? ⟨gb145, 8, none⟩ = some (.slice A1_8 n1_8 c1_8) ∧ w'.cell? ⟨gb145, 9, none⟩ = some (.slice A1_9 n1_9 c1_9) ∧ w'.cell? ⟨gb145, 10, none⟩ = some (.slice A1_10 n1_10 c1_10)) (ds := []) #[false, false, false, false, false, false, false, false] (by kernel_rfl) rfl rfl ⟨q6k BK145.out 0, q6k BK145.out 1, q6k BK145.out 2, q6k BK145.out 3, q6k BK145.out 4, q6k BK145.out 5, q6k BK145.out 6, q6k BK145.out 7, q6k BK145.out 8, q6k BK145.out 9, q6k BK145.out 10⟩ (fun hHeld => ?_); refine with_tabW filter_Key.tab7 filter_Key.bits7 (fun HT_ HW_ => ?_)
 generalize w22.drew = w23 at BK145 HB hHeld ⊢
 refine q6p (i := 0) (N := some 21) (q6m 8 1) HT_.out ?_
 refine take_ (i := 1) (N := some 22) (v := ?_) (a' := ?_) (q6m 8 3) rfl rfl (take_ofW HT_.out HW_.out (by kernel_rfl)) (fun _ _ _ h => h) (Or.inl ⟨by rfl, ?_⟩) hHeld ?_ ?_; rotate_left; (rintro w' ⟨s0, s1, s2, s3, s4, s5, s6, s7, s8, s9, s10⟩; go_simp; with_reducible rfl); rotate_left; (simp only [Act.put, q6a, q6b, q6c, i64_w, i32_w]; rfl)
 refine q6p (i := 2) (N := some 23) (q6m 8 7) HT_.out ?_
 refine take_ (i := 4) (N := some 25) (v := ?_) (a' := ?_) (q6m 8 23) rfl rfl (take_ofW HT_.out HW_.out (by kernel_rfl)) (fun _ _ _ h => h) (Or.inl ⟨by rfl, ?_⟩) hHeld ?_ ?_; rotate_left; (rintro w' ⟨s0, s1, s2, s3, s4, s5, s6, s7, s8, s9, s10⟩; go_simp; with_reducible rfl); rotate_left; (simp only [Act.put, q6a, q6b, q6c, i64_w, i32_w]; rfl)
 refine one_ (i := 3) (N := some 24) (q6m 8 31) rfl rfl (one_of HT_.out (by kernel_rfl)) (by decide) (fun K hK => ?_)
 refine goes_ Try.func45 (by kernel_rfl) rfl #[.int .u64 (IntKind.u64.wrap (a1_6))] (by rfl) rfl rfl q6y2 ?_
 with_reducible refine (num_Key.calls k (IntKind.u64.wrap (a1_6)) t158 _ A19.out).mono ?_
 rintro e w24 ⟨v159, rfl, ho0, hb⟩
 refine ⟨_, rfl, ?_⟩
 have n0_ := Aside0.mk (Kd.R_lower ho0 (below_size q6y0))
 have n1_ := Aside0.mk (blk_below (g := gb145) (o := .cells #[.int .u64 a1_0, .int .u64 a1_1, .int .u64 a1_2, .string a1_3, .string a1_4, .int .i64 a1_5, .int .i64 a1_6, .int .i64 a1_7, .slice A1_8 n1_8 c1_8, .slice A1_9 n1_9 c1_9, .slice A1_10 n1_10 c1_10] 34 (0, 0)) q6y4 hb)
 have n2_ := Aside0.mk (below_step q6y0 hb)
 clear BK145
 clear HB
 have HO160 := n0_
 have BK145 := n1_
 have HB := n2_
 clear n0_ n1_ n2_
 (try clear hb)
 (try clear hb2)
 (try clear hk)
 (try clear hi)
 (try clear ho0)
 refine hK.out _ _ ⟨q6k BK145.out 0, q6k BK145.out 1, q6k BK145.out 2, q6k BK145.out 3, q6k BK145.out 4, q6k BK145.out 5, q6k BK145.out 6, q6k BK145.out 7, q6k BK145.out 8, q6k BK145.out 9, q6k BK145.out 10⟩ (fun hHeld => ?_)
 clear hK K
 refine norm_ (a' := ?_) ?_ ?_
 rotate_left
 ·show Act.put _ (some 24) _ = _
  simp only [Act.put, q6a, q6b, q6c, i64_w, i32_w]
  rfl
 refine one_ (i := 5) (N := some 26) (q6m 8 63) rfl rfl (one_of HT_.out (by kernel_rfl)) (by decide) (fun K hK => ?_)
 refine goes_ Try.func44 (by kernel_rfl) rfl #[.agg #[.int .u64 a1_0, .int .u64 a1_1, .int .u64 a1_2, .string a1_3, .string a1_4, .int .i64 a1_5, .int .i64 a1_6, .int .i64 a1_7, .slice A1_8 n1_8 c1_8, .slice A1_9 n1_9 c1_9, .slice A1_10 n1_10 c1_10]] (by rfl) rfl rfl q6y2 ?_
 with_reducible refine (key_Primary.callsR k a1_0 a1_1 a1_2 a1_3 a1_4 a1_5 a1_6 a1_7 _ _ n1_8 _ _ n1_9 _ _ n1_10 t161 _ A20.out).mono ?_
 rintro e w25 ⟨v162, rfl, ho0, hb⟩
 refine ⟨_, rfl, ?_⟩
 have n0_ := Aside0.mk (Kd.R_elder' (by (with_reducible repeat (first | apply Kd.R_alloc | apply Kd.R_drewN | apply Kd.R_drew)); exact HO160.out) (Kd.R_base ho0) hb)
 have n1_ := Aside0.mk (Kd.R_lower (Kd.R_new' ho0 (Kd.R_lt (by (with_reducible repeat (first | apply Kd.R_alloc | apply Kd.R_drewN | apply Kd.R_drew)); exact HO160.out))) (below_size q6y0))
 have n2_ := Aside0.mk (blk_below (g := gb145) (o := .cells #[.int .u64 a1_0, .int .u64 a1_1, .int .u64 a1_2, .string a1_3, .string a1_4, .int .i64 a1_5, .int .i64 a1_6, .int .i64 a1_7, .slice A1_8 n1_8 c1_8, .slice A1_9 n1_9 c1_9, .slice A1_10 n1_10 c1_10] 34 (0, 0)) q6y4 hb)
 have n3_ := Aside0.mk (below_step q6y0 hb)
 clear HO160
 clear BK145
 clear HB
 have HO160 := n0_
 have HO163 := n1_
 have BK145 := n2_
 have HB := n3_
 clear n0_ n1_ n2_ n3_
 (try clear hb)
 (try clear hb2)
 (try clear hk)
 (try clear hi)
 (try clear ho0)
 obtain ⟨Ao27, co27, eo27⟩ := Kd.R_slice HO163.out
 (first | subst eo27 | (injection eo27 with f1_ f2_ f3_; have f4_ := f1_.symm; have f5_ := f3_.symm; clear f1_ f2_ f3_; subst f4_; subst f5_))
 refine hK.out _ _ ⟨q6k BK145.out 0, q6k BK145.out 1, q6k BK145.out 2, q6k BK145.out 3, q6k BK145.out 4, q6k BK145.out 5, q6k BK145.out 6, q6k BK145.out 7, q6k BK145.out 8, q6k BK145.out 9, q6k BK145.out 10⟩ (fun hHeld => ?_)
 clear hK K
 refine norm_ (a' := ?_) ?_ ?_
 rotate_left
 ·show Act.put _ (some 26) _ = _
  simp only [Act.put, q6a, q6b, q6c, i64_w, i32_w]
  rfl
 refine one_ (i := 6) (N := some 27) (q6m 8 127) rfl rfl (one_of HT_.out (by kernel_rfl)) (by decide) (fun K hK => ?_)
 refine Kd.R_append_rows_step (Kd.int .u8) (w0 := w) w.heap.size (by rfl) (.tmp 24) (.tmp 26) 50 5 (.int .u8 0) 1 rfl Try.underlying50 info5 rfl (by decide) (by omega) v159 t158 t161 _ _ _ (fun k_ => some k_ ≠ (.slice Ao27 t161.length co27 : Value).ownBlock) (fun _ => False) rfl rfl ?aO ?aR (fun _ _ h => h) (fun _ h => h.elim) ?aF ?aB ?aS ?aL ?_
 (case aR => repeat (first | exact (Kd.R_reads' HO163.out).2.2 | (with_reducible refine Kd.C_alloc ?_ _) | (with_reducible refine Kd.C_drewN ?_ _) | (with_reducible refine Kd.C_drew ?_)))
 (case aB => exact q6y0)
 (case aF => exact (fun k_ hk => Kd.fresh' (Kd.R_lt (by (with_reducible repeat (first | apply Kd.R_alloc | apply Kd.R_drewN | apply Kd.R_drew)); exact HO163.out)) k_ hk))
 (case aO => exact (by (with_reducible repeat (first | apply Kd.R_alloc | apply Kd.R_drewN | apply Kd.R_drew)); exact Kd.R_mono HO160.out (fun _ hk => hk.2)))
 (case aS => exact (below_size q6y0))
 (case aL => have := LMc21.out; omega)
 intro v165 w26 ho hb hg hat
 rw [← Ny164.out] at ho
 have n0_ := Aside0.mk (blk_grown (g := gb145) (o := .cells #[.int .u64 a1_0, .int .u64 a1_1, .int .u64 a1_2, .string a1_3, .string a1_4, .int .i64 a1_5, .int .i64 a1_6, .int .i64 a1_7, .slice A1_8 n1_8 c1_8, .slice A1_9 n1_9 c1_9, .slice A1_10 n1_10 c1_10] 34 (0, 0)) q6y4 hg (Kd.R_ne HO160.out BK145.out (by decide)))
 have n1_ := Aside0.mk (Kd.R_after (ok := (fun _ => True)) (by (with_reducible repeat (first | apply Kd.R_alloc | apply Kd.R_drewN | apply Kd.R_drew)); exact HO163.out) hg hat)
 have n2_ := Aside0.mk (hb)
 have n3_ := Aside0.mk (ho)
 clear BK145
 clear HO163
 clear HB
 clear HO160
 have BK145 := n0_
 have HO163 := n1_
 have HB := n2_
 have HO166 := n3_
 clear n0_ n1_ n2_ n3_
 clear ho hb hg hat
 refine hK.out _ _ ⟨q6k BK145.out 0, q6k BK145.out 1, q6k BK145.out 2, q6k BK145.out 3, q6k BK145.out 4, q6k BK145.out 5, q6k BK145.out 6, q6k BK145.out 7, q6k BK145.out 8, q6k BK145.out 9, q6k BK145.out 10⟩ (fun hHeld => ?_)
 clear hK K
 refine norm_ (a' := ?_) ?_ ?_
 rotate_left
 ·show Act.put _ (some 27) _ = _
  simp only [Act.put, q6a, q6b, q6c, i64_w, i32_w]
  rfl
 refine q6p (i := 7) (N := some 4) (q6m 8 255) HT_.out ?_
 refine done_ (done_of HT_.out (by kernel_rfl)) ?_
 try go_wp2
 go_ret
 exact ⟨_, by first | rfl | (simp [errW_none, errW_some] <;> rfl) | (simp [*, errW_none, errW_some] <;> rfl), by (with_reducible repeat (first | apply Kd.R_alloc | apply Kd.R_drewN | apply Kd.R_drew)); exact Kd.R_mono HO166.out (fun _ hk => trivial), by repeat (first | (with_reducible first | exact HB.out | apply below_alloc | apply pw_below_drewN | apply below_drew1 | refine below_set ?_ GE145.out) | exact HB.out)⟩
-- NOT PRINTED: function 7 (cambiumlaw22_awake)

end Go.Proofs.Ytffggkhahambhaa.PAll

namespace Go.Proofs.Ytffggkhahambhaa.NumFacts
set_option linter.unusedVariables false
open Go.RowKit Go.Proofs.Ytffggkhahambhaa.PAll Go.Proofs.YtffggkhahambhaaW.PrintWords Go.Proofs.YtffggkhahambhaaW.PrintLast Go.Proofs.YtffggkhahambhaaW.PrintMore Go.Proofs.Ytffggkhahambhaa.Math

/-- A number's eight bytes, the greatest first. -/
def key8 (v : Int) : List Int := [v / 72057594037927936 % 256, v / 281474976710656 % 256, v / 1099511627776 % 256, v / 4294967296 % 256, v / 16777216 % 256, v / 65536 % 256, v / 256 % 256, v % 256]
theorem key8_len (v : Int) : (key8 v).length = 8 := rfl
theorem key8_isB (v : Int) : IsB (key8 v) := by
  intro x hx
  simp only [key8, List.mem_cons, List.not_mem_nil, or_false] at hx
  omega
theorem key_step (k : Nat) (v : Int) (l : List Int) (hl : l.length = 8) (i : Nat) (hi : i < 8) :
    num_Key.l0 (k + 1) v l 8 (i : Int) = num_Key.l0 k v (l.set (7 - i) (v / 256 ^ i % 256)) 8 ((i + 1 : Nat) : Int) := by
  rw [num_Key.l0, if_pos (by omega)]
  have e1 : wrap64 (8 * (i : Int)) = 8 * (i : Int) := wrap_id (by omega) (by omega)
  have e2 : wrap64 (7 - (i : Int)) = 7 - (i : Int) := wrap_id (by omega) (by omega)
  have e3 : wrap64 ((i : Int) + 1) = (i : Int) + 1 := wrap_id (by omega) (by omega)
  rw [e1, e2, e3]
  clear e1 e2 e3
  rw [if_pos (by omega), if_pos (by omega), if_pos (by omega)]
  have e4 : (7 - (i : Int)).toNat = 7 - i := by omega
  have e5 : shr .u64 v (8 * (i : Int)) = v / 256 ^ i := by
    unfold shr
    have : min (8 * (i : Int)).toNat (IntKind.bits .u64) = 8 * i := by
      show min (8 * (i : Int)).toNat 64 = 8 * i
      omega
    rw [this, Int.pow_mul]; rfl
  rw [e4, e5]; rfl

theorem key_eq (k : Nat) (v : Int) (hk : 9 ≤ k) : num_Key.f k v = some (key8 v) := by
  obtain ⟨k, rfl⟩ : ∃ m, k = m + 9 := ⟨k - 9, by omega⟩
  unfold num_Key.f
  rw [if_pos (by omega), Option.bind_some]
  show num_Key.l0 (k + 9) v [0, 0, 0, 0, 0, 0, 0, 0] 8 ((0 : Nat) : Int) = _
  rw [key_step _ _ _ rfl 0 (by omega), key_step _ _ _ rfl 1 (by omega), key_step _ _ _ rfl 2 (by omega), key_step _ _ _ rfl 3 (by omega), key_step _ _ _ rfl 4 (by omega), key_step _ _ _ rfl 5 (by omega), key_step _ _ _ rfl 6 (by omega), key_step _ _ _ rfl 7 (by omega), num_Key.l0, if_neg (by omega)]
  simp [key8]

end Go.Proofs.Ytffggkhahambhaa.NumFacts

namespace Go.Proofs.Ytffggkhahambhaa.Tr
open Go.RowKit Go.Proofs.YtffggkhahambhaaW.PrintWords Go.Proofs.YtffggkhahambhaaW.PrintLast Go.Proofs.YtffggkhahambhaaW.PrintMore Go.Proofs.Ytffggkhahambhaa.Math Go.Proofs.Ytffggkhahambhaa.PAll Go.Proofs.Ytffggkhahambhaa.Stab
set_option linter.unusedVariables false
set_option linter.unusedSimpArgs false
/-- Where the search begins and ends. -/
structure Rng (a m b M N s0 r0 : Nat) : Prop where
  lo : a ≤ s0
  hi : r0 ≤ m
  mid : r0 ≤ M
  sr : s0 ≤ r0
  top : N - s0 ≤ b
  nm : N = M + m
  s0e : s0 = a ∨ N - s0 = b
  r0e : r0 = m ∨ r0 = M
theorem rng1 {a m b M N : Nat} (h1 : a < m) (h2 : m < b) (hM : (a + b) / 2 = M) (hN : M + m = N) (h : M < m) : Rng a m b M N (N - b) M := ⟨by omega, by omega, by omega, by omega, by omega, hN.symm, .inr (by omega), .inr rfl⟩
theorem rng2 {a m b M N : Nat} (h1 : a < m) (h2 : m < b) (hM : (a + b) / 2 = M) (hN : M + m = N) (h : ¬ M < m) : Rng a m b M N a m := ⟨by omega, by omega, by omega, by omega, by omega, hN.symm, .inl rfl, .inl rfl⟩

set_option maxHeartbeats 8000000 in
set_option maxRecDepth 1000000 in
theorem sym_calls (w0 : World) (base g n c bq : Nat) (cf : Sp → Sp → Int) (hw : Swo (ltC cf)) (HC : Hid (Cmp w0 g bq cf)) (hn : n ≤ 1000000) : ∀ (d : Nat) (P L R Q : List Sp) (a m b : Nat) (w : World), L.length + R.length ≤ d → P.length = a → a + L.length = m → m + R.length = b → 0 < L.length → 0 < R.length → Sd (ltC cf) L → Sd (ltC cf) R → Sr w0 w base g n c (P ++ L ++ R ++ Q) →
    Calls Try.prog 67 #[.slice (some ⟨g, 0, none⟩) n c, .int .i64 a, .int .i64 m, .int .i64 b, .func (.func 27) #[] #[.pointer (some ⟨bq, 0, none⟩)]] w fun e w' => e = .returned (.tuple #[]) ∧ ∃ S, Mg (ltC cf) L R S ∧ Sr w0 w' base g n c (P ++ S ++ Q) := by
  have HWO := Lib.hid hw
  have HN := Lib.hid hn
  clear hw hn
  intro d
  induction d with
  | zero => intro P L R Q a m b w hd _ _ _ h1 _; omega
  | succ d ih =>
  intro P L R Q a m b w hd ha hm hb hL0 hR0 hL hR hS
  by_cases hl1 : L.length = 1
  · obtain ⟨v, rfl⟩ : ∃ v, L = [v] := by
      cases L with
      | nil => cases hl1
      | cons v r => exact ⟨v, by simp at hl1; rw [hl1]⟩
    exact symL_calls w0 base g n c bq cf HWO.out HC P R Q v a m b w ha hm hb hR HN.out (by simpa only [List.append_assoc, List.cons_append, List.nil_append] using hS)
  by_cases hr1 : R.length = 1
  · obtain ⟨v, rfl⟩ : ∃ v, R = [v] := by
      cases R with
      | nil => cases hr1
      | cons v r => exact ⟨v, by simp at hr1; rw [hr1]⟩
    exact symR_calls w0 base g n c bq cf HWO.out HC P L Q v a m b w ha hm hb (by omega) hL HN.out (by simpa only [List.append_assoc, List.cons_append, List.nil_append] using hS)
  have IH := Lib.hid ih
  have hnn := HN.out
  have HPa := Lib.hid ha
  have hlen := hS.len
  simp only [List.length_append] at hlen
  have HBN := Lib.hid (show b ≤ n by omega)
  have HS := Lib.hid hS
  have HSL := Lib.hid hL
  have HSR := Lib.hid hR
  have HM := Lib.hid hm
  have HB := Lib.hid hb
  have HL0 := Lib.hid (show 1 < L.length by omega)
  have HR0 := Lib.hid (show 1 < R.length by omega)
  have HD := Lib.hid hd
  obtain ⟨M, hM⟩ : ∃ M, (a + b) / 2 = M := ⟨_, rfl⟩
  obtain ⟨N, hN⟩ : ∃ N, M + m = N := ⟨_, rfl⟩
  have HMA := Lib.hid (show wrap64 ((m : Int) - (a : Int)) = (L.length : Int) by rw [w64 _ (by omega) (by omega)]; omega)
  have HBM := Lib.hid (show wrap64 ((b : Int) - (m : Int)) = (R.length : Int) by rw [w64 _ (by omega) (by omega)]; omega)
  have HMID := Lib.hid (half_eq (I := a) (J := b) (by omega) (by omega) hM)
  have HWN := Lib.hid (show wrap64 ((M : Int) + (m : Int)) = (N : Int) by rw [w64 _ (by omega) (by omega)]; omega)
  have HWS := Lib.hid (show M < m → wrap64 ((N : Int) - (b : Int)) = ((N - b : Nat) : Int) by intro h; rw [w64 _ (by omega) (by omega)]; omega)
  have HWP := Lib.hid (show wrap64 ((N : Int) - 1) = ((N - 1 : Nat) : Int) by rw [w64 _ (by omega) (by omega)]; omega)
  have e0 : ((L.length : Int) == 1) = false := beq_eq_false_iff_ne.2 (by omega)
  have e1 : ((R.length : Int) == 1) = false := beq_eq_false_iff_ne.2 (by omega)
  have HAM := Lib.hid (show a < m by omega)
  have HMB := Lib.hid (show m < b by omega)
  have HMe := Lib.hid hM
  have HNe := Lib.hid hN
  clear ih hd ha hm hb hL0 hR0 hL hR hS hl1 hr1 hlen hnn hM hN
  have mixed : Try.prog.follows Departure.mixedOrders = true := by kernel_rfl
  go_enter Try.func67, Try.ntmps67
  have hma := HMA.out
  have hbm := HBM.out
  go_upto_region 27 with (fail)
  clear hma hbm e0 e1
  obtain ⟨bt, hbt⟩ : ∃ bt : Bool, decide (M < m) = bt := ⟨_, rfl⟩
  have HBT := Lib.hid hbt
  have HBTi := Lib.hid (show decide ((M : Int) < (m : Int)) = bt by rw [← hbt]; exact decide_eq_decide.2 ⟨Int.ofNat_lt.1, Int.ofNat_lt.2⟩)
  clear hbt
  go_cut [18, 19, 140] from 129 to 139 (fun v18 v19 v wq => v18 = .int .i64 M ∧ v19 = .int .i64 N ∧ v = .bool bt ∧ w = wq)
  case first =>
    go_wp2
    go_meet
    case rel => exact ⟨by rw [HMID.out], by rw [HMID.out, HWN.out], by rw [HMID.out]; first | rw [HBTi.out] | simp only [HBT.out, HBTi.out, Int.ofNat_lt], rfl⟩
  case rest =>
  obtain ⟨rfl, rfl, rfl, rfl⟩ := hcut
  apply_assumption
  go_cut [20, 21] from 141 to 146 (fun s r wq => ∃ s0 r0 : Nat, s = .int .i64 s0 ∧ r = .int .i64 r0 ∧ Hid (Rng a m b M N s0 r0) ∧ w = wq)
  case first =>
    cases bt with
    | true =>
      have HR := Lib.hid (rng1 HAM.out HMB.out HMe.out HNe.out (of_decide_eq_true HBT.out))
      have hws := HWS.out (of_decide_eq_true HBT.out)
      go_wp2
      go_meet
      case rel => exact ⟨N - b, M, by first | rfl | rw [hws], rfl, HR, rfl⟩
    | false =>
      have HR := Lib.hid (rng2 HAM.out HMB.out HMe.out HNe.out (of_decide_eq_false HBT.out))
      go_wp2
      go_meet
      case rel => exact ⟨a, m, rfl, rfl, HR, rfl⟩
  case rest =>
  obtain ⟨s0, r0, rfl, rfl, HRG, rfl⟩ := hcut
  apply_assumption
  refine wp_seq_k fun K22 hK22 => ?_
  go_cut [22] from 147 to 148 (fun v wq => v = .int .i64 ((N - 1 : Nat) : Int) ∧ w = wq)
  case first =>
    go_wp2
    go_meet
    case rel => exact ⟨by rw [HWP.out], rfl⟩
  case rest =>
  obtain ⟨rfl, rfl⟩ := hcut
  apply hK22
  refine wp_seq_k fun K33 hK33 => ?_
  go_cut [20, 21, 23] from 149 to 174 (fun s _ _ wq => ∃ e : Nat, s = .int .i64 e ∧ Hid (s0 ≤ e) ∧ Hid (e ≤ r0) ∧ Hid (s0 < e → ∀ x y, L[e - 1 - a]? = some x → R[N - e - m]? = some y → ltC cf y x = false) ∧ Hid (e < r0 → ∀ x y, L[e - a]? = some x → R[N - 1 - e - m]? = some y → ltC cf y x = true) ∧ Hid (Sr w0 wq base g n c (P ++ L ++ R ++ Q)))
  case first =>
    first | (refine wp_block ?_) | skip
    go_loopw [20, 21, 23] (fun s u _ wr => ∃ (i j : Nat), Hid (i ≤ j) ∧ Hid (s0 ≤ i) ∧ Hid (j ≤ r0) ∧ s = .int .i64 i ∧ u = .int .i64 j ∧ Hid (s0 < i → ∀ x y, L[i - 1 - a]? = some x → R[N - i - m]? = some y → ltC cf y x = false) ∧ Hid (j < r0 → ∀ x y, L[j - a]? = some x → R[N - 1 - j - m]? = some y → ltC cf y x = true) ∧ Hid (Sr w0 wr base g n c (P ++ L ++ R ++ Q))) (fun s u _ _ => (intOf u - intOf s).toNat)
    case atStart => exact ⟨s0, r0, Lib.hid HRG.out.sr, Lib.hid (Nat.le_refl _), Lib.hid (Nat.le_refl _), rfl, rfl, Lib.hid (fun h => absurd h (Nat.lt_irrefl _)), Lib.hid (fun h => absurd h (Nat.lt_irrefl _)), HS⟩
    case round =>
      clear HS
      obtain ⟨I, J, HIJ, HSI, HJR, rfl, rfl, HI, HJ, HS⟩ := hrel
      by_cases hlt : I < J
      · have q : (I : Int) < (J : Int) := by omega
        obtain ⟨H, hH⟩ : ∃ H, (I + J) / 2 = H := ⟨_, rfl⟩
        obtain ⟨Z, hZ⟩ : ∃ Z, N - 1 - H = Z := ⟨_, rfl⟩
        have hrg := HRG.out
        have hsi := HSI.out
        have hjr := HJR.out
        have hma2 := HM.out
        have hmb2 := HB.out
        have hpa := HPa.out
        have hbn := HBN.out
        have hnn := HN.out
        obtain ⟨lo, hi, hmid, hsr, htop, hnm, _, _⟩ := hrg
        have hih : I ≤ H := by omega
        have hhj : H < J := by omega
        have hzm : m ≤ Z := by omega
        have hzb : Z < b := by omega
        obtain ⟨x, hx⟩ : ∃ x, L[H - a]? = some x := ⟨_, List.getElem?_eq_getElem (by omega)⟩
        obtain ⟨y, hy⟩ : ∃ y, R[Z - m]? = some y := ⟨_, List.getElem?_eq_getElem (by omega)⟩
        have HGY := Lib.hid (show (P ++ L ++ R ++ Q)[H]? = some x by rw [List.append_assoc, List.append_assoc, List.getElem?_append_right (by omega), hpa, List.getElem?_append_left (by omega)]; exact hx)
        have HGX := Lib.hid (show (P ++ L ++ R ++ Q)[Z]? = some y by rw [List.append_assoc, List.getElem?_append_right (by rw [List.length_append]; omega), List.length_append, show Z - (P.length + L.length) = Z - m by omega, List.getElem?_append_left (by omega)]; exact hy)
        have HX := Lib.hid hx
        have HY := Lib.hid hy
        have HHL := Lib.hid hih
        have HHJ := Lib.hid hhj
        have HZE := Lib.hid hZ
        have HZ1 := Lib.hid (show N - (H + 1) - m = Z - m by omega)
        have b1 : (H : Int) < (n : Int) := by omega
        have b2 : (Z : Int) < (n : Int) := by omega
        have HHALF := Lib.hid (half_eq (by omega) (by omega) hH)
        have HWH := Lib.hid (show wrap64 ((H : Int) + 1) = ((H + 1 : Nat) : Int) by rw [w64 _ (by omega) (by omega)]; omega)
        have HWZ := Lib.hid (show wrap64 (((N - 1 : Nat) : Int) - (H : Int)) = (Z : Int) by rw [w64 _ (by omega) (by omega)]; omega)
        clear hlt hH hZ hsi hjr hma2 hmb2 hpa hbn hnn lo hi hmid hsr htop hnm hih hhj hzm hzb hx hy
        obtain ⟨kk, hkk⟩ : ∃ kk : Nat, kk = 11 := ⟨_, rfl⟩
        have HKK := Lib.hid hkk
        have zE := Try.sizeOf34
        simp only [← hkk] at zE
        have aE := Try.isAgg34
        have la := HS.out.drew.ldk HGX.out hkk Try.prog
        have lb := HS.out.drew.ldk HGY.out hkk Try.prog
        obtain ⟨cx, hcx⟩ : ∃ cx, encS y = cx := ⟨_, rfl⟩
        obtain ⟨cy, hcy⟩ : ∃ cy, encS x = cy := ⟨_, rfl⟩
        have na : cx.length = kk := by rw [← hcx, hkk]; rfl
        have nb : cy.length = kk := by rw [← hcy, hkk]; rfl
        rw [hcx] at la
        rw [hcy] at lb
        have HCX := Lib.hid hcx
        have HCY := Lib.hid hcy
        have aX : (⟨g, 0, none⟩ : Addr).add (Z * kk) = ⟨g, Z * kk, none⟩ := add_at _ _
        have aY : (⟨g, 0, none⟩ : Addr).add (H * kk) = ⟨g, H * kk, none⟩ := add_at _ _
        have HSd := Lib.hid HS.out.drew
        clear hkk hcx hcy
        have hhalf := HHALF.out
        have hwz := HWZ.out
        go_upto_region 35 with (fail)
        refine start_ (n := 14) (S := fun w' => Sem.run Try.prog (loadCellsFrom ⟨g, Z * kk, none⟩ 0 kk #[]) w' = .ok cx.toArray w' ∧ Sem.run Try.prog (loadCellsFrom ⟨g, H * kk, none⟩ 0 kk #[]) w' = .ok cy.toArray w') (ds := []) #[false, false, false, false, false, false, false, false, false, false, false, false, false, false] (by kernel_rfl) rfl rfl ⟨la, lb⟩ (fun hHeld => ?_)
        generalize hwe : wr.drew = w5 at la lb HSd hHeld ⊢
        clear hwe la lb
        refine pure_ (i := 0) (N := some 158) (v := ?_) (a' := ?_) #[true, false, false, false, false, false, false, false, false, false, false, false, false, false] rfl rfl (by kernel_rfl) (fun _ _ _ h => h) (Or.inl ⟨by rfl, ?_⟩) ?_ ?_
        rotate_left
        · intro w'
          go_simp
          with_reducible rfl
        rotate_left
        · simp only [Act.put, List.setIfInBounds_toArray, List.set_cons_zero, List.set_cons_succ, i64_w, i32_w]
          rfl
        refine pure_ (i := 1) (N := some 159) (v := ?_) (a' := ?_) #[true, true, false, false, false, false, false, false, false, false, false, false, false, false] rfl rfl (by kernel_rfl) (fun _ _ _ h => h) (Or.inl ⟨by rfl, ?_⟩) ?_ ?_
        rotate_left
        · intro w'
          go_simp
          with_reducible rfl
        rotate_left
        · simp only [Act.put, List.setIfInBounds_toArray, List.set_cons_zero, List.set_cons_succ, i64_w, i32_w]
          rfl
        refine pure_ (i := 2) (N := some 160) (v := ?_) (a' := ?_) #[true, true, true, false, false, false, false, false, false, false, false, false, false, false] rfl rfl (by kernel_rfl) (fun _ _ _ h => h) (Or.inl ⟨by rfl, ?_⟩) ?_ ?_
        rotate_left
        · intro w'
          go_simp
          with_reducible rfl
        rotate_left
        · simp only [Act.put, List.setIfInBounds_toArray, List.set_cons_zero, List.set_cons_succ, i64_w, i32_w]
          rfl
        refine pure_ (i := 3) (N := some 161) (v := ?_) (a' := ?_) #[true, true, true, true, false, false, false, false, false, false, false, false, false, false] rfl rfl (by kernel_rfl) (fun _ _ _ h => h) (Or.inl ⟨by rfl, ?_⟩) ?_ ?_
        rotate_left
        · intro w'
          go_simp
          with_reducible rfl
        rotate_left
        · simp only [Act.put, List.setIfInBounds_toArray, List.set_cons_zero, List.set_cons_succ, i64_w, i32_w]
          rfl
        refine pure_ (i := 4) (N := some 162) (v := ?_) (a' := ?_) #[true, true, true, true, true, false, false, false, false, false, false, false, false, false] rfl rfl (by kernel_rfl) (fun _ _ _ h => h) (Or.inl ⟨by rfl, ?_⟩) ?_ ?_
        rotate_left
        · intro w'
          go_simp
          with_reducible rfl
        rotate_left
        · simp only [Act.put, List.setIfInBounds_toArray, List.set_cons_zero, List.set_cons_succ, i64_w, i32_w]
          rfl
        refine pure_ (i := 5) (N := some 163) (v := ?_) (a' := ?_) #[true, true, true, true, true, true, false, false, false, false, false, false, false, false] rfl rfl (by kernel_rfl) (fun _ _ _ h => h) (Or.inl ⟨by rfl, ?_⟩) ?_ ?_
        rotate_left
        · intro w'
          go_simp
          with_reducible rfl
        rotate_left
        · simp only [Act.put, List.setIfInBounds_toArray, List.set_cons_zero, List.set_cons_succ, i64_w, i32_w]
          rfl
        refine pure_ (i := 7) (N := some 165) (v := ?_) (a' := ?_) #[true, true, true, true, true, true, false, true, false, false, false, false, false, false] rfl rfl (by kernel_rfl) (fun _ _ _ h => h) (Or.inl ⟨by rfl, ?_⟩) ?_ ?_
        rotate_left
        · intro w'
          go_simp
          with_reducible rfl
        rotate_left
        · simp only [Act.put, List.setIfInBounds_toArray, List.set_cons_zero, List.set_cons_succ, i64_w, i32_w]
          rfl
        refine pure_ (i := 8) (N := some 166) (v := ?_) (a' := ?_) #[true, true, true, true, true, true, false, true, true, false, false, false, false, false] rfl rfl (by kernel_rfl) (fun _ _ _ h => h) (Or.inl ⟨by rfl, ?_⟩) ?_ ?_
        rotate_left
        · intro w'
          go_simp
          with_reducible rfl
        rotate_left
        · simp only [Act.put, List.setIfInBounds_toArray, List.set_cons_zero, List.set_cons_succ, i64_w, i32_w]
          rfl
        refine pure_ (i := 9) (N := some 167) (v := ?_) (a' := ?_) #[true, true, true, true, true, true, false, true, true, true, false, false, false, false] rfl rfl (by kernel_rfl) (fun _ _ _ h => h) (Or.inl ⟨by rfl, ?_⟩) ?_ ?_
        rotate_left
        · intro w'
          go_simp
          with_reducible rfl
        rotate_left
        · simp only [Act.put, List.setIfInBounds_toArray, List.set_cons_zero, List.set_cons_succ, i64_w, i32_w]
          rfl
        refine take_ (i := 6) (N := some 164) (v := ?_) (a' := ?_) #[true, true, true, true, true, true, true, true, true, true, false, false, false, false] rfl rfl (by kernel_rfl) (fun _ _ _ h => h) (Or.inl ⟨by rfl, ?_⟩) hHeld ?_ ?_
        rotate_left
        · rintro w' ⟨s0, s1⟩
          go_simp
          with_reducible rfl
        rotate_left
        · simp only [Act.put, List.setIfInBounds_toArray, List.set_cons_zero, List.set_cons_succ, i64_w, i32_w]
          rfl
        refine take_ (i := 10) (N := some 168) (v := ?_) (a' := ?_) #[true, true, true, true, true, true, true, true, true, true, true, false, false, false] rfl rfl (by kernel_rfl) (fun _ _ _ h => h) (Or.inl ⟨by rfl, ?_⟩) hHeld ?_ ?_
        rotate_left
        · rintro w' ⟨s0, s1⟩
          go_simp
          with_reducible rfl
        rotate_left
        · simp only [Act.put, List.setIfInBounds_toArray, List.set_cons_zero, List.set_cons_succ, i64_w, i32_w]
          rfl
        refine one_ (i := 11) (N := some 169) #[true, true, true, true, true, true, true, true, true, true, true, true, false, false] rfl rfl (by kernel_rfl) (by decide) (fun K hK => ?_)
        have hcm := HC.out y x w5 HSd.out.gr
        rw [HCX.out, HCY.out] at hcm
        refine goesv_ Try.func27 (by kernel_rfl) rfl #[.agg cx.toArray, .agg cy.toArray, .pointer (some ⟨bq, 0, none⟩)] (by rfl) rfl rfl (by rfl) (by simp only [List.map_toArray, List.map_cons, List.map_nil]; rfl) ?_
        with_reducible refine (hcm).mono ?_
        rintro ee w6 ⟨rfl, hb⟩
        refine ⟨_, rfl, ?_⟩
        have HS6 := Lib.hid (HSd.out.next hb)
        clear hb hcm
        have la := HS6.out.ldk HGX.out HKK.out Try.prog
        have lb := HS6.out.ldk HGY.out HKK.out Try.prog
        rw [HCX.out] at la
        rw [HCY.out] at lb
        refine hK.out _ _ ⟨la, lb⟩ (fun hHeld => ?_)
        clear hK K
        refine norm_ (a' := ?_) ?_ ?_
        rotate_left
        · show Act.put _ (some 169) _ = _
          simp only [Act.put, List.setIfInBounds_toArray, List.set_cons_zero, List.set_cons_succ, i64_w, i32_w]
          rfl
        refine pure_ (i := 12) (N := some 170) (v := ?_) (a' := ?_) #[true, true, true, true, true, true, true, true, true, true, true, true, true, false] rfl rfl (by kernel_rfl) (fun _ _ _ h => h) (Or.inl ⟨by rfl, ?_⟩) ?_ ?_
        rotate_left
        · intro w'
          go_simp
          with_reducible rfl
        rotate_left
        · simp only [Act.put, List.setIfInBounds_toArray, List.set_cons_zero, List.set_cons_succ, i64_w, i32_w]
          rfl
        refine pure_ (i := 13) (N := some 171) (v := ?_) (a' := ?_) #[true, true, true, true, true, true, true, true, true, true, true, true, true, true] rfl rfl (by kernel_rfl) (fun _ _ _ h => h) (Or.inl ⟨by rfl, ?_⟩) ?_ ?_
        rotate_left
        · intro w'
          go_simp
          with_reducible rfl
        rotate_left
        · simp only [Act.put, List.setIfInBounds_toArray, List.set_cons_zero, List.set_cons_succ, i64_w, i32_w]
          rfl
        refine done_ (by kernel_rfl) ?_
        clear la lb
        clear hhalf hwz b1 b2
        obtain ⟨rb, hrb⟩ : ∃ rb, decide (cf y x < 0) = rb := ⟨_, rfl⟩
        rw [hrb]
        cases rb with
        | true =>
          have HLV := Lib.hid (show ltC cf y x = true from hrb)
          clear hrb
          go_wp2
          go_roundw
          case rel => exact ⟨I, H, HHL, HSI, Lib.hid (by have h1 := HHJ.out; have h2 := HJR.out; omega), rfl, by rw [HHALF.out], HI, Lib.hid (fun _ x' y' hx' hy' => by rw [HX.out] at hx'; rw [HZE.out, HY.out] at hy'; injection hx' with hx'; injection hy' with hy'; rw [← hx', ← hy']; exact HLV.out), HS6⟩
          case measure => rw [HHALF.out]; exact bs_m2 HHL.out HHJ.out
        | false =>
          have HLV := Lib.hid (show ltC cf y x = false from hrb)
          clear hrb
          go_wp2
          go_roundw
          case rel => exact ⟨H + 1, J, Lib.hid (by have := HHJ.out; omega), Lib.hid (by have h1 := HHL.out; have h2 := HSI.out; omega), HJR, by rw [HHALF.out, HWH.out], rfl, Lib.hid (fun _ x' y' hx' hy' => by rw [Nat.add_sub_cancel, HX.out] at hx'; rw [HZ1.out, HY.out] at hy'; injection hx' with hx'; injection hy' with hy'; rw [← hx', ← hy']; exact HLV.out), HJ, HS6⟩
          case measure => rw [HHALF.out, HWH.out]; exact bs_m1 HHL.out HHJ.out
      · have hij : I = J := by have h3 := HIJ.out; omega
        subst hij
        have q : decide ((I : Int) < (I : Int)) = false := decide_eq_false (by omega)
        clear hlt
        go_wp2
        go_meet
        case rel => exact ⟨I, rfl, HSI, HJR, HI, HJ, HS⟩
  case rest =>
  clear HS
  obtain ⟨e, rfl, HSE, HER, HI, HJ, HS⟩ := hcut
  apply hK33
  obtain ⟨E, hE⟩ : ∃ E, N - e = E := ⟨_, rfl⟩
  obtain ⟨lo, hi, hmid, hsr, htop, hnm, hs0e, hr0e⟩ := HRG.out
  have hse := HSE.out
  have her := HER.out
  have hm2 := HM.out
  have hb2 := HB.out
  have hpa := HPa.out
  have hbn := HBN.out
  have hnn := HN.out
  have hMe := HMe.out
  have HWE := Lib.hid (show wrap64 ((N : Int) - (e : Int)) = (E : Int) by rw [w64 _ (by omega) (by omega)]; omega)
  obtain ⟨k1, hk1⟩ : ∃ k1, e - a = k1 := ⟨_, rfl⟩
  obtain ⟨k2, hk2⟩ : ∃ k2, E - m = k2 := ⟨_, rfl⟩
  have HBL := Lib.hid (border_le (k1 := k1) (k2 := k2) HWO.out HSL.out HSR.out (by omega) (fun h x y hx hy => by
    have h1 := (List.getElem?_eq_some_iff.1 hy).1
    refine HI.out (by omega) x y ?_ ?_
    · rw [show e - 1 - a = k1 - 1 by omega]; exact hx
    · rw [show N - e - m = k2 by omega]; exact hy))
  have HBT2 := Lib.hid (border_lt (k1 := k1) (k2 := k2) HWO.out HSL.out HSR.out (by omega) (fun h x y hx hy => by
    have h1 := (List.getElem?_eq_some_iff.1 hx).1
    refine HJ.out (by omega) x y ?_ ?_
    · rw [show e - a = k1 by omega]; exact hx
    · rw [show N - 1 - e - m = k2 - 1 by omega]; exact hy))
  obtain ⟨L1, hL1⟩ : ∃ L1, L.take k1 = L1 := ⟨_, rfl⟩
  obtain ⟨L2, hL2⟩ : ∃ L2, L.drop k1 = L2 := ⟨_, rfl⟩
  obtain ⟨R1, hR1⟩ : ∃ R1, R.take k2 = R1 := ⟨_, rfl⟩
  obtain ⟨R2, hR2⟩ : ∃ R2, R.drop k2 = R2 := ⟨_, rfl⟩
  have HLS := Lib.hid (show L1 ++ L2 = L by rw [← hL1, ← hL2, List.take_append_drop])
  have HRS := Lib.hid (show R1 ++ R2 = R by rw [← hR1, ← hR2, List.take_append_drop])
  have HL1 := Lib.hid (show a + L1.length = e by rw [← hL1, List.length_take]; omega)
  have HL2 := Lib.hid (show e + L2.length = m by rw [← hL2, List.length_drop]; omega)
  have HR1 := Lib.hid (show m + R1.length = E by rw [← hR1, List.length_take]; omega)
  have HR2 := Lib.hid (show E + R2.length = b by rw [← hR2, List.length_drop]; omega)
  have HEM := Lib.hid (show e + R1.length = M by rw [← hR1, List.length_take]; omega)
  have HME := Lib.hid (show M + L2.length = E by rw [← hL2, List.length_drop]; omega)
  have HDL := Lib.hid (show L1.length + R1.length ≤ d by have h1 := HD.out; have h2 := HL0.out; rw [← hL1, ← hR1, List.length_take, List.length_take]; omega)
  have HDR := Lib.hid (show L2.length + R2.length ≤ d by have h1 := HD.out; have h2 := HL0.out; have h3 := HR0.out; rw [← hL2, ← hR2, List.length_drop, List.length_drop]; omega)
  rw [hL1, hR2] at HBL
  rw [hL2, hR1] at HBT2
  have hsr2 := HS.out
  rw [← HLS.out, ← HRS.out] at hsr2
  have HSO := Lib.hid (show Sr w0 wc base g n c ((P ++ L1) ++ L2 ++ R1 ++ (R2 ++ Q)) by simpa only [List.append_assoc] using hsr2)
  have HPL1 := Lib.hid (show (P ++ L1).length = e by rw [List.length_append, hpa, HL1.out])
  clear hE lo hi hmid hsr htop hnm hs0e hr0e hse her hm2 hb2 hpa hbn hnn hMe hk1 hk2 hL1 hL2 hR1 hR2 hsr2 HS HI HJ
  refine wp_seq_k fun K24 hK24 => ?_
  go_cut [24] from 175 to 177 (fun v wq => v = .int .i64 E ∧ wc = wq)
  case first =>
    go_wp2
    go_meet
    case rel => exact ⟨by rw [HWE.out], rfl⟩
  case rest =>
  obtain ⟨rfl, rfl⟩ := hcut
  apply hK24
  obtain ⟨bo, hbo⟩ : ∃ bo : Bool, (decide (e < m) && decide (m < E)) = bo := ⟨_, rfl⟩
  have Hbo := Lib.hid hbo
  clear hbo
  go_upto_region 39 with (fail)
  go_cut [185] from 178 to 184 (fun v wq => v = .bool bo ∧ wc = wq)
  case first =>
    by_cases h1 : e < m
    · have q1 : (e : Int) < (m : Int) := by omega
      by_cases h2 : m < E
      · have q2 : (m : Int) < (E : Int) := by omega
        have HE1 := Lib.hid (show true = bo by rw [← Hbo.out, decide_eq_true h1, decide_eq_true h2]; rfl)
        go_wp2
        go_meet
        case rel => exact ⟨by rw [← HE1.out], rfl⟩
      · have q2 : decide ((m : Int) < (E : Int)) = false := decide_eq_false (by omega)
        have q2n : decide (m < E) = false := decide_eq_false h2
        have HE1 := Lib.hid (show false = bo by rw [← Hbo.out, decide_eq_true h1, decide_eq_false h2]; rfl)
        clear h2
        go_wp2
        go_meet
        case rel => exact ⟨by rw [← HE1.out], rfl⟩
    · have q1 : decide ((e : Int) < (m : Int)) = false := decide_eq_false (by omega)
      have q1n : decide (e < m) = false := decide_eq_false h1
      have HE1 := Lib.hid (show false = bo by rw [← Hbo.out, decide_eq_false h1]; rfl)
      clear h1
      go_wp2
      go_meet
      case rel => exact ⟨by rw [← HE1.out], rfl⟩
  case rest =>
  obtain ⟨rfl, rfl⟩ := hcut
  apply_assumption
  go_cut [185] from 186 to 191 (fun _ wq => Hid (Sr w0 wq base g n c ((P ++ L1) ++ R1 ++ L2 ++ (R2 ++ Q))))
  case first =>
    cases bo with
    | true =>
      have hq : e < m ∧ m < E := by have := Hbo.out; simpa using this
      have hcall := rotate_calls w0 base g n c (P ++ L1) L2 R1 (R2 ++ Q) e m E (.func (.func 27) #[] #[.pointer (some ⟨bq, 0, none⟩)]) wc HPL1.out (by rw [HPL1.out]; exact HL2.out) HR1.out (by have := HL2.out; omega) (by have := HR1.out; omega) HN.out HSO.out
      have HCALL := Lib.hid hcall
      clear hcall hq
      go_wp2_with fail
      refine HCALL.out.mono ?_
      rintro ee w2 ⟨rfl, hs2⟩
      have HS2 := Lib.hid hs2
      clear hs2
      go_wp2
      go_meet
      case rel => exact HS2
    | false =>
      have HS2 := Lib.hid (show Sr w0 wc base g n c ((P ++ L1) ++ R1 ++ L2 ++ (R2 ++ Q)) by
        have hq := Hbo.out
        rw [Bool.and_eq_false_iff, decide_eq_false_iff_not, decide_eq_false_iff_not] at hq
        have h := HSO.out
        rcases hq with hq | hq
        · have : L2 = [] := List.eq_nil_of_length_eq_zero (by have := HL2.out; omega)
          rw [this] at h ⊢
          simpa using h
        · have : R1 = [] := List.eq_nil_of_length_eq_zero (by have := HR1.out; omega)
          rw [this] at h ⊢
          simpa using h)
      go_wp2
      go_meet
      case rel => exact HS2
  case rest =>
  clear HSO
  have HSO := hcut
  clear hcut
  apply_assumption
  obtain ⟨bp, hbp⟩ : ∃ bp : Bool, (decide (a < e) && decide (e < M)) = bp := ⟨_, rfl⟩
  have Hbp := Lib.hid hbp
  clear hbp
  go_upto_region 41 with (fail)
  go_cut [199] from 192 to 198 (fun v wq => v = .bool bp ∧ wc = wq)
  case first =>
    by_cases h1 : a < e
    · have q1 : (a : Int) < (e : Int) := by omega
      by_cases h2 : e < M
      · have q2 : (e : Int) < (M : Int) := by omega
        have HE1 := Lib.hid (show true = bp by rw [← Hbp.out, decide_eq_true h1, decide_eq_true h2]; rfl)
        go_wp2
        go_meet
        case rel => exact ⟨by rw [← HE1.out], rfl⟩
      · have q2 : decide ((e : Int) < (M : Int)) = false := decide_eq_false (by omega)
        have q2n : decide (e < M) = false := decide_eq_false h2
        have HE1 := Lib.hid (show false = bp by rw [← Hbp.out, decide_eq_true h1, decide_eq_false h2]; rfl)
        clear h2
        go_wp2
        go_meet
        case rel => exact ⟨by rw [← HE1.out], rfl⟩
    · have q1 : decide ((a : Int) < (e : Int)) = false := decide_eq_false (by omega)
      have q1n : decide (a < e) = false := decide_eq_false h1
      have HE1 := Lib.hid (show false = bp by rw [← Hbp.out, decide_eq_false h1]; rfl)
      clear h1
      go_wp2
      go_meet
      case rel => exact ⟨by rw [← HE1.out], rfl⟩
  case rest =>
  obtain ⟨rfl, rfl⟩ := hcut
  apply_assumption
  go_cut [199] from 200 to 205 (fun _ wq => ∃ S1, Hid (Mg (ltC cf) L1 R1 S1) ∧ Hid (Sr w0 wq base g n c ((P ++ S1) ++ L2 ++ R2 ++ Q)))
  case first =>
    have HSL1 := Lib.hid (show Sd (ltC cf) L1 from by have h := HSL.out; rw [← HLS.out] at h; exact (sd_app.1 h).1)
    have HSR1 := Lib.hid (show Sd (ltC cf) R1 from by have h := HSR.out; rw [← HRS.out] at h; exact (sd_app.1 h).1)
    cases bp with
    | true =>
      have hq : a < e ∧ e < M := by have := Hbp.out; simpa using this
      have hcall := IH.out P L1 R1 (L2 ++ R2 ++ Q) a e M wc HDL.out HPa.out HL1.out HEM.out (by have := HL1.out; omega) (by have := HEM.out; omega) HSL1.out HSR1.out (by have h := HSO.out; simpa only [List.append_assoc] using h)
      have HCALL := Lib.hid hcall
      clear hcall hq
      go_wp2_with fail
      refine HCALL.out.mono ?_
      rintro ee w2 ⟨rfl, S1, hg1, hs2⟩
      have HG1 := Lib.hid hg1
      have HS2 := Lib.hid (show Sr w0 w2 base g n c ((P ++ S1) ++ L2 ++ R2 ++ Q) by simpa only [List.append_assoc] using hs2)
      clear hs2 hg1
      go_wp2
      go_meet
      case rel => exact ⟨S1, HG1, HS2⟩
    | false =>
      have HG1 := Lib.hid (show Mg (ltC cf) L1 R1 (L1 ++ R1) by
        have hq := Hbp.out
        rw [Bool.and_eq_false_iff, decide_eq_false_iff_not, decide_eq_false_iff_not] at hq
        rcases hq with hq | hq
        · have : L1 = [] := List.eq_nil_of_length_eq_zero (by have := HL1.out; omega)
          rw [this, List.nil_append]
          exact Mg.nilL HSR1.out
        · have : R1 = [] := List.eq_nil_of_length_eq_zero (by have := HEM.out; omega)
          rw [this, List.append_nil]
          exact Mg.nilR HSL1.out)
      have HS2 := Lib.hid (show Sr w0 wc base g n c ((P ++ (L1 ++ R1)) ++ L2 ++ R2 ++ Q) by have h := HSO.out; simpa only [List.append_assoc] using h)
      go_wp2
      go_meet
      case rel => exact ⟨L1 ++ R1, HG1, HS2⟩
  case rest =>
  clear HSO
  obtain ⟨S1, HG1, HSO⟩ := hcut
  apply_assumption
  have HPS1 := Lib.hid (show (P ++ S1).length = M by rw [List.length_append, HPa.out, HG1.out.len]; have h1 := HL1.out; have h2 := HEM.out; omega)
  obtain ⟨bq2, hbq2⟩ : ∃ bq2 : Bool, (decide (M < E) && decide (E < b)) = bq2 := ⟨_, rfl⟩
  have Hbq2 := Lib.hid hbq2
  clear hbq2
  go_upto_region 43 with (fail)
  go_cut [213] from 206 to 212 (fun v wq => v = .bool bq2 ∧ wc = wq)
  case first =>
    by_cases h1 : M < E
    · have q1 : (M : Int) < (E : Int) := by omega
      by_cases h2 : E < b
      · have q2 : (E : Int) < (b : Int) := by omega
        have HE1 := Lib.hid (show true = bq2 by rw [← Hbq2.out, decide_eq_true h1, decide_eq_true h2]; rfl)
        go_wp2
        go_meet
        case rel => exact ⟨by rw [← HE1.out], rfl⟩
      · have q2 : decide ((E : Int) < (b : Int)) = false := decide_eq_false (by omega)
        have q2n : decide (E < b) = false := decide_eq_false h2
        have HE1 := Lib.hid (show false = bq2 by rw [← Hbq2.out, decide_eq_true h1, decide_eq_false h2]; rfl)
        clear h2
        go_wp2
        go_meet
        case rel => exact ⟨by rw [← HE1.out], rfl⟩
    · have q1 : decide ((M : Int) < (E : Int)) = false := decide_eq_false (by omega)
      have q1n : decide (M < E) = false := decide_eq_false h1
      have HE1 := Lib.hid (show false = bq2 by rw [← Hbq2.out, decide_eq_false h1]; rfl)
      clear h1
      go_wp2
      go_meet
      case rel => exact ⟨by rw [← HE1.out], rfl⟩
  case rest =>
  obtain ⟨rfl, rfl⟩ := hcut
  apply_assumption
  have HSL2 := Lib.hid (show Sd (ltC cf) L2 from by have h := HSL.out; rw [← HLS.out] at h; exact (sd_app.1 h).2.1)
  have HSR2 := Lib.hid (show Sd (ltC cf) R2 from by have h := HSR.out; rw [← HRS.out] at h; exact (sd_app.1 h).2.1)
  have HJOIN := Lib.hid (show ∀ S2, Mg (ltC cf) L2 R2 S2 → Mg (ltC cf) L R (S1 ++ S2) from fun S2 hg2 => by
    have h := Mg.join HWO.out HG1.out hg2 (by rw [HLS.out]; exact HSL.out) (by rw [HRS.out]; exact HSR.out) HBL.out HBT2.out
    rwa [HLS.out, HRS.out] at h)
  cases bq2 with
  | true =>
    have hq : M < E ∧ E < b := by have := Hbq2.out; simpa using this
    have hcall := IH.out (P ++ S1) L2 R2 Q M E b wc HDR.out HPS1.out HME.out HR2.out (by have := HME.out; omega) (by have := HR2.out; omega) HSL2.out HSR2.out HSO.out
    have HCALL := Lib.hid hcall
    clear hcall hq
    go_wp2_with fail
    refine HCALL.out.mono ?_
    rintro ee w2 ⟨rfl, S2, hg2, hs2⟩
    have HG2 := Lib.hid (HJOIN.out S2 hg2)
    have HS2 := Lib.hid hs2
    clear hs2 hg2
    go_wp2
    go_end0
    exact ⟨rfl, S1 ++ S2, HG2.out, by have h := HS2.out; simpa only [List.append_assoc] using h⟩
  | false =>
    have HG2 := Lib.hid (HJOIN.out (L2 ++ R2) (by
      have hq := Hbq2.out
      rw [Bool.and_eq_false_iff, decide_eq_false_iff_not, decide_eq_false_iff_not] at hq
      rcases hq with hq | hq
      · have : L2 = [] := List.eq_nil_of_length_eq_zero (by have := HME.out; omega)
        rw [this, List.nil_append]
        exact Mg.nilL HSR2.out
      · have : R2 = [] := List.eq_nil_of_length_eq_zero (by have := HR2.out; omega)
        rw [this, List.append_nil]
        exact Mg.nilR HSL2.out))
    go_wp2
    go_end0
    exact ⟨rfl, S1 ++ (L2 ++ R2), HG2.out, by have h := HSO.out; simpa only [List.append_assoc] using h⟩
end Go.Proofs.Ytffggkhahambhaa.Tr

namespace Go.Proofs.Ytffggkhahambhaa.Tr
open Go.RowKit Go.Proofs.YtffggkhahambhaaW.PrintWords Go.Proofs.YtffggkhahambhaaW.PrintLast Go.Proofs.YtffggkhahambhaaW.PrintMore Go.Proofs.Ytffggkhahambhaa.Math Go.Proofs.Ytffggkhahambhaa.PAll Go.Proofs.Ytffggkhahambhaa.Stab
set_option linter.unusedVariables false
set_option linter.unusedSimpArgs false
theorem st_m {n a b : Nat} (h : a < b) (hb : a < n + 1) : n + 1 - (intOf (.int .i64 (b : Int))).toNat < n + 1 - (intOf (.int .i64 (a : Int))).toNat := by
  show n + 1 - ((b : Nat) : Int).toNat < n + 1 - ((a : Nat) : Int).toNat
  omega

set_option maxHeartbeats 8000000 in
set_option maxRecDepth 1000000 in
theorem stable_calls (w0 : World) (base g n c bq : Nat) (cf : Sp → Sp → Int) (hw : Swo (ltC cf)) (HC : Hid (Cmp w0 g bq cf)) (hn : n ≤ 1000000) (X : List Sp) (w : World) (hS : Sr w0 w base g n c X) :
    Calls Try.prog 48 #[.slice (some ⟨g, 0, none⟩) n c, .int .i64 n, .func (.func 27) #[] #[.pointer (some ⟨bq, 0, none⟩)]] w fun e w' => e = .returned (.tuple #[]) ∧ ∃ S, S.length = X.length ∧ Stb (ltC cf) X S ∧ Sr w0 w' base g n c S := by
  have HWO := Lib.hid hw
  have HN := Lib.hid hn
  have HS := Lib.hid hS
  have HL := Lib.hid hS.len
  clear hw hn hS
  have mixed : Try.prog.follows Departure.mixedOrders = true := by kernel_rfl
  go_enter Try.func48, Try.ntmps48
  go_wp2
  go_loopw [7, 8] (fun s u wr => ∃ (a b : Nat) (xD D U : List Sp), s = .int .i64 a ∧ u = .int .i64 b ∧ Hid (b = a + 20) ∧ Hid (a ≤ n) ∧ Hid (D.length = a) ∧ Hid (Full (ltC cf) 20 xD D) ∧ Hid (X = xD ++ U) ∧ Hid (Sr w0 wr base g n c (D ++ U))) (fun s _ _ => n + 1 - (intOf s).toNat)
  case atStart => exact ⟨0, 20, [], [], X, rfl, rfl, Lib.hid rfl, Lib.hid (Nat.zero_le _), Lib.hid rfl, Lib.hid .nil, Lib.hid rfl, HS⟩
  case round =>
    clear HS
    obtain ⟨a, b, xD, D, U, rfl, rfl, HBA, HAN, HDL, HF, HX, HS⟩ := hrel
    by_cases hlt : b ≤ n
    · have hba := HBA.out
      have hnn := HN.out
      have hdl := HDL.out
      have hlen := HS.out.len
      rw [List.length_append] at hlen
      have q : (b : Int) ≤ (n : Int) := by omega
      have HUT := Lib.hid (List.take_append_drop 20 U)
      obtain ⟨U1, hU1⟩ : ∃ U1, U.take 20 = U1 := ⟨_, rfl⟩
      obtain ⟨U2, hU2⟩ : ∃ U2, U.drop 20 = U2 := ⟨_, rfl⟩
      have HU1 := Lib.hid (show U1.length = 20 by rw [← hU1, List.length_take]; omega)
      rw [hU1, hU2] at HUT
      have hsr := HS.out
      rw [← HUT.out] at hsr
      have hcall := insertion_calls w0 base g n c bq cf HWO.out HC D U1 U2 a b wr hdl (by rw [HU1.out, hba]) HN.out (by simpa only [List.append_assoc] using hsr)
      have HCALL := Lib.hid hcall
      have HWB := Lib.hid (show wrap64 ((b : Int) + 20) = ((b + 20 : Nat) : Int) by rw [w64 _ (by omega) (by omega)]; omega)
      have HLT := Lib.hid hlt
      clear hcall hsr hlt hba hnn hdl hlen hU1 hU2
      go_wp2_with fail
      refine HCALL.out.mono ?_
      rintro e w2 ⟨rfl, S, hsl, hst, hs2⟩
      have HS2 := Lib.hid hs2
      have HF2 := Lib.hid (HF.out.snoc HU1.out (by rw [hsl]; exact HU1.out) hst)
      have HD2 := Lib.hid (show (D ++ S).length = b by rw [List.length_append, hsl, HU1.out, HDL.out, HBA.out])
      have HX2 := Lib.hid (show X = (xD ++ U1) ++ U2 by rw [HX.out, ← HUT.out, List.append_assoc])
      clear hs2 hst hsl HCALL
      go_wp2
      go_roundw
      case rel => exact ⟨b, b + 20, xD ++ U1, D ++ S, U2, rfl, by rw [HWB.out], Lib.hid rfl, HLT, HD2, HF2, HX2, HS2⟩
      case measure => exact st_m (by have := HBA.out; omega) (by have := HAN.out; omega)
    · have hba := HBA.out
      have hnn := HN.out
      have hdl := HDL.out
      have hlen := HS.out.len
      rw [List.length_append] at hlen
      have q : decide ((b : Int) ≤ (n : Int)) = false := decide_eq_false (by omega)
      have qn : decide (b ≤ n) = false := decide_eq_false hlt
      have hcall := insertion_calls w0 base g n c bq cf HWO.out HC D U [] a n wr hdl (by omega) HN.out (by simpa using HS.out)
      have HCALL := Lib.hid hcall
      have HUL := Lib.hid (show U.length < 20 by omega)
      clear hcall hlt hba hnn hdl hlen
      go_wp2_with fail
      refine HCALL.out.mono ?_
      rintro e w2 ⟨rfl, S, hsl, hst, hs2⟩
      have HS2 := Lib.hid (show Sr w0 w2 base g n c (D ++ S) by simpa using hs2)
      have HLV := Lib.hid (show Lv (ltC cf) 20 X (D ++ S) by rw [HX.out]; exact HF.out.app (.last U S (by have := HUL.out; omega) hsl hst))
      obtain ⟨Y, hY⟩ : ∃ Y, D ++ S = Y := ⟨_, rfl⟩
      rw [hY] at HS2 HLV
      clear hs2 hst hsl HCALL hY HS HF HX HUL HDL q qn
      go_wp2
      go_loopw [6, 7, 8, 9] (fun v6 _ _ _ wr => ∃ (s : Nat) (Y : List Sp), v6 = .int .i64 s ∧ Hid (0 < s) ∧ Hid (s ≤ 2000000) ∧ Hid (Lv (ltC cf) s X Y) ∧ Hid (Sr w0 wr base g n c Y)) (fun v6 _ _ _ _ => 4000001 - (intOf v6).toNat)
      case atStart => exact ⟨20, Y, rfl, Lib.hid (by decide), Lib.hid (by decide), HLV, HS2⟩
      case round =>
        clear HLV HS2
        obtain ⟨s, Y, rfl, HS0, HSB, HLV, HS⟩ := hrel
        have HYL := Lib.hid (show Y.length = n from HS.out.len.symm)
        by_cases hlt : s < n
        · have q : (s : Int) < (n : Int) := by omega
          obtain ⟨s2, hs2⟩ : ∃ s2, 2 * s = s2 := ⟨_, rfl⟩
          have HS2E := Lib.hid hs2
          have HSN := Lib.hid hlt
          have HW2 := Lib.hid (show wrap64 (2 * (s : Int)) = (s2 : Int) by have := HSB.out; rw [w64 _ (by omega) (by omega)]; omega)
          have HW3 := Lib.hid (show wrap64 ((s : Int) * 2) = (s2 : Int) by have := HSB.out; rw [w64 _ (by omega) (by omega)]; omega)
          clear hlt hs2
          go_wp2
          clear q
          go_loopw [7, 8] (fun v u wr => ∃ (a b : Nat) (xD D xU U : List Sp), v = .int .i64 a ∧ u = .int .i64 b ∧ Hid (b = a + s2) ∧ Hid (a ≤ n) ∧ Hid (D.length = a) ∧ Hid (Full (ltC cf) s2 xD D) ∧ Hid (Lv (ltC cf) s xU U) ∧ Hid (X = xD ++ xU) ∧ Hid (Sr w0 wr base g n c (D ++ U))) (fun v _ _ => n + 1 - (intOf v).toNat)
          case atStart => exact ⟨0, s2, [], [], X, Y, rfl, by rw [HW2.out], Lib.hid (by omega), Lib.hid (Nat.zero_le _), Lib.hid rfl, Lib.hid .nil, HLV, Lib.hid rfl, HS⟩
          case round =>
            clear HS HLV HYL
            obtain ⟨a, b, xD, D, xU, U, rfl, rfl, HBA, HAN, HDL, HF, HLV, HX, HS⟩ := hrel
            have hba := HBA.out
            have hnn := HN.out
            have hdl := HDL.out
            have hsb := HSB.out
            have hs0 := HS0.out
            have hs2e := HS2E.out
            have hlen := HS.out.len
            have han := HAN.out
            rw [List.length_append] at hlen
            obtain ⟨m, hm⟩ : ∃ m, a + s = m := ⟨_, rfl⟩
            have HWM := Lib.hid (show wrap64 ((a : Int) + (s : Int)) = (m : Int) by rw [w64 _ (by omega) (by omega)]; omega)
            by_cases hlt : b ≤ n
            · obtain ⟨A1, A2, xr, S1, S2, r, hx1, hu1, hA1, hA2, hS1, hS2, hst1, hst2, hlr⟩ := HLV.out.two hs0 (by omega)
              have q : (b : Int) ≤ (n : Int) := by omega
              have hsr := HS.out
              rw [hu1] at hsr
              have hcall := sym_calls w0 base g n c bq cf HWO.out HC HN.out (S1.length + S2.length) D S1 S2 r a m b wr (Nat.le_refl _) hdl (by omega) (by omega) (by omega) (by omega) hst1.srt hst2.srt (by simpa only [List.append_assoc] using hsr)
              have HCALL := Lib.hid hcall
              obtain ⟨b2, hb2⟩ : ∃ b2, b + s2 = b2 := ⟨_, rfl⟩
              have HB2 := Lib.hid hb2
              have HWB := Lib.hid (show wrap64 ((b : Int) + wrap64 (2 * (s : Int))) = (b2 : Int) by rw [HW2.out, w64 _ (by omega) (by omega)]; omega)
              have HA12 := Lib.hid (show (A1 ++ A2).length = s2 by rw [List.length_append]; omega)
              have HS12 := Lib.hid (show S1.length + S2.length = s2 by omega)
              have HT1 := Lib.hid hst1
              have HT2 := Lib.hid hst2
              have HLR := Lib.hid hlr
              have HX1 := Lib.hid (show X = (xD ++ (A1 ++ A2)) ++ xr by rw [HX.out, hx1]; simp only [List.append_assoc])
              have HLT := Lib.hid hlt
              have hwm := HWM.out
              clear hcall hsr hlt hba hnn hdl hsb hs0 hs2e hlen han hm hx1 hu1 hA1 hA2 hS1 hS2 hst1 hst2 hlr hb2
              go_wp2_with fail
              refine HCALL.out.mono ?_
              rintro e w2 ⟨rfl, S, hg, hs2⟩
              have HS2' := Lib.hid hs2
              have HF2 := Lib.hid (HF.out.snoc HA12.out (by rw [hg.len]; exact HS12.out) (hg.of HT1.out HT2.out))
              have HD2 := Lib.hid (show (D ++ S).length = b by rw [List.length_append, hg.len, HS12.out, HDL.out, HBA.out])
              clear hs2 hg HCALL
              go_wp2
              go_roundw
              case rel => exact ⟨b, b2, xD ++ (A1 ++ A2), D ++ S, xr, r, rfl, by rw [HWB.out], Lib.hid HB2.out.symm, HLT, HD2, HF2, HLR, HX1, HS2'⟩
              case measure => exact st_m (by have h1 := HBA.out; have h2 := HS2E.out; have h3 := HS0.out; omega) (by have := HAN.out; omega)
            · have q : decide ((b : Int) ≤ (n : Int)) = false := decide_eq_false (by omega)
              have qn : decide (b ≤ n) = false := decide_eq_false hlt
              by_cases hmn : m < n
              · have q2 : (m : Int) < (n : Int) := by omega
                obtain ⟨A1, A2, S1, S2, hx1, hu1, hS1, hA1, hS2, hpos, hst1, hst2⟩ := HLV.out.oneAnd (by omega) (by omega)
                have hsr := HS.out
                rw [hu1] at hsr
                have hul : U.length = S1.length + S2.length := by rw [hu1, List.length_append]
                have hcall := sym_calls w0 base g n c bq cf HWO.out HC HN.out (S1.length + S2.length) D S1 S2 [] a m n wr (Nat.le_refl _) hdl (by omega) (by omega) (by omega) (by omega) hst1.srt hst2.srt (by simpa only [List.append_assoc, List.append_nil] using hsr)
                have HCALL := Lib.hid hcall
                have HLV2 := Lib.hid (show ∀ S, Mg (ltC cf) S1 S2 S → Lv (ltC cf) s2 X (D ++ S) from fun S hg => by
                  rw [HX.out, hx1]
                  exact HF.out.app (.last _ _ (by rw [List.length_append]; omega) (by rw [hg.len, List.length_append]; omega) (hg.of hst1 hst2)))
                have HSB2 := Lib.hid (show s2 ≤ 2000000 by have := HSN.out; omega)
                have HS02 := Lib.hid (show 0 < s2 by omega)
                have HSS := Lib.hid (show s < s2 by omega)
                have hwm := HWM.out
                clear hcall hsr hlt hba hnn hdl hsb hs0 hs2e hlen han hm hx1 hu1 hA1 hS1 hS2 hst1 hst2 hpos hmn hul
                go_wp2_with fail
                refine HCALL.out.mono ?_
                rintro e w2 ⟨rfl, S, hg, hs2⟩
                have HS2' := Lib.hid (show Sr w0 w2 base g n c (D ++ S) by simpa only [List.append_nil] using hs2)
                have HLV3 := Lib.hid (HLV2.out S hg)
                clear hs2 hg HCALL
                go_wp2
                go_roundw
                case rel => exact ⟨s2, D ++ S, by rw [HW3.out], HS02, HSB2, HLV3, HS2'⟩
                case measure => rw [HW3.out]; exact st_m HSS.out (by have := HSB.out; omega)
              · have q2 : decide ((m : Int) < (n : Int)) = false := decide_eq_false (by omega)
                have q2n : decide (m < n) = false := decide_eq_false hmn
                have HLV3 := Lib.hid (show Lv (ltC cf) s2 X (D ++ U) by
                  rw [HX.out]
                  have h1 := HLV.out.one (by omega)
                  exact HF.out.app (.last _ _ (by rw [← HLV.out.len]; omega) HLV.out.len h1))
                have HSB2 := Lib.hid (show s2 ≤ 2000000 by have := HSN.out; omega)
                have HS02 := Lib.hid (show 0 < s2 by omega)
                have HSS := Lib.hid (show s < s2 by omega)
                have hwm := HWM.out
                clear hlt hba hnn hdl hsb hs0 hs2e hlen han hm hmn
                go_wp2
                go_roundw
                case rel => exact ⟨s2, D ++ U, by rw [HW3.out], HS02, HSB2, HLV3, HS⟩
                case measure => rw [HW3.out]; exact st_m HSS.out (by have := HSB.out; omega)
        · have q : decide ((s : Int) < (n : Int)) = false := decide_eq_false (by omega)
          have qn : decide (s < n) = false := decide_eq_false hlt
          have HST := Lib.hid (HLV.out.one (by have := HYL.out; omega))
          have HLX := Lib.hid HLV.out.len
          clear hlt
          go_wp2
          go_end0
          exact ⟨rfl, Y, HLX.out, HST.out, HS.out⟩
end Go.Proofs.Ytffggkhahambhaa.Tr

namespace Go.Proofs.Ytffggkhahambhaa.Tr
open Go.RowKit Go.Proofs.YtffggkhahambhaaW.PrintWords Go.Proofs.YtffggkhahambhaaW.PrintLast Go.Proofs.YtffggkhahambhaaW.PrintMore Go.Proofs.Ytffggkhahambhaa.Math Go.Proofs.Ytffggkhahambhaa.PAll Go.Proofs.Ytffggkhahambhaa.Stab
set_option linter.unusedVariables false
set_option linter.unusedSimpArgs false
set_option maxHeartbeats 4000000 in
set_option maxRecDepth 100000 in
theorem insertion_nil (v f : Value) (w : World) : Calls Try.prog 66 #[v, .int .i64 0, .int .i64 0, f] w fun e w' => e = .returned (.tuple #[]) ∧ w = w' := by
  have HW1 := Lib.hid (show wrap64 (0 + 1) = 1 by unfold wrap64; omega)
  go_enter Try.func66, Try.ntmps66
  go_wp2
  go_loopw [8, 9] (fun s _ wr => s = .int .i64 1 ∧ w = wr) (fun _ _ _ => 0)
  case atStart => exact ⟨by first | rfl | rw [HW1.out], rfl⟩
  case round =>
    obtain ⟨rfl, rfl⟩ := hrel
    go_wp2
    go_end0
    exact ⟨rfl, rfl⟩
set_option maxHeartbeats 4000000 in
set_option maxRecDepth 100000 in
theorem stable_nil (v f : Value) (w : World) : Calls Try.prog 48 #[v, .int .i64 0, f] w fun e w' => e = .returned (.tuple #[]) ∧ w = w' := by
  have hi := Lib.hid (insertion_nil v f w)
  go_enter Try.func48, Try.ntmps48
  go_wp2
  go_loopw [7, 8] (fun s u wr => s = .int .i64 0 ∧ u = .int .i64 20 ∧ w = wr) (fun _ _ _ => 0)
  case atStart => exact ⟨rfl, rfl, rfl⟩
  case round =>
    obtain ⟨rfl, rfl, rfl⟩ := hrel
    go_wp2_with fail
    refine hi.out.mono ?_
    rintro e w2 ⟨rfl, rfl⟩
    go_wp2
    go_loopw [6, 7, 8, 9] (fun s _ _ _ wr => s = .int .i64 20 ∧ w = wr) (fun _ _ _ _ _ => 0)
    case atStart => exact ⟨rfl, rfl⟩
    case round =>
      obtain ⟨rfl, rfl⟩ := hrel
      go_wp2
      go_end0
      exact ⟨rfl, rfl⟩
set_option maxHeartbeats 4000000 in
set_option maxRecDepth 100000 in
theorem sortStable_pos {base bq g n c : Nat} {xs : List Sp} {w : World} {cf : Sp → Sp → Int} (HS : Hid (Calls Try.prog 48 #[.slice (some ⟨g, 0, none⟩) n c, .int .i64 n, .func (.func 27) #[] #[.pointer (some ⟨bq, 0, none⟩)]] w fun e w' => e = .returned (.tuple #[]) ∧ ∃ S, S.length = xs.length ∧ Stb (ltC cf) xs S ∧ Sr w w' base g n c S)) :
    Calls Try.prog 26 #[.slice (some ⟨g, 0, none⟩) n c, .func (.func 27) #[] #[.pointer (some ⟨bq, 0, none⟩)]] w fun e w' => e = .returned (.tuple #[]) ∧ ∃ S, S.length = xs.length ∧ Stb (ltC cf) xs S ∧ Sr w w' base g n c S := by
  go_enter Try.func26, Try.ntmps26
  go_wp2_with fail
  refine HS.out.mono ?_
  rintro e w2 ⟨rfl, hs⟩
  have HS2 := Lib.hid hs
  clear hs HS
  go_wp2
  go_end0
  exact ⟨rfl, HS2.out⟩
set_option maxHeartbeats 4000000 in
set_option maxRecDepth 100000 in
theorem sortStable_calls {base bq n c : Nat} {A : Option Addr} {xs : List Sp} {w : World} {cf : Sp → Sp → Int} (hw : Swo (ltC cf)) (h : Kd.R kS 34 w base (fun _ => True) (.slice A n c) xs) (hn : xs.length ≤ 1000000) (HC : ∀ g, A = some ⟨g, 0, none⟩ → Cmp w g bq cf) :
    Calls Try.prog 26 #[.slice A n c, .func (.func 27) #[] #[.pointer (some ⟨bq, 0, none⟩)]] w fun e w' => e = .returned (.tuple #[]) ∧ ∃ ys : List Sp, ys.length = xs.length ∧ Stb (ltC cf) xs ys ∧ Kd.R kS 34 w' base (fun _ => True) (.slice A n c) ys ∧ w.grownBy w' (Value.slice A n c).ownBlock := by
  have hnl := (Kd.R_reads' h).1
  rcases Nat.eq_zero_or_pos xs.length with hz0 | h0
  · have hnil : xs = [] := List.length_eq_zero_iff.1 hz0
    subst hnil
    have hn0 : n = 0 := hnl
    subst hn0
    have HS := Lib.hid (stable_nil (.slice A 0 c) (.func (.func 27) #[] #[.pointer (some ⟨bq, 0, none⟩)]) w)
    have HR := Lib.hid h
    clear h hw hn HC hz0 hnl
    go_enter Try.func26, Try.ntmps26
    go_wp2_with fail
    refine HS.out.mono ?_
    rintro e w2 ⟨rfl, rfl⟩
    go_wp2
    go_end0
    exact ⟨rfl, [], rfl, Stb.nil _, HR.out, grownBy_refl _ _⟩
  · obtain ⟨ad, c', he⟩ := Kd.R_slice1 h h0
    injection he with he1 he2 he3
    subst he1
    obtain ⟨g, cur, rfl, _⟩ := row_open h h0
    refine (sortStable_pos (Lib.hid (stable_calls w base g n c bq cf hw (Lib.hid (HC g rfl)) (by omega) xs w (Sr.start h)))).mono ?_
    rintro e w2 ⟨rfl, S, hsl, hst, hs2⟩
    exact ⟨rfl, S, hsl, hst, hs2.row, hs2.gr⟩
end Go.Proofs.Ytffggkhahambhaa.Tr

namespace Go.Proofs.Ytffggkhahambhaa.Tr
open Go.RowKit Go.Proofs.YtffggkhahambhaaW.PrintWords Go.Proofs.YtffggkhahambhaaW.PrintLast Go.Proofs.YtffggkhahambhaaW.PrintMore Go.Proofs.Ytffggkhahambhaa.Math Go.Proofs.Ytffggkhahambhaa.PAll Go.Proofs.Ytffggkhahambhaa.Stab Go.Proofs.Ytffggkhahambhaa.NumFacts
set_option linter.unusedVariables false
set_option linter.unusedSimpArgs false

theorem cells_u8 {w : World} {A : Option Addr} {n : Nat} {xs : List Int} (h : Kd.C (Kd.int .u8) w A n xs) (hp : 0 < n) : ∃ ad, A = some ad ∧ ∀ (j : Nat) x, xs[j]? = some x → w.cell? (ad.add j) = some (.int .u8 x) := by
  obtain ⟨ad, rfl, hc⟩ := h.2.2 hp
  refine ⟨ad, rfl, fun j x hj => ?_⟩
  obtain ⟨c, hcl, hK, hce⟩ := hc j x hj
  have hK : c = [.int .u8 x] := hK
  subst hK
  have h2 : w.cell? (ad.add (j * 1 + 0)) = some (.int .u8 x) := hce 0 _ rfl
  rwa [Nat.mul_one, Nat.add_zero] at h2
theorem run_bytes {P : Program} {w : World} {A : Option Addr} {n : Nat} {xs : List Int} (c : Nat) (h : Kd.C (Kd.int .u8) w A n xs) (hn : xs.length = n) :
    (Extern.Bytes.bytesOf (.slice A n c)).run P w = .ok ⟨(Lib.bytesOf xs).toArray⟩ w := by
  subst hn
  rcases Nat.eq_zero_or_pos xs.length with h0 | h0
  · have hx : xs = [] := List.length_eq_zero_iff.1 h0
    subst hx
    cases A <;> rfl
  · obtain ⟨ad, rfl, hc⟩ := cells_u8 h h0
    have := Lib.run_loadBytesX (P := P) w xs ad .empty hc
    have he : (⟨ByteArray.empty.data ++ (Lib.bytesOf xs).toArray⟩ : ByteArray) = ⟨(Lib.bytesOf xs).toArray⟩ := by
      apply ByteArray.ext
      show (#[] : Array UInt8) ++ (Lib.bytesOf xs).toArray = (Lib.bytesOf xs).toArray
      simp
    rw [he] at this
    exact this
/-- How two rows of bytes stand. -/
def cmpB (xs ys : List Int) : Int := Lib.compareBytes (Lib.bytesOf xs) (Lib.bytesOf ys)
theorem run_cmp {P : Program} {w : World} {A B : Option Addr} {n m c d : Nat} {xs ys : List Int} (h1 : Kd.C (Kd.int .u8) w A n xs) (e1 : xs.length = n) (h2 : Kd.C (Kd.int .u8) w B m ys) (e2 : ys.length = m) :
    (Extern.BytealgCompare.compare #[.slice A n c, .slice B m d]).run P w = .ok (.int .i64 (cmpB xs ys)) w := by
  change Sem.run P (do pure (goInt (Extern.BytealgCompare.cmp (← Extern.Bytes.bytesOf (.slice A n c)) (← Extern.Bytes.bytesOf (.slice B m d))))) w = _
  simp only [Sem.run_bind, Sem.run_pure, run_bytes c h1 e1, run_bytes d h2 e2, Result.andThen]
  rw [Lib.cmp_eq]
  rfl
set_option maxHeartbeats 2000000 in
theorem bcmp_calls {w : World} {A B : Option Addr} {n m c d : Nat} {xs ys : List Int} (h1 : Kd.C (Kd.int .u8) w A n xs) (e1 : xs.length = n) (h2 : Kd.C (Kd.int .u8) w B m ys) (e2 : ys.length = m) :
    Calls Try.prog 28 #[.slice A n c, .slice B m d] w fun e w' => e = .returned (.int .i64 (cmpB xs ys)) ∧ w = w' := by
  have hr := run_cmp (P := Try.prog) (c := c) (d := d) h1 e1 h2 e2
  have HR := Lib.hid hr
  clear hr h1 h2 e1 e2
  go_enter Try.func28, Try.ntmps28
  go_wp2_with fail
  rw [run_callFunc_extern Try.func49 (by kernel_rfl) (by kernel_rfl) (by kernel_rfl) (e := Extern.BytealgCompare.compare) (by kernel_rfl), HR.out]
  simp only [Result.andThen]
  rw [Oper.upon_value]
  go_wp2
  go_ret
  exact ⟨rfl, rfl⟩

/-- The order's key of a span. -/
def keyI (o : Int) (x : Sp) : List Int := if o = 0 then key8 x.tr ++ key8 x.id else if o = 1 then key8 (IntKind.u64.wrap x.st) ++ (key8 x.tr ++ key8 x.id) else if o = 2 then key8 (IntKind.u64.wrap x.du) ++ (key8 x.tr ++ key8 x.id) else []
theorem keyI_eq (o : Int) (x : Sp) : filter_Key.f 9 o x.tr x.id x.par x.svc x.op x.st x.du x.stt [] [] [] = some (keyI o x) := by
  unfold filter_Key.f key_Primary.f keyI
  have hk : ∀ v, num_Key.f 9 v = some (key8 v) := fun v => key_eq 9 v (by omega)
  simp only [hk, Option.bind_some, List.length_append, key8_len, show 8 + 8 < 140737488355328 by decide, show 8 + (8 + 8) < 140737488355328 by decide, if_true]
  by_cases h0 : o = 0
  · rw [if_pos h0, if_pos h0]
  · rw [if_neg h0, if_neg h0]
    by_cases h1 : o = 1
    · rw [if_pos h1, if_pos h1]
    · rw [if_neg h1, if_neg h1]
      by_cases h2 : o = 2
      · rw [if_pos h2, if_pos h2]
      · rw [if_neg h2, if_neg h2]
theorem keyI_isB (o : Int) (x : Sp) : IsB (keyI o x) := by
  have happ : ∀ a b : List Int, IsB a → IsB b → IsB (a ++ b) := by
    intro a b ha hb y hy
    rcases List.mem_append.1 hy with h | h
    · exact ha y h
    · exact hb y h
  unfold keyI
  have h8 := fun v => key8_isB v
  split
  · exact happ _ _ (h8 _) (h8 _)
  · split
    · exact happ _ _ (h8 _) (happ _ _ (h8 _) (h8 _))
    · split
      · exact happ _ _ (h8 _) (happ _ _ (h8 _) (h8 _))
      · intro y hy; cases hy
/-- Rows of bytes stand as their signs. -/
theorem cmpB_lt : ∀ {a b : List Int}, IsB a → IsB b → decide (cmpB a b < 0) = lexLt a b
  | [], [], _, _ => rfl
  | [], y :: b, _, _ => rfl
  | x :: a, [], _, _ => rfl
  | x :: a, y :: b, ha, hb => by
    have hx := ha x (by simp)
    have hy := hb y (by simp)
    have ih := cmpB_lt (a := a) (b := b) (fun z hz => ha z (by simp [hz])) (fun z hz => hb z (by simp [hz]))
    have hlt : (x.toNat.toUInt8 < y.toNat.toUInt8) ↔ x < y := by
      rw [UInt8.lt_iff_toNat_lt]
      simp only [Nat.toUInt8_eq, UInt8.toNat_ofNat']
      rw [Nat.mod_eq_of_lt (by omega), Nat.mod_eq_of_lt (by omega)]
      omega
    have hgt : (y.toNat.toUInt8 < x.toNat.toUInt8) ↔ y < x := by
      rw [UInt8.lt_iff_toNat_lt]
      simp only [Nat.toUInt8_eq, UInt8.toNat_ofNat']
      rw [Nat.mod_eq_of_lt (by omega), Nat.mod_eq_of_lt (by omega)]
      omega
    have e : cmpB (x :: a) (y :: b) = if x < y then -1 else if y < x then 1 else cmpB a b := by
      show (if x.toNat.toUInt8 < y.toNat.toUInt8 then (-1 : Int) else if y.toNat.toUInt8 < x.toNat.toUInt8 then 1 else Lib.compareBytes (Lib.bytesOf a) (Lib.bytesOf b)) = _
      simp only [hlt, hgt]
      rfl
    rw [e]
    show _ = lexLt (x :: a) (y :: b)
    unfold lexLt
    by_cases h1 : x < y
    · rw [if_pos h1, if_neg (show ¬ x = y by omega)]; simp [h1]
    · by_cases h2 : y < x
      · rw [if_neg h1, if_pos h2, if_neg (show ¬ x = y by omega)]; simp; omega
      · rw [if_neg h1, if_neg h2, if_pos (show x = y by omega)]; exact ih
theorem swo_key (f : Sp → List Int) (hf : ∀ x, IsB (f x)) : Swo (ltC fun x y => cmpB (f x) (f y)) := by
  have e : ∀ x y, ltC (fun x y => cmpB (f x) (f y)) x y = lexLt (f x) (f y) := fun x y => cmpB_lt (hf x) (hf y)
  refine ⟨fun x => ?_, fun x y h => ?_, fun x y z h1 h2 => ?_⟩
  · rw [e]; exact lexLt_irrefl _
  · rw [e] at h ⊢; exact lexLt_asymm _ _ h
  · rw [e] at h1 h2 ⊢
    cases h3 : lexLt (f x) (f z) with
    | false => rfl
    | true =>
      rcases lexLt_tri (f y) (f z) with h | h | h
      · rw [h] at h2; cases h2
      · rw [h, h3] at h1; cases h1
      · rw [lexLt_trans _ _ _ h3 h] at h1; cases h1
end Go.Proofs.Ytffggkhahambhaa.Tr

namespace Go.Proofs.Ytffggkhahambhaa.Tr
open Go.RowKit Go.Proofs.YtffggkhahambhaaW.PrintWords Go.Proofs.YtffggkhahambhaaW.PrintLast Go.Proofs.YtffggkhahambhaaW.PrintMore Go.Proofs.Ytffggkhahambhaa.Math Go.Proofs.Ytffggkhahambhaa.PAll Go.Proofs.Ytffggkhahambhaa.Stab Go.Proofs.Ytffggkhahambhaa.NumFacts
set_option linter.unusedVariables false
set_option linter.unusedSimpArgs false
set_option maxHeartbeats 8000000 in
set_option maxRecDepth 1000000 in
theorem all2_calls (x y : Sp) {bq : Nat} {o : Int} (w : World) (hq : w.cell? ⟨bq, 1, none⟩ = some (.int .i64 o)) : Calls Try.prog 27 #[.agg (encS x).toArray, .agg (encS y).toArray, .pointer (some ⟨bq, 0, none⟩)] w fun e w' => e = .returned (.int .i64 (cmpB (keyI o x) (keyI o y))) ∧ Below w.heap.size w w' := by
  have hgr := below_alloc (below_alloc (Below.refl w.heap.size w) (.cells (encS x).toArray 34)) (.cells (encS y).toArray 34)
  have k1 : ((w.alloc (.cells (encS x).toArray 34)).alloc (.cells (encS y).toArray 34)).heap[w.heap.size]? = some (.cells (encS x).toArray 34 (0, 0)) := block_below (heap_alloc_new w _) (below_alloc (Below.refl _ _) _)
  have k2 : ((w.alloc (.cells (encS x).toArray 34)).alloc (.cells (encS y).toArray 34)).heap[(w.alloc (.cells (encS x).toArray 34)).heap.size]? = some (.cells (encS y).toArray 34 (0, 0)) := heap_alloc_new _ _
  rw [show (w.alloc (.cells (encS x).toArray 34)).heap.size = w.heap.size + 1 by simp] at k2
  have HG := Lib.hid hgr
  have K1 := Lib.hid k1
  have K2 := Lib.hid k2
  have HQ := Lib.hid hq
  clear hgr k1 k2 hq
  obtain ⟨r, hr⟩ : ∃ r, cmpB (keyI o x) (keyI o y) = r := ⟨_, rfl⟩
  rw [hr]
  have HR := Lib.hid hr
  clear hr
  rw [arr_S, arr_S] at HG K1 K2 ⊢
  go_enter Try.func27, Try.ntmps27
  go_wp2
  have k1 := blk_drew K1.out
  have k2 := blk_drew K2.out
  have hg := below_drew1 HG.out
  have hq : ((w.alloc (.cells #[.int .u64 x.tr, .int .u64 x.id, .int .u64 x.par, .string x.svc, .string x.op, .int .i64 x.st, .int .i64 x.du, .int .i64 x.stt, .slice x.a.1 x.a.2.1 x.a.2.2, .slice x.e.1 x.e.2.1 x.e.2.2, .slice x.l.1 x.l.2.1 x.l.2.2] 34)).alloc (.cells #[.int .u64 y.tr, .int .u64 y.id, .int .u64 y.par, .string y.svc, .string y.op, .int .i64 y.st, .int .i64 y.du, .int .i64 y.stt, .slice y.a.1 y.a.2.1 y.a.2.2, .slice y.e.1 y.e.2.1 y.e.2.2, .slice y.l.1 y.l.2.1 y.l.2.2] 34)).drew.cell? ⟨bq, 1, none⟩ = some (.int .i64 o) := pw_cell_below hg HQ.out
  refine start_ (n := 10) (S := fun w' => w'.cell? ⟨w.heap.size, 0, none⟩ = some (.int .u64 x.tr) ∧ w'.cell? ⟨w.heap.size, 1, none⟩ = some (.int .u64 x.id) ∧ w'.cell? ⟨w.heap.size, 2, none⟩ = some (.int .u64 x.par) ∧ w'.cell? ⟨w.heap.size, 3, none⟩ = some (.string x.svc) ∧ w'.cell? ⟨w.heap.size, 4, none⟩ = some (.string x.op) ∧ w'.cell? ⟨w.heap.size, 5, none⟩ = some (.int .i64 x.st) ∧ w'.cell? ⟨w.heap.size, 6, none⟩ = some (.int .i64 x.du) ∧ w'.cell? ⟨w.heap.size, 7, none⟩ = some (.int .i64 x.stt) ∧ w'.cell? ⟨w.heap.size, 8, none⟩ = some (.slice x.a.1 x.a.2.1 x.a.2.2) ∧ w'.cell? ⟨w.heap.size, 9, none⟩ = some (.slice x.e.1 x.e.2.1 x.e.2.2) ∧ w'.cell? ⟨w.heap.size, 10, none⟩ = some (.slice x.l.1 x.l.2.1 x.l.2.2) ∧ w'.cell? ⟨w.heap.size + 1, 0, none⟩ = some (.int .u64 y.tr) ∧ w'.cell? ⟨w.heap.size + 1, 1, none⟩ = some (.int .u64 y.id) ∧ w'.cell? ⟨w.heap.size + 1, 2, none⟩ = some (.int .u64 y.par) ∧ w'.cell? ⟨w.heap.size + 1, 3, none⟩ = some (.string y.svc) ∧ w'.cell? ⟨w.heap.size + 1, 4, none⟩ = some (.string y.op) ∧ w'.cell? ⟨w.heap.size + 1, 5, none⟩ = some (.int .i64 y.st) ∧ w'.cell? ⟨w.heap.size + 1, 6, none⟩ = some (.int .i64 y.du) ∧ w'.cell? ⟨w.heap.size + 1, 7, none⟩ = some (.int .i64 y.stt) ∧ w'.cell? ⟨w.heap.size + 1, 8, none⟩ = some (.slice y.a.1 y.a.2.1 y.a.2.2) ∧ w'.cell? ⟨w.heap.size + 1, 9, none⟩ = some (.slice y.e.1 y.e.2.1 y.e.2.2) ∧ w'.cell? ⟨w.heap.size + 1, 10, none⟩ = some (.slice y.l.1 y.l.2.1 y.l.2.2) ∧ w'.cell? ⟨bq, 1, none⟩ = some (.int .i64 o)) (ds := []) #[false, false, false, false, false, false, false, false, false, false] (by kernel_rfl) rfl rfl ⟨(blk_cell k1 0).trans rfl, (blk_cell k1 1).trans rfl, (blk_cell k1 2).trans rfl, (blk_cell k1 3).trans rfl, (blk_cell k1 4).trans rfl, (blk_cell k1 5).trans rfl, (blk_cell k1 6).trans rfl, (blk_cell k1 7).trans rfl, (blk_cell k1 8).trans rfl, (blk_cell k1 9).trans rfl, (blk_cell k1 10).trans rfl, (blk_cell k2 0).trans rfl, (blk_cell k2 1).trans rfl, (blk_cell k2 2).trans rfl, (blk_cell k2 3).trans rfl, (blk_cell k2 4).trans rfl, (blk_cell k2 5).trans rfl, (blk_cell k2 6).trans rfl, (blk_cell k2 7).trans rfl, (blk_cell k2 8).trans rfl, (blk_cell k2 9).trans rfl, (blk_cell k2 10).trans rfl, hq⟩ (fun hHeld => ?_)
  generalize ((w.alloc (.cells #[.int .u64 x.tr, .int .u64 x.id, .int .u64 x.par, .string x.svc, .string x.op, .int .i64 x.st, .int .i64 x.du, .int .i64 x.stt, .slice x.a.1 x.a.2.1 x.a.2.2, .slice x.e.1 x.e.2.1 x.e.2.2, .slice x.l.1 x.l.2.1 x.l.2.2] 34)).alloc (.cells #[.int .u64 y.tr, .int .u64 y.id, .int .u64 y.par, .string y.svc, .string y.op, .int .i64 y.st, .int .i64 y.du, .int .i64 y.stt, .slice y.a.1 y.a.2.1 y.a.2.2, .slice y.e.1 y.e.2.1 y.e.2.2, .slice y.l.1 y.l.2.1 y.l.2.2] 34)).drew = w5 at k1 k2 hg hq hHeld ⊢
  have K15 := Lib.hid k1
  have K25 := Lib.hid k2
  have HG5 := Lib.hid hg
  have HQ5 := Lib.hid hq
  clear k1 k2 hg hq
  refine pure_ (i := 0) (N := some 6) (v := ?_) (a' := ?_) #[true, false, false, false, false, false, false, false, false, false] rfl rfl (by kernel_rfl) (fun _ _ _ h => h) (Or.inl ⟨by rfl, ?_⟩) ?_ ?_
  rotate_left
  · intro w'
    go_simp
    with_reducible rfl
  rotate_left
  · simp only [Act.put, List.setIfInBounds_toArray, List.set_cons_zero, List.set_cons_succ, i64_w, i32_w]
    rfl
  refine pure_ (i := 4) (N := some 10) (v := ?_) (a' := ?_) #[true, false, false, false, true, false, false, false, false, false] rfl rfl (by kernel_rfl) (fun _ _ _ h => h) (Or.inl ⟨by rfl, ?_⟩) ?_ ?_
  rotate_left
  · intro w'
    go_simp
    with_reducible rfl
  rotate_left
  · simp only [Act.put, List.setIfInBounds_toArray, List.set_cons_zero, List.set_cons_succ, i64_w, i32_w]
    rfl
  refine take_ (i := 1) (N := some 7) (v := ?_) (a' := ?_) #[true, true, false, false, true, false, false, false, false, false] rfl rfl (by kernel_rfl) (fun _ _ _ h => h) (Or.inl ⟨by rfl, ?_⟩) hHeld ?_ ?_
  rotate_left
  · rintro w' ⟨s0, s1, s2, s3, s4, s5, s6, s7, s8, s9, s10, s11, s12, s13, s14, s15, s16, s17, s18, s19, s20, s21, s22⟩
    go_simp
    with_reducible rfl
  rotate_left
  · simp only [Act.put, List.setIfInBounds_toArray, List.set_cons_zero, List.set_cons_succ, i64_w, i32_w]
    rfl
  refine take_ (i := 2) (N := some 8) (v := ?_) (a' := ?_) #[true, true, true, false, true, false, false, false, false, false] rfl rfl (by kernel_rfl) (fun _ _ _ h => h) (Or.inl ⟨by rfl, ?_⟩) hHeld ?_ ?_
  rotate_left
  · rintro w' ⟨s0, s1, s2, s3, s4, s5, s6, s7, s8, s9, s10, s11, s12, s13, s14, s15, s16, s17, s18, s19, s20, s21, s22⟩
    go_simp
    with_reducible rfl
  rotate_left
  · simp only [Act.put, List.setIfInBounds_toArray, List.set_cons_zero, List.set_cons_succ, i64_w, i32_w]
    rfl
  refine take_ (i := 5) (N := some 11) (v := ?_) (a' := ?_) #[true, true, true, false, true, true, false, false, false, false] rfl rfl (by kernel_rfl) (fun _ _ _ h => h) (Or.inl ⟨by rfl, ?_⟩) hHeld ?_ ?_
  rotate_left
  · rintro w' ⟨s0, s1, s2, s3, s4, s5, s6, s7, s8, s9, s10, s11, s12, s13, s14, s15, s16, s17, s18, s19, s20, s21, s22⟩
    go_simp
    with_reducible rfl
  rotate_left
  · simp only [Act.put, List.setIfInBounds_toArray, List.set_cons_zero, List.set_cons_succ, i64_w, i32_w]
    rfl
  refine take_ (i := 6) (N := some 12) (v := ?_) (a' := ?_) #[true, true, true, false, true, true, true, false, false, false] rfl rfl (by kernel_rfl) (fun _ _ _ h => h) (Or.inl ⟨by rfl, ?_⟩) hHeld ?_ ?_
  rotate_left
  · rintro w' ⟨s0, s1, s2, s3, s4, s5, s6, s7, s8, s9, s10, s11, s12, s13, s14, s15, s16, s17, s18, s19, s20, s21, s22⟩
    go_simp
    with_reducible rfl
  rotate_left
  · simp only [Act.put, List.setIfInBounds_toArray, List.set_cons_zero, List.set_cons_succ, i64_w, i32_w]
    rfl
  refine one_ (i := 3) (N := some 9) #[true, true, true, true, true, true, true, false, false, false] rfl rfl (by kernel_rfl) (by decide) (fun K hK => ?_)
  refine goes_ Try.func17 (by kernel_rfl) rfl #[.int .i64 o, .agg #[.int .u64 x.tr, .int .u64 x.id, .int .u64 x.par, .string x.svc, .string x.op, .int .i64 x.st, .int .i64 x.du, .int .i64 x.stt, .slice x.a.1 x.a.2.1 x.a.2.2, .slice x.e.1 x.e.2.1 x.e.2.2, .slice x.l.1 x.l.2.1 x.l.2.2]] (by rfl) rfl rfl (by simp only [List.map_toArray, List.map_cons, List.map_nil]; rfl) ?_
  with_reducible refine (filter_Key.callsR 9 o x.tr x.id x.par x.svc x.op x.st x.du x.stt x.a.1 x.a.2.2 x.a.2.1 x.e.1 x.e.2.2 x.e.2.1 x.l.1 x.l.2.2 x.l.2.1 (keyI o x) w5 (keyI_eq o x)).mono ?_
  rintro e w6 ⟨v3, rfl, h3, hb6⟩
  refine ⟨_, rfl, ?_⟩
  have K16 := Lib.hid (block_below K15.out hb6)
  have K26 := Lib.hid (block_below K25.out hb6)
  have HG6 := Lib.hid (below_step HG5.out hb6)
  have HQ6 := Lib.hid (pw_cell_below hb6 HQ5.out)
  have H36 := Lib.hid h3
  clear h3 hb6
  refine hK.out _ _ ⟨(blk_cell K16.out 0).trans rfl, (blk_cell K16.out 1).trans rfl, (blk_cell K16.out 2).trans rfl, (blk_cell K16.out 3).trans rfl, (blk_cell K16.out 4).trans rfl, (blk_cell K16.out 5).trans rfl, (blk_cell K16.out 6).trans rfl, (blk_cell K16.out 7).trans rfl, (blk_cell K16.out 8).trans rfl, (blk_cell K16.out 9).trans rfl, (blk_cell K16.out 10).trans rfl, (blk_cell K26.out 0).trans rfl, (blk_cell K26.out 1).trans rfl, (blk_cell K26.out 2).trans rfl, (blk_cell K26.out 3).trans rfl, (blk_cell K26.out 4).trans rfl, (blk_cell K26.out 5).trans rfl, (blk_cell K26.out 6).trans rfl, (blk_cell K26.out 7).trans rfl, (blk_cell K26.out 8).trans rfl, (blk_cell K26.out 9).trans rfl, (blk_cell K26.out 10).trans rfl, HQ6.out⟩ (fun hHeld => ?_)
  clear hK K
  refine norm_ (a' := ?_) ?_ ?_
  rotate_left
  · show Act.put _ (some 9) _ = _
    simp only [Act.put, List.setIfInBounds_toArray, List.set_cons_zero, List.set_cons_succ, i64_w, i32_w]
    rfl
  refine one_ (i := 7) (N := some 13) #[true, true, true, true, true, true, true, true, false, false] rfl rfl (by kernel_rfl) (by decide) (fun K hK => ?_)
  refine goes_ Try.func17 (by kernel_rfl) rfl #[.int .i64 o, .agg #[.int .u64 y.tr, .int .u64 y.id, .int .u64 y.par, .string y.svc, .string y.op, .int .i64 y.st, .int .i64 y.du, .int .i64 y.stt, .slice y.a.1 y.a.2.1 y.a.2.2, .slice y.e.1 y.e.2.1 y.e.2.2, .slice y.l.1 y.l.2.1 y.l.2.2]] (by rfl) rfl rfl (by simp only [List.map_toArray, List.map_cons, List.map_nil]; rfl) ?_
  with_reducible refine (filter_Key.callsR 9 o y.tr y.id y.par y.svc y.op y.st y.du y.stt y.a.1 y.a.2.2 y.a.2.1 y.e.1 y.e.2.2 y.e.2.1 y.l.1 y.l.2.2 y.l.2.1 (keyI o y) w6 (keyI_eq o y)).mono ?_
  rintro e w7 ⟨v7, rfl, h7, hb7⟩
  refine ⟨_, rfl, ?_⟩
  have K17 := Lib.hid (block_below K16.out hb7)
  have K27 := Lib.hid (block_below K26.out hb7)
  have HG7 := Lib.hid (below_step HG6.out hb7)
  have HQ7 := Lib.hid (pw_cell_below hb7 HQ6.out)
  have H37 := Lib.hid (Kd.R_below H36.out hb7)
  have H77 := Lib.hid h7
  clear h7 hb7
  refine hK.out _ _ ⟨(blk_cell K17.out 0).trans rfl, (blk_cell K17.out 1).trans rfl, (blk_cell K17.out 2).trans rfl, (blk_cell K17.out 3).trans rfl, (blk_cell K17.out 4).trans rfl, (blk_cell K17.out 5).trans rfl, (blk_cell K17.out 6).trans rfl, (blk_cell K17.out 7).trans rfl, (blk_cell K17.out 8).trans rfl, (blk_cell K17.out 9).trans rfl, (blk_cell K17.out 10).trans rfl, (blk_cell K27.out 0).trans rfl, (blk_cell K27.out 1).trans rfl, (blk_cell K27.out 2).trans rfl, (blk_cell K27.out 3).trans rfl, (blk_cell K27.out 4).trans rfl, (blk_cell K27.out 5).trans rfl, (blk_cell K27.out 6).trans rfl, (blk_cell K27.out 7).trans rfl, (blk_cell K27.out 8).trans rfl, (blk_cell K27.out 9).trans rfl, (blk_cell K27.out 10).trans rfl, HQ7.out⟩ (fun hHeld => ?_)
  clear hK K
  refine norm_ (a' := ?_) ?_ ?_
  rotate_left
  · show Act.put _ (some 13) _ = _
    simp only [Act.put, List.setIfInBounds_toArray, List.set_cons_zero, List.set_cons_succ, i64_w, i32_w]
    rfl
  refine one_ (i := 8) (N := some 14) #[true, true, true, true, true, true, true, true, true, false] rfl rfl (by kernel_rfl) (by decide) (fun K hK => ?_)
  obtain ⟨A8, c8, rfl⟩ := Kd.R_slice H37.out
  obtain ⟨A9, c9, rfl⟩ := Kd.R_slice H77.out
  have hcm := bcmp_calls (c := c8) (d := c9) (Kd.R_reads' H37.out).2.2 rfl (Kd.R_reads' H77.out).2.2 rfl
  rw [HR.out] at hcm
  refine goes_ Try.func28 (by kernel_rfl) rfl #[.slice A8 (keyI o x).length c8, .slice A9 (keyI o y).length c9] (by rfl) rfl rfl (by simp only [List.map_toArray, List.map_cons, List.map_nil]; rfl) ?_
  with_reducible refine (hcm).mono ?_
  rintro e w8 ⟨rfl, rfl⟩
  refine ⟨_, rfl, ?_⟩
  refine hK.out _ _ ⟨(blk_cell K17.out 0).trans rfl, (blk_cell K17.out 1).trans rfl, (blk_cell K17.out 2).trans rfl, (blk_cell K17.out 3).trans rfl, (blk_cell K17.out 4).trans rfl, (blk_cell K17.out 5).trans rfl, (blk_cell K17.out 6).trans rfl, (blk_cell K17.out 7).trans rfl, (blk_cell K17.out 8).trans rfl, (blk_cell K17.out 9).trans rfl, (blk_cell K17.out 10).trans rfl, (blk_cell K27.out 0).trans rfl, (blk_cell K27.out 1).trans rfl, (blk_cell K27.out 2).trans rfl, (blk_cell K27.out 3).trans rfl, (blk_cell K27.out 4).trans rfl, (blk_cell K27.out 5).trans rfl, (blk_cell K27.out 6).trans rfl, (blk_cell K27.out 7).trans rfl, (blk_cell K27.out 8).trans rfl, (blk_cell K27.out 9).trans rfl, (blk_cell K27.out 10).trans rfl, HQ7.out⟩ (fun hHeld => ?_)
  clear hK K
  refine norm_ (a' := ?_) ?_ ?_
  rotate_left
  · show Act.put _ (some 14) _ = _
    simp only [Act.put, List.setIfInBounds_toArray, List.set_cons_zero, List.set_cons_succ, i64_w, i32_w]
    rfl
  refine pure_ (i := 9) (N := some 5) (v := ?_) (a' := ?_) #[true, true, true, true, true, true, true, true, true, true] rfl rfl (by kernel_rfl) (fun _ _ _ h => h) (Or.inl ⟨by rfl, ?_⟩) ?_ ?_
  rotate_left
  · intro w'
    go_simp
    with_reducible rfl
  rotate_left
  · simp only [Act.put, List.setIfInBounds_toArray, List.set_cons_zero, List.set_cons_succ, i64_w, i32_w]
    rfl
  refine done_ (by kernel_rfl) ?_
  go_wp2
  go_ret
  exact ⟨rfl, HG7.out⟩
end Go.Proofs.Ytffggkhahambhaa.Tr

namespace Go.Proofs.Ytffggkhahambhaa.Tr
open Go.RowKit Go.Proofs.YtffggkhahambhaaW.PrintWords Go.Proofs.YtffggkhahambhaaW.PrintLast Go.Proofs.YtffggkhahambhaaW.PrintMore Go.Proofs.Ytffggkhahambhaa.Math Go.Proofs.Ytffggkhahambhaa.PAll Go.Proofs.Ytffggkhahambhaa.Stab
set_option linter.unusedVariables false
set_option linter.unusedSimpArgs false
/-- How filter.All sets two spans. -/
def cfK (o : Int) (x y : Sp) : Int := cmpB (keyI o x) (keyI o y)
theorem swo_cfK (o : Int) : Swo (ltC (cfK o)) := swo_key (keyI o) (keyI_isB o)
/-- Of these spans a query's terms all hold just where m tells so. -/
def Holding (w : World) (ts : List S41) (m : Sp → Bool) (l : List Sp) : Prop := ∀ s ∈ l, ∃ x, Is w s x ∧ ∃ pt : S41 → Bool, (∀ t ∈ ts, ∃ k, holdF k t x = some (pt t)) ∧ ts.all pt = m s
theorem cmp_holds {w : World} {g bq : Nat} {o : Int} (hq : w.cell? ⟨bq, 1, none⟩ = some (.int .i64 o)) (hne : bq ≠ g) : Cmp w g bq (cfK o) := by
  intro x y w' hg
  refine (all2_calls x y w' ?_).mono fun e w2 h => h
  have hlt := World.block_lt_of_cell? w _ hq
  have hb := hg.block bq hlt (fun e => hne (Option.some.inj e))
  rw [World.cell?_of_block (w := w) (w' := w') hb]
  exact hq
set_option maxHeartbeats 4000000 in
set_option maxRecDepth 100000 in
theorem all_calls {A : Option Addr} {c : Nat} {l : List Sp} {Aq : Option Addr} {cq : Nat} {ts : List S41} {o : Int} {m : Sp → Bool} {w : World} (hH : Holding w ts m l) (hq : Kd.C k41 w Aq ts.length ts) (hlq : ts.length ≤ cq) (hnq : ts.length ≤ 1000000) (hr : Kd.C kS w A l.length l) (hl : l.length ≤ c) (hn : l.length ≤ 1000000) :
    Calls Try.prog 12 #[.agg #[.slice Aq ts.length cq, .int .i64 o], .slice A l.length c] w fun e w' => ∃ v ys, e = .returned v ∧ Kd.R kS 34 w' w.heap.size (fun _ => True) v ys ∧ Stb (ltC (cfK o)) (l.filter m) ys ∧ ys.length = (l.filter m).length ∧ Below w.heap.size w w' := by
  have hal := below_alloc (Below.refl w.heap.size w) (.cells #[.slice Aq ts.length cq, .int .i64 o] 24)
  have k1 := heap_alloc_new w (.cells #[.slice Aq ts.length cq, .int .i64 o] 24)
  have hsz : (w.alloc (.cells #[.slice Aq ts.length cq, .int .i64 o] 24)).heap.size = w.heap.size + 1 := by simp
  obtain ⟨w1, hw1⟩ : ∃ w1, w.alloc (.cells #[.slice Aq ts.length cq, .int .i64 o] 24) = w1 := ⟨_, rfl⟩
  have HCL := Lib.hid (clone_calls A c l _ (Kd.C_below hr hal) hl hn)
  rw [hw1] at hal k1 hsz HCL
  have HW1 := Lib.hid hw1
  have HAL := Lib.hid hal
  have HK1 := Lib.hid k1
  have HSZ := Lib.hid hsz
  have HH := Lib.hid hH
  have HQ := Lib.hid hq
  have HLQ := Lib.hid hlq
  have HNQ := Lib.hid hnq
  have HN := Lib.hid hn
  clear hal k1 hsz hH hq hlq hnq hr hl hn
  go_enter Try.func12, Try.ntmps12
  go_wp2_with fail
  clear hw1
  refine HCL.out.mono ?_
  rintro e w2 ⟨v2, rfl, hR2, hb2⟩
  obtain ⟨A2, c2, rfl⟩ := Kd.R_slice hR2
  have HR2 := Lib.hid hR2
  have HB2 := Lib.hid hb2
  have hkeep : Keeps w1.heap.size w2 w.heap.size m l := by
    intro s hs w' hb'
    obtain ⟨x, hx, pt, hpt, hm⟩ := HH.out s hs
    have hbw : Below w1.heap.size w1 w' := HB2.out.trans hb'
    have hbw0 : Below w.heap.size w w' := HAL.out.trans (hbw.mono (by rw [HSZ.out]; omega))
    have hq' := (hbw.block w.heap.size (by rw [HSZ.out]; omega)).trans HK1.out
    refine (all1_calls hq' hpt (hx.below hbw0) (Kd.C_below HQ.out hbw0) HLQ.out HNQ.out).mono ?_
    rintro e w5 ⟨rfl, hb5⟩
    exact ⟨by rw [hm], hb5⟩
  have HD := Lib.hid (delf_calls A2 c2 l hkeep (Below.refl _ _) HB2.out.size hR2 HN.out)
  clear hkeep hR2 hb2 HCL
  go_wp2_with fail
  refine HD.out.mono ?_
  rintro e w3 ⟨v3, rfl, hR3, hb3⟩
  obtain ⟨A3, c3, rfl⟩ := Kd.R_slice hR3
  have hq3 : w3.cell? ⟨w.heap.size, 1, none⟩ = some (.int .i64 o) := (blk_cell (((HB2.out.trans hb3).block w.heap.size (by rw [HSZ.out]; omega)).trans HK1.out) 1).trans rfl
  have hrl := row_lt hR3
  have HS := Lib.hid (sortStable_calls (swo_cfK o) hR3 (Nat.le_trans (List.length_filter_le _ _) HN.out) (bq := w.heap.size) (fun g hg => cmp_holds hq3 (fun e => by
    subst hg
    have := (hrl g rfl).1
    rw [HSZ.out] at this
    omega)))
  have HR3 := Lib.hid hR3
  have HB3 := Lib.hid hb3
  have HRL := Lib.hid hrl
  clear hR3 hb3 HD hq3 hrl
  go_wp2_with fail
  refine HS.out.mono ?_
  rintro e w4 ⟨rfl, ys, hlen, hst, hR4, hg⟩
  have HR4 := Lib.hid hR4
  have HST := Lib.hid hst
  have HB4 := Lib.hid (Below.grown (HB2.out.trans HB3.out) hg (Nat.le_trans HB2.out.size HB3.out.size) (fun k hk => (HRL.out k hk).1))
  have HLN := Lib.hid hlen
  clear hR4 hst hg hlen HS
  go_wp2
  go_ret
  exact ⟨_, ys, rfl, Kd.R_lower HR4.out (by rw [HSZ.out]; omega), HST.out, HLN.out, HAL.out.trans (HB4.out.mono (by rw [HSZ.out]; omega))⟩
end Go.Proofs.Ytffggkhahambhaa.Tr

namespace Go.Proofs.Ytffggkhahambhaa.Tr
open Go.RowKit Go.Proofs.YtffggkhahambhaaW.PrintWords Go.Proofs.YtffggkhahambhaaW.PrintLast Go.Proofs.YtffggkhahambhaaW.PrintMore Go.Proofs.Ytffggkhahambhaa.Math Go.Proofs.Ytffggkhahambhaa.PAll Go.Proofs.Ytffggkhahambhaa.Stab
set_option linter.unusedVariables false
set_option linter.unusedSimpArgs false
def sA : S34 := ⟨1, 2, 0, ⟨#[97, 112, 105]⟩, ⟨#[103, 101, 116]⟩, 5, 7, 0, [], [], []⟩
def spA : Sp := ⟨1, 2, 0, ⟨#[97, 112, 105]⟩, ⟨#[103, 101, 116]⟩, 5, 7, 0, (none, 0, 0), (none, 0, 0), (none, 0, 0)⟩
def tA : S41 := ⟨⟨#[100, 117, 114]⟩, 5, ⟨1, ⟨#[]⟩, 7, false⟩⟩
def uA : S41 := ⟨⟨#[64, 99, 111, 100, 101]⟩, 2, ⟨1, ⟨#[]⟩, 500, false⟩⟩
theorem isA (w : World) : Is w spA sA := k34_mk w sA (A8 := none) (c8 := 0) (Nat.le_refl _) ⟨rfl, by simp [sA], fun h => absurd h (by decide)⟩ (A9 := none) (c9 := 0) (Nat.le_refl _) ⟨rfl, by simp [sA], fun h => absurd h (by decide)⟩ (A10 := none) (c10 := 0) (Nat.le_refl _) ⟨rfl, by simp [sA], fun h => absurd h (by decide)⟩
theorem hold_tA : holdF 5 tA sA = some true := by kernel_rfl
theorem hold_uA : holdF 5 uA sA = some false := by kernel_rfl
theorem add_at0 (g j : Nat) : (⟨g, 0, none⟩ : Addr).add j = ⟨g, j, none⟩ := by
  unfold Addr.add
  split
  · subst_vars; rfl
  · simp
theorem row_tA {w : World} {g : Nat} (h : w.heap[g]? = some (.cells (encT tA).toArray 41 (0, 0))) : Kd.C k41 w (some ⟨g, 0, none⟩) [tA].length [tA] := by
  refine ⟨rfl, by simp, fun _ => ⟨_, rfl, fun j p hj => ?_⟩⟩
  rcases j with _ | j
  · injection hj with hj
    subst hj
    refine ⟨encT tA, rfl, k41_mk w tA, fun i u hu => ?_⟩
    have hc := blk_cell h (0 * 6 + i)
    have e : (⟨g, 0, none⟩ : Addr).add (0 * 6 + i) = ⟨g, 0 * 6 + i, none⟩ := add_at0 g _
    show w.cell? ((⟨g, 0, none⟩ : Addr).add (0 * 6 + i)) = some u
    rw [e, hc, Nat.zero_mul, Nat.zero_add]
    simpa using hu
  · cases hj
theorem row_sA {w : World} {g : Nat} (h : w.heap[g]? = some (.cells (encS spA).toArray 34 (0, 0))) : Kd.C kS w (some ⟨g, 0, none⟩) [spA].length [spA] := by
  refine ⟨rfl, by simp, fun _ => ⟨_, rfl, fun j p hj => ?_⟩⟩
  rcases j with _ | j
  · injection hj with hj
    subst hj
    refine ⟨encS spA, rfl, rfl, fun i u hu => ?_⟩
    have hc := blk_cell h (0 * 11 + i)
    have e : (⟨g, 0, none⟩ : Addr).add (0 * 11 + i) = ⟨g, 0 * 11 + i, none⟩ := add_at0 g _
    show w.cell? ((⟨g, 0, none⟩ : Addr).add (0 * 11 + i)) = some u
    rw [e, hc, Nat.zero_mul, Nat.zero_add]
    simpa using hu
  · cases hj
set_option maxHeartbeats 8000000 in
set_option maxRecDepth 1000000 in
theorem awake_calls (w : World) : Calls Try.prog 7 #[] w fun e w' => e = .returned (.bool true) ∧ Below w.heap.size w w' := by
  obtain ⟨n, hn⟩ : ∃ n, w.heap.size = n := ⟨_, rfl⟩
  have sz : ∀ (W : World) (o : Obj), (W.alloc o).heap.size = W.heap.size + 1 := fun W o => by simp
  have hb : Below w.heap.size w (((w.alloc (.cells #[.int .u64 1, .int .u64 2, .int .u64 0, .string ⟨#[97, 112, 105]⟩, .string ⟨#[103, 101, 116]⟩, .int .i64 5, .int .i64 7, .int .i64 0, .slice none 0 0, .slice none 0 0, .slice none 0 0] 34)).alloc (.cells #[.string ⟨#[100, 117, 114]⟩, .int .i64 5, .int .i64 1, .string ⟨#[]⟩, .int .i64 7, .bool false] 41)).alloc (.cells #[.string ⟨#[64, 99, 111, 100, 101]⟩, .int .i64 2, .int .i64 1, .string ⟨#[]⟩, .int .i64 500, .bool false] 41)) := below_alloc (below_alloc (below_alloc (Below.refl _ _) _) _) _
  have h1 := block_below (block_below (heap_alloc_new w (.cells #[.int .u64 1, .int .u64 2, .int .u64 0, .string ⟨#[97, 112, 105]⟩, .string ⟨#[103, 101, 116]⟩, .int .i64 5, .int .i64 7, .int .i64 0, .slice none 0 0, .slice none 0 0, .slice none 0 0] 34)) (below_alloc (Below.refl _ _) (.cells #[.string ⟨#[100, 117, 114]⟩, .int .i64 5, .int .i64 1, .string ⟨#[]⟩, .int .i64 7, .bool false] 41))) (below_alloc (Below.refl _ _) (.cells #[.string ⟨#[64, 99, 111, 100, 101]⟩, .int .i64 2, .int .i64 1, .string ⟨#[]⟩, .int .i64 500, .bool false] 41))
  have h2 := block_below (heap_alloc_new (w.alloc (.cells #[.int .u64 1, .int .u64 2, .int .u64 0, .string ⟨#[97, 112, 105]⟩, .string ⟨#[103, 101, 116]⟩, .int .i64 5, .int .i64 7, .int .i64 0, .slice none 0 0, .slice none 0 0, .slice none 0 0] 34)) (.cells #[.string ⟨#[100, 117, 114]⟩, .int .i64 5, .int .i64 1, .string ⟨#[]⟩, .int .i64 7, .bool false] 41)) (below_alloc (Below.refl _ _) (.cells #[.string ⟨#[64, 99, 111, 100, 101]⟩, .int .i64 2, .int .i64 1, .string ⟨#[]⟩, .int .i64 500, .bool false] 41))
  have h3 := heap_alloc_new ((w.alloc (.cells #[.int .u64 1, .int .u64 2, .int .u64 0, .string ⟨#[97, 112, 105]⟩, .string ⟨#[103, 101, 116]⟩, .int .i64 5, .int .i64 7, .int .i64 0, .slice none 0 0, .slice none 0 0, .slice none 0 0] 34)).alloc (.cells #[.string ⟨#[100, 117, 114]⟩, .int .i64 5, .int .i64 1, .string ⟨#[]⟩, .int .i64 7, .bool false] 41)) (.cells #[.string ⟨#[64, 99, 111, 100, 101]⟩, .int .i64 2, .int .i64 1, .string ⟨#[]⟩, .int .i64 500, .bool false] 41)
  simp only [sz] at h2 h3
  have H1 := Lib.hid h1
  have H2 := Lib.hid h2
  have H3 := Lib.hid h3
  have HB := Lib.hid hb
  clear h1 h2 h3 hb sz hn

  have x0 : (((w.alloc (.cells #[.int .u64 1, .int .u64 2, .int .u64 0, .string ⟨#[97, 112, 105]⟩, .string ⟨#[103, 101, 116]⟩, .int .i64 5, .int .i64 7, .int .i64 0, .slice none 0 0, .slice none 0 0, .slice none 0 0] 34)).alloc (.cells #[.string ⟨#[100, 117, 114]⟩, .int .i64 5, .int .i64 1, .string ⟨#[]⟩, .int .i64 7, .bool false] 41)).alloc (.cells #[.string ⟨#[64, 99, 111, 100, 101]⟩, .int .i64 2, .int .i64 1, .string ⟨#[]⟩, .int .i64 500, .bool false] 41)).cell? ⟨w.heap.size, 0, none⟩ = some (.int .u64 1) := (blk_cell H1.out 0).trans rfl
  have x1 : (((w.alloc (.cells #[.int .u64 1, .int .u64 2, .int .u64 0, .string ⟨#[97, 112, 105]⟩, .string ⟨#[103, 101, 116]⟩, .int .i64 5, .int .i64 7, .int .i64 0, .slice none 0 0, .slice none 0 0, .slice none 0 0] 34)).alloc (.cells #[.string ⟨#[100, 117, 114]⟩, .int .i64 5, .int .i64 1, .string ⟨#[]⟩, .int .i64 7, .bool false] 41)).alloc (.cells #[.string ⟨#[64, 99, 111, 100, 101]⟩, .int .i64 2, .int .i64 1, .string ⟨#[]⟩, .int .i64 500, .bool false] 41)).cell? ⟨w.heap.size, 1, none⟩ = some (.int .u64 2) := (blk_cell H1.out 1).trans rfl
  have x2 : (((w.alloc (.cells #[.int .u64 1, .int .u64 2, .int .u64 0, .string ⟨#[97, 112, 105]⟩, .string ⟨#[103, 101, 116]⟩, .int .i64 5, .int .i64 7, .int .i64 0, .slice none 0 0, .slice none 0 0, .slice none 0 0] 34)).alloc (.cells #[.string ⟨#[100, 117, 114]⟩, .int .i64 5, .int .i64 1, .string ⟨#[]⟩, .int .i64 7, .bool false] 41)).alloc (.cells #[.string ⟨#[64, 99, 111, 100, 101]⟩, .int .i64 2, .int .i64 1, .string ⟨#[]⟩, .int .i64 500, .bool false] 41)).cell? ⟨w.heap.size, 2, none⟩ = some (.int .u64 0) := (blk_cell H1.out 2).trans rfl
  have x3 : (((w.alloc (.cells #[.int .u64 1, .int .u64 2, .int .u64 0, .string ⟨#[97, 112, 105]⟩, .string ⟨#[103, 101, 116]⟩, .int .i64 5, .int .i64 7, .int .i64 0, .slice none 0 0, .slice none 0 0, .slice none 0 0] 34)).alloc (.cells #[.string ⟨#[100, 117, 114]⟩, .int .i64 5, .int .i64 1, .string ⟨#[]⟩, .int .i64 7, .bool false] 41)).alloc (.cells #[.string ⟨#[64, 99, 111, 100, 101]⟩, .int .i64 2, .int .i64 1, .string ⟨#[]⟩, .int .i64 500, .bool false] 41)).cell? ⟨w.heap.size, 3, none⟩ = some (.string ⟨#[97, 112, 105]⟩) := (blk_cell H1.out 3).trans rfl
  have x4 : (((w.alloc (.cells #[.int .u64 1, .int .u64 2, .int .u64 0, .string ⟨#[97, 112, 105]⟩, .string ⟨#[103, 101, 116]⟩, .int .i64 5, .int .i64 7, .int .i64 0, .slice none 0 0, .slice none 0 0, .slice none 0 0] 34)).alloc (.cells #[.string ⟨#[100, 117, 114]⟩, .int .i64 5, .int .i64 1, .string ⟨#[]⟩, .int .i64 7, .bool false] 41)).alloc (.cells #[.string ⟨#[64, 99, 111, 100, 101]⟩, .int .i64 2, .int .i64 1, .string ⟨#[]⟩, .int .i64 500, .bool false] 41)).cell? ⟨w.heap.size, 4, none⟩ = some (.string ⟨#[103, 101, 116]⟩) := (blk_cell H1.out 4).trans rfl
  have x5 : (((w.alloc (.cells #[.int .u64 1, .int .u64 2, .int .u64 0, .string ⟨#[97, 112, 105]⟩, .string ⟨#[103, 101, 116]⟩, .int .i64 5, .int .i64 7, .int .i64 0, .slice none 0 0, .slice none 0 0, .slice none 0 0] 34)).alloc (.cells #[.string ⟨#[100, 117, 114]⟩, .int .i64 5, .int .i64 1, .string ⟨#[]⟩, .int .i64 7, .bool false] 41)).alloc (.cells #[.string ⟨#[64, 99, 111, 100, 101]⟩, .int .i64 2, .int .i64 1, .string ⟨#[]⟩, .int .i64 500, .bool false] 41)).cell? ⟨w.heap.size, 5, none⟩ = some (.int .i64 5) := (blk_cell H1.out 5).trans rfl
  have x6 : (((w.alloc (.cells #[.int .u64 1, .int .u64 2, .int .u64 0, .string ⟨#[97, 112, 105]⟩, .string ⟨#[103, 101, 116]⟩, .int .i64 5, .int .i64 7, .int .i64 0, .slice none 0 0, .slice none 0 0, .slice none 0 0] 34)).alloc (.cells #[.string ⟨#[100, 117, 114]⟩, .int .i64 5, .int .i64 1, .string ⟨#[]⟩, .int .i64 7, .bool false] 41)).alloc (.cells #[.string ⟨#[64, 99, 111, 100, 101]⟩, .int .i64 2, .int .i64 1, .string ⟨#[]⟩, .int .i64 500, .bool false] 41)).cell? ⟨w.heap.size, 6, none⟩ = some (.int .i64 7) := (blk_cell H1.out 6).trans rfl
  have x7 : (((w.alloc (.cells #[.int .u64 1, .int .u64 2, .int .u64 0, .string ⟨#[97, 112, 105]⟩, .string ⟨#[103, 101, 116]⟩, .int .i64 5, .int .i64 7, .int .i64 0, .slice none 0 0, .slice none 0 0, .slice none 0 0] 34)).alloc (.cells #[.string ⟨#[100, 117, 114]⟩, .int .i64 5, .int .i64 1, .string ⟨#[]⟩, .int .i64 7, .bool false] 41)).alloc (.cells #[.string ⟨#[64, 99, 111, 100, 101]⟩, .int .i64 2, .int .i64 1, .string ⟨#[]⟩, .int .i64 500, .bool false] 41)).cell? ⟨w.heap.size, 7, none⟩ = some (.int .i64 0) := (blk_cell H1.out 7).trans rfl
  have x8 : (((w.alloc (.cells #[.int .u64 1, .int .u64 2, .int .u64 0, .string ⟨#[97, 112, 105]⟩, .string ⟨#[103, 101, 116]⟩, .int .i64 5, .int .i64 7, .int .i64 0, .slice none 0 0, .slice none 0 0, .slice none 0 0] 34)).alloc (.cells #[.string ⟨#[100, 117, 114]⟩, .int .i64 5, .int .i64 1, .string ⟨#[]⟩, .int .i64 7, .bool false] 41)).alloc (.cells #[.string ⟨#[64, 99, 111, 100, 101]⟩, .int .i64 2, .int .i64 1, .string ⟨#[]⟩, .int .i64 500, .bool false] 41)).cell? ⟨w.heap.size, 8, none⟩ = some (.slice none 0 0) := (blk_cell H1.out 8).trans rfl
  have x9 : (((w.alloc (.cells #[.int .u64 1, .int .u64 2, .int .u64 0, .string ⟨#[97, 112, 105]⟩, .string ⟨#[103, 101, 116]⟩, .int .i64 5, .int .i64 7, .int .i64 0, .slice none 0 0, .slice none 0 0, .slice none 0 0] 34)).alloc (.cells #[.string ⟨#[100, 117, 114]⟩, .int .i64 5, .int .i64 1, .string ⟨#[]⟩, .int .i64 7, .bool false] 41)).alloc (.cells #[.string ⟨#[64, 99, 111, 100, 101]⟩, .int .i64 2, .int .i64 1, .string ⟨#[]⟩, .int .i64 500, .bool false] 41)).cell? ⟨w.heap.size, 9, none⟩ = some (.slice none 0 0) := (blk_cell H1.out 9).trans rfl
  have x10 : (((w.alloc (.cells #[.int .u64 1, .int .u64 2, .int .u64 0, .string ⟨#[97, 112, 105]⟩, .string ⟨#[103, 101, 116]⟩, .int .i64 5, .int .i64 7, .int .i64 0, .slice none 0 0, .slice none 0 0, .slice none 0 0] 34)).alloc (.cells #[.string ⟨#[100, 117, 114]⟩, .int .i64 5, .int .i64 1, .string ⟨#[]⟩, .int .i64 7, .bool false] 41)).alloc (.cells #[.string ⟨#[64, 99, 111, 100, 101]⟩, .int .i64 2, .int .i64 1, .string ⟨#[]⟩, .int .i64 500, .bool false] 41)).cell? ⟨w.heap.size, 10, none⟩ = some (.slice none 0 0) := (blk_cell H1.out 10).trans rfl
  have y0 : (((w.alloc (.cells #[.int .u64 1, .int .u64 2, .int .u64 0, .string ⟨#[97, 112, 105]⟩, .string ⟨#[103, 101, 116]⟩, .int .i64 5, .int .i64 7, .int .i64 0, .slice none 0 0, .slice none 0 0, .slice none 0 0] 34)).alloc (.cells #[.string ⟨#[100, 117, 114]⟩, .int .i64 5, .int .i64 1, .string ⟨#[]⟩, .int .i64 7, .bool false] 41)).alloc (.cells #[.string ⟨#[64, 99, 111, 100, 101]⟩, .int .i64 2, .int .i64 1, .string ⟨#[]⟩, .int .i64 500, .bool false] 41)).cell? ⟨w.heap.size + 1, 0, none⟩ = some (.string ⟨#[100, 117, 114]⟩) := (blk_cell H2.out 0).trans rfl
  have y1 : (((w.alloc (.cells #[.int .u64 1, .int .u64 2, .int .u64 0, .string ⟨#[97, 112, 105]⟩, .string ⟨#[103, 101, 116]⟩, .int .i64 5, .int .i64 7, .int .i64 0, .slice none 0 0, .slice none 0 0, .slice none 0 0] 34)).alloc (.cells #[.string ⟨#[100, 117, 114]⟩, .int .i64 5, .int .i64 1, .string ⟨#[]⟩, .int .i64 7, .bool false] 41)).alloc (.cells #[.string ⟨#[64, 99, 111, 100, 101]⟩, .int .i64 2, .int .i64 1, .string ⟨#[]⟩, .int .i64 500, .bool false] 41)).cell? ⟨w.heap.size + 1, 1, none⟩ = some (.int .i64 5) := (blk_cell H2.out 1).trans rfl
  have y2 : (((w.alloc (.cells #[.int .u64 1, .int .u64 2, .int .u64 0, .string ⟨#[97, 112, 105]⟩, .string ⟨#[103, 101, 116]⟩, .int .i64 5, .int .i64 7, .int .i64 0, .slice none 0 0, .slice none 0 0, .slice none 0 0] 34)).alloc (.cells #[.string ⟨#[100, 117, 114]⟩, .int .i64 5, .int .i64 1, .string ⟨#[]⟩, .int .i64 7, .bool false] 41)).alloc (.cells #[.string ⟨#[64, 99, 111, 100, 101]⟩, .int .i64 2, .int .i64 1, .string ⟨#[]⟩, .int .i64 500, .bool false] 41)).cell? ⟨w.heap.size + 1, 2, none⟩ = some (.int .i64 1) := (blk_cell H2.out 2).trans rfl
  have y3 : (((w.alloc (.cells #[.int .u64 1, .int .u64 2, .int .u64 0, .string ⟨#[97, 112, 105]⟩, .string ⟨#[103, 101, 116]⟩, .int .i64 5, .int .i64 7, .int .i64 0, .slice none 0 0, .slice none 0 0, .slice none 0 0] 34)).alloc (.cells #[.string ⟨#[100, 117, 114]⟩, .int .i64 5, .int .i64 1, .string ⟨#[]⟩, .int .i64 7, .bool false] 41)).alloc (.cells #[.string ⟨#[64, 99, 111, 100, 101]⟩, .int .i64 2, .int .i64 1, .string ⟨#[]⟩, .int .i64 500, .bool false] 41)).cell? ⟨w.heap.size + 1, 3, none⟩ = some (.string ⟨#[]⟩) := (blk_cell H2.out 3).trans rfl
  have y4 : (((w.alloc (.cells #[.int .u64 1, .int .u64 2, .int .u64 0, .string ⟨#[97, 112, 105]⟩, .string ⟨#[103, 101, 116]⟩, .int .i64 5, .int .i64 7, .int .i64 0, .slice none 0 0, .slice none 0 0, .slice none 0 0] 34)).alloc (.cells #[.string ⟨#[100, 117, 114]⟩, .int .i64 5, .int .i64 1, .string ⟨#[]⟩, .int .i64 7, .bool false] 41)).alloc (.cells #[.string ⟨#[64, 99, 111, 100, 101]⟩, .int .i64 2, .int .i64 1, .string ⟨#[]⟩, .int .i64 500, .bool false] 41)).cell? ⟨w.heap.size + 1, 4, none⟩ = some (.int .i64 7) := (blk_cell H2.out 4).trans rfl
  have y5 : (((w.alloc (.cells #[.int .u64 1, .int .u64 2, .int .u64 0, .string ⟨#[97, 112, 105]⟩, .string ⟨#[103, 101, 116]⟩, .int .i64 5, .int .i64 7, .int .i64 0, .slice none 0 0, .slice none 0 0, .slice none 0 0] 34)).alloc (.cells #[.string ⟨#[100, 117, 114]⟩, .int .i64 5, .int .i64 1, .string ⟨#[]⟩, .int .i64 7, .bool false] 41)).alloc (.cells #[.string ⟨#[64, 99, 111, 100, 101]⟩, .int .i64 2, .int .i64 1, .string ⟨#[]⟩, .int .i64 500, .bool false] 41)).cell? ⟨w.heap.size + 1, 5, none⟩ = some (.bool false) := (blk_cell H2.out 5).trans rfl
  have z0 : (((w.alloc (.cells #[.int .u64 1, .int .u64 2, .int .u64 0, .string ⟨#[97, 112, 105]⟩, .string ⟨#[103, 101, 116]⟩, .int .i64 5, .int .i64 7, .int .i64 0, .slice none 0 0, .slice none 0 0, .slice none 0 0] 34)).alloc (.cells #[.string ⟨#[100, 117, 114]⟩, .int .i64 5, .int .i64 1, .string ⟨#[]⟩, .int .i64 7, .bool false] 41)).alloc (.cells #[.string ⟨#[64, 99, 111, 100, 101]⟩, .int .i64 2, .int .i64 1, .string ⟨#[]⟩, .int .i64 500, .bool false] 41)).cell? ⟨w.heap.size + 1 + 1, 0, none⟩ = some (.string ⟨#[64, 99, 111, 100, 101]⟩) := (blk_cell H3.out 0).trans rfl
  have z1 : (((w.alloc (.cells #[.int .u64 1, .int .u64 2, .int .u64 0, .string ⟨#[97, 112, 105]⟩, .string ⟨#[103, 101, 116]⟩, .int .i64 5, .int .i64 7, .int .i64 0, .slice none 0 0, .slice none 0 0, .slice none 0 0] 34)).alloc (.cells #[.string ⟨#[100, 117, 114]⟩, .int .i64 5, .int .i64 1, .string ⟨#[]⟩, .int .i64 7, .bool false] 41)).alloc (.cells #[.string ⟨#[64, 99, 111, 100, 101]⟩, .int .i64 2, .int .i64 1, .string ⟨#[]⟩, .int .i64 500, .bool false] 41)).cell? ⟨w.heap.size + 1 + 1, 1, none⟩ = some (.int .i64 2) := (blk_cell H3.out 1).trans rfl
  have z2 : (((w.alloc (.cells #[.int .u64 1, .int .u64 2, .int .u64 0, .string ⟨#[97, 112, 105]⟩, .string ⟨#[103, 101, 116]⟩, .int .i64 5, .int .i64 7, .int .i64 0, .slice none 0 0, .slice none 0 0, .slice none 0 0] 34)).alloc (.cells #[.string ⟨#[100, 117, 114]⟩, .int .i64 5, .int .i64 1, .string ⟨#[]⟩, .int .i64 7, .bool false] 41)).alloc (.cells #[.string ⟨#[64, 99, 111, 100, 101]⟩, .int .i64 2, .int .i64 1, .string ⟨#[]⟩, .int .i64 500, .bool false] 41)).cell? ⟨w.heap.size + 1 + 1, 2, none⟩ = some (.int .i64 1) := (blk_cell H3.out 2).trans rfl
  have z3 : (((w.alloc (.cells #[.int .u64 1, .int .u64 2, .int .u64 0, .string ⟨#[97, 112, 105]⟩, .string ⟨#[103, 101, 116]⟩, .int .i64 5, .int .i64 7, .int .i64 0, .slice none 0 0, .slice none 0 0, .slice none 0 0] 34)).alloc (.cells #[.string ⟨#[100, 117, 114]⟩, .int .i64 5, .int .i64 1, .string ⟨#[]⟩, .int .i64 7, .bool false] 41)).alloc (.cells #[.string ⟨#[64, 99, 111, 100, 101]⟩, .int .i64 2, .int .i64 1, .string ⟨#[]⟩, .int .i64 500, .bool false] 41)).cell? ⟨w.heap.size + 1 + 1, 3, none⟩ = some (.string ⟨#[]⟩) := (blk_cell H3.out 3).trans rfl
  have z4 : (((w.alloc (.cells #[.int .u64 1, .int .u64 2, .int .u64 0, .string ⟨#[97, 112, 105]⟩, .string ⟨#[103, 101, 116]⟩, .int .i64 5, .int .i64 7, .int .i64 0, .slice none 0 0, .slice none 0 0, .slice none 0 0] 34)).alloc (.cells #[.string ⟨#[100, 117, 114]⟩, .int .i64 5, .int .i64 1, .string ⟨#[]⟩, .int .i64 7, .bool false] 41)).alloc (.cells #[.string ⟨#[64, 99, 111, 100, 101]⟩, .int .i64 2, .int .i64 1, .string ⟨#[]⟩, .int .i64 500, .bool false] 41)).cell? ⟨w.heap.size + 1 + 1, 4, none⟩ = some (.int .i64 500) := (blk_cell H3.out 4).trans rfl
  have z5 : (((w.alloc (.cells #[.int .u64 1, .int .u64 2, .int .u64 0, .string ⟨#[97, 112, 105]⟩, .string ⟨#[103, 101, 116]⟩, .int .i64 5, .int .i64 7, .int .i64 0, .slice none 0 0, .slice none 0 0, .slice none 0 0] 34)).alloc (.cells #[.string ⟨#[100, 117, 114]⟩, .int .i64 5, .int .i64 1, .string ⟨#[]⟩, .int .i64 7, .bool false] 41)).alloc (.cells #[.string ⟨#[64, 99, 111, 100, 101]⟩, .int .i64 2, .int .i64 1, .string ⟨#[]⟩, .int .i64 500, .bool false] 41)).cell? ⟨w.heap.size + 1 + 1, 5, none⟩ = some (.bool false) := (blk_cell H3.out 5).trans rfl
  go_enter Try.func7, Try.ntmps7
  go_wp2_with fail
  refine (holds_calls (isA _) hold_tA).mono ?_
  rintro e w4 ⟨rfl, hb4⟩
  have H1a := Lib.hid (block_below H1.out hb4)
  have H2a := Lib.hid (block_below H2.out hb4)
  have H3a := Lib.hid (block_below H3.out hb4)
  have HBa := Lib.hid (below_step HB.out hb4)
  clear x0 x1 x2 x3 x4 x5 x6 x7 x8 x9 x10 y0 y1 y2 y3 y4 y5 z0 z1 z2 z3 z4 z5
  clear hb4
  have x0 : w4.cell? ⟨w.heap.size, 0, none⟩ = some (.int .u64 1) := (blk_cell H1a.out 0).trans rfl
  have x1 : w4.cell? ⟨w.heap.size, 1, none⟩ = some (.int .u64 2) := (blk_cell H1a.out 1).trans rfl
  have x2 : w4.cell? ⟨w.heap.size, 2, none⟩ = some (.int .u64 0) := (blk_cell H1a.out 2).trans rfl
  have x3 : w4.cell? ⟨w.heap.size, 3, none⟩ = some (.string ⟨#[97, 112, 105]⟩) := (blk_cell H1a.out 3).trans rfl
  have x4 : w4.cell? ⟨w.heap.size, 4, none⟩ = some (.string ⟨#[103, 101, 116]⟩) := (blk_cell H1a.out 4).trans rfl
  have x5 : w4.cell? ⟨w.heap.size, 5, none⟩ = some (.int .i64 5) := (blk_cell H1a.out 5).trans rfl
  have x6 : w4.cell? ⟨w.heap.size, 6, none⟩ = some (.int .i64 7) := (blk_cell H1a.out 6).trans rfl
  have x7 : w4.cell? ⟨w.heap.size, 7, none⟩ = some (.int .i64 0) := (blk_cell H1a.out 7).trans rfl
  have x8 : w4.cell? ⟨w.heap.size, 8, none⟩ = some (.slice none 0 0) := (blk_cell H1a.out 8).trans rfl
  have x9 : w4.cell? ⟨w.heap.size, 9, none⟩ = some (.slice none 0 0) := (blk_cell H1a.out 9).trans rfl
  have x10 : w4.cell? ⟨w.heap.size, 10, none⟩ = some (.slice none 0 0) := (blk_cell H1a.out 10).trans rfl
  have y0 : w4.cell? ⟨w.heap.size + 1, 0, none⟩ = some (.string ⟨#[100, 117, 114]⟩) := (blk_cell H2a.out 0).trans rfl
  have y1 : w4.cell? ⟨w.heap.size + 1, 1, none⟩ = some (.int .i64 5) := (blk_cell H2a.out 1).trans rfl
  have y2 : w4.cell? ⟨w.heap.size + 1, 2, none⟩ = some (.int .i64 1) := (blk_cell H2a.out 2).trans rfl
  have y3 : w4.cell? ⟨w.heap.size + 1, 3, none⟩ = some (.string ⟨#[]⟩) := (blk_cell H2a.out 3).trans rfl
  have y4 : w4.cell? ⟨w.heap.size + 1, 4, none⟩ = some (.int .i64 7) := (blk_cell H2a.out 4).trans rfl
  have y5 : w4.cell? ⟨w.heap.size + 1, 5, none⟩ = some (.bool false) := (blk_cell H2a.out 5).trans rfl
  have z0 : w4.cell? ⟨w.heap.size + 1 + 1, 0, none⟩ = some (.string ⟨#[64, 99, 111, 100, 101]⟩) := (blk_cell H3a.out 0).trans rfl
  have z1 : w4.cell? ⟨w.heap.size + 1 + 1, 1, none⟩ = some (.int .i64 2) := (blk_cell H3a.out 1).trans rfl
  have z2 : w4.cell? ⟨w.heap.size + 1 + 1, 2, none⟩ = some (.int .i64 1) := (blk_cell H3a.out 2).trans rfl
  have z3 : w4.cell? ⟨w.heap.size + 1 + 1, 3, none⟩ = some (.string ⟨#[]⟩) := (blk_cell H3a.out 3).trans rfl
  have z4 : w4.cell? ⟨w.heap.size + 1 + 1, 4, none⟩ = some (.int .i64 500) := (blk_cell H3a.out 4).trans rfl
  have z5 : w4.cell? ⟨w.heap.size + 1 + 1, 5, none⟩ = some (.bool false) := (blk_cell H3a.out 5).trans rfl
  go_wp2_with fail
  refine (holds_calls (isA _) hold_uA).mono ?_
  rintro e w5 ⟨rfl, hb5⟩
  have H1b := Lib.hid (block_below H1a.out hb5)
  have H2b := Lib.hid (block_below H2a.out hb5)
  have H3b := Lib.hid (block_below H3a.out hb5)
  have HBb := Lib.hid (below_step HBa.out hb5)
  clear x0 x1 x2 x3 x4 x5 x6 x7 x8 x9 x10 y0 y1 y2 y3 y4 y5 z0 z1 z2 z3 z4 z5
  clear hb5
  have x0 : w5.cell? ⟨w.heap.size, 0, none⟩ = some (.int .u64 1) := (blk_cell H1b.out 0).trans rfl
  have x1 : w5.cell? ⟨w.heap.size, 1, none⟩ = some (.int .u64 2) := (blk_cell H1b.out 1).trans rfl
  have x2 : w5.cell? ⟨w.heap.size, 2, none⟩ = some (.int .u64 0) := (blk_cell H1b.out 2).trans rfl
  have x3 : w5.cell? ⟨w.heap.size, 3, none⟩ = some (.string ⟨#[97, 112, 105]⟩) := (blk_cell H1b.out 3).trans rfl
  have x4 : w5.cell? ⟨w.heap.size, 4, none⟩ = some (.string ⟨#[103, 101, 116]⟩) := (blk_cell H1b.out 4).trans rfl
  have x5 : w5.cell? ⟨w.heap.size, 5, none⟩ = some (.int .i64 5) := (blk_cell H1b.out 5).trans rfl
  have x6 : w5.cell? ⟨w.heap.size, 6, none⟩ = some (.int .i64 7) := (blk_cell H1b.out 6).trans rfl
  have x7 : w5.cell? ⟨w.heap.size, 7, none⟩ = some (.int .i64 0) := (blk_cell H1b.out 7).trans rfl
  have x8 : w5.cell? ⟨w.heap.size, 8, none⟩ = some (.slice none 0 0) := (blk_cell H1b.out 8).trans rfl
  have x9 : w5.cell? ⟨w.heap.size, 9, none⟩ = some (.slice none 0 0) := (blk_cell H1b.out 9).trans rfl
  have x10 : w5.cell? ⟨w.heap.size, 10, none⟩ = some (.slice none 0 0) := (blk_cell H1b.out 10).trans rfl
  have y0 : w5.cell? ⟨w.heap.size + 1, 0, none⟩ = some (.string ⟨#[100, 117, 114]⟩) := (blk_cell H2b.out 0).trans rfl
  have y1 : w5.cell? ⟨w.heap.size + 1, 1, none⟩ = some (.int .i64 5) := (blk_cell H2b.out 1).trans rfl
  have y2 : w5.cell? ⟨w.heap.size + 1, 2, none⟩ = some (.int .i64 1) := (blk_cell H2b.out 2).trans rfl
  have y3 : w5.cell? ⟨w.heap.size + 1, 3, none⟩ = some (.string ⟨#[]⟩) := (blk_cell H2b.out 3).trans rfl
  have y4 : w5.cell? ⟨w.heap.size + 1, 4, none⟩ = some (.int .i64 7) := (blk_cell H2b.out 4).trans rfl
  have y5 : w5.cell? ⟨w.heap.size + 1, 5, none⟩ = some (.bool false) := (blk_cell H2b.out 5).trans rfl
  have z0 : w5.cell? ⟨w.heap.size + 1 + 1, 0, none⟩ = some (.string ⟨#[64, 99, 111, 100, 101]⟩) := (blk_cell H3b.out 0).trans rfl
  have z1 : w5.cell? ⟨w.heap.size + 1 + 1, 1, none⟩ = some (.int .i64 2) := (blk_cell H3b.out 1).trans rfl
  have z2 : w5.cell? ⟨w.heap.size + 1 + 1, 2, none⟩ = some (.int .i64 1) := (blk_cell H3b.out 2).trans rfl
  have z3 : w5.cell? ⟨w.heap.size + 1 + 1, 3, none⟩ = some (.string ⟨#[]⟩) := (blk_cell H3b.out 3).trans rfl
  have z4 : w5.cell? ⟨w.heap.size + 1 + 1, 4, none⟩ = some (.int .i64 500) := (blk_cell H3b.out 4).trans rfl
  have z5 : w5.cell? ⟨w.heap.size + 1 + 1, 5, none⟩ = some (.bool false) := (blk_cell H3b.out 5).trans rfl
  go_wp2_with fail
  refine (filter_Key.callsR 9 1 1 2 0 ⟨#[97, 112, 105]⟩ ⟨#[103, 101, 116]⟩ 5 7 0 none 0 0 none 0 0 none 0 0 (keyI 1 spA) w5 (keyI_eq 1 spA)).mono ?_
  rintro e w6 ⟨v6, rfl, hR6, hb6⟩
  obtain ⟨A6, c6, rfl⟩ := Kd.R_slice hR6
  have hlen : (keyI 1 spA).length = 24 := by kernel_rfl
  rw [hlen]
  clear hR6 hlen
  have H1c := Lib.hid (block_below H1b.out hb6)
  have H2c := Lib.hid (block_below H2b.out hb6)
  have H3c := Lib.hid (block_below H3b.out hb6)
  have HBc := Lib.hid (below_step HBb.out hb6)
  clear x0 x1 x2 x3 x4 x5 x6 x7 x8 x9 x10 y0 y1 y2 y3 y4 y5 z0 z1 z2 z3 z4 z5
  clear hb6
  have x0 : w6.cell? ⟨w.heap.size, 0, none⟩ = some (.int .u64 1) := (blk_cell H1c.out 0).trans rfl
  have x1 : w6.cell? ⟨w.heap.size, 1, none⟩ = some (.int .u64 2) := (blk_cell H1c.out 1).trans rfl
  have x2 : w6.cell? ⟨w.heap.size, 2, none⟩ = some (.int .u64 0) := (blk_cell H1c.out 2).trans rfl
  have x3 : w6.cell? ⟨w.heap.size, 3, none⟩ = some (.string ⟨#[97, 112, 105]⟩) := (blk_cell H1c.out 3).trans rfl
  have x4 : w6.cell? ⟨w.heap.size, 4, none⟩ = some (.string ⟨#[103, 101, 116]⟩) := (blk_cell H1c.out 4).trans rfl
  have x5 : w6.cell? ⟨w.heap.size, 5, none⟩ = some (.int .i64 5) := (blk_cell H1c.out 5).trans rfl
  have x6 : w6.cell? ⟨w.heap.size, 6, none⟩ = some (.int .i64 7) := (blk_cell H1c.out 6).trans rfl
  have x7 : w6.cell? ⟨w.heap.size, 7, none⟩ = some (.int .i64 0) := (blk_cell H1c.out 7).trans rfl
  have x8 : w6.cell? ⟨w.heap.size, 8, none⟩ = some (.slice none 0 0) := (blk_cell H1c.out 8).trans rfl
  have x9 : w6.cell? ⟨w.heap.size, 9, none⟩ = some (.slice none 0 0) := (blk_cell H1c.out 9).trans rfl
  have x10 : w6.cell? ⟨w.heap.size, 10, none⟩ = some (.slice none 0 0) := (blk_cell H1c.out 10).trans rfl
  have y0 : w6.cell? ⟨w.heap.size + 1, 0, none⟩ = some (.string ⟨#[100, 117, 114]⟩) := (blk_cell H2c.out 0).trans rfl
  have y1 : w6.cell? ⟨w.heap.size + 1, 1, none⟩ = some (.int .i64 5) := (blk_cell H2c.out 1).trans rfl
  have y2 : w6.cell? ⟨w.heap.size + 1, 2, none⟩ = some (.int .i64 1) := (blk_cell H2c.out 2).trans rfl
  have y3 : w6.cell? ⟨w.heap.size + 1, 3, none⟩ = some (.string ⟨#[]⟩) := (blk_cell H2c.out 3).trans rfl
  have y4 : w6.cell? ⟨w.heap.size + 1, 4, none⟩ = some (.int .i64 7) := (blk_cell H2c.out 4).trans rfl
  have y5 : w6.cell? ⟨w.heap.size + 1, 5, none⟩ = some (.bool false) := (blk_cell H2c.out 5).trans rfl
  have z0 : w6.cell? ⟨w.heap.size + 1 + 1, 0, none⟩ = some (.string ⟨#[64, 99, 111, 100, 101]⟩) := (blk_cell H3c.out 0).trans rfl
  have z1 : w6.cell? ⟨w.heap.size + 1 + 1, 1, none⟩ = some (.int .i64 2) := (blk_cell H3c.out 1).trans rfl
  have z2 : w6.cell? ⟨w.heap.size + 1 + 1, 2, none⟩ = some (.int .i64 1) := (blk_cell H3c.out 2).trans rfl
  have z3 : w6.cell? ⟨w.heap.size + 1 + 1, 3, none⟩ = some (.string ⟨#[]⟩) := (blk_cell H3c.out 3).trans rfl
  have z4 : w6.cell? ⟨w.heap.size + 1 + 1, 4, none⟩ = some (.int .i64 500) := (blk_cell H3c.out 4).trans rfl
  have z5 : w6.cell? ⟨w.heap.size + 1 + 1, 5, none⟩ = some (.bool false) := (blk_cell H3c.out 5).trans rfl
  have hbt := below_alloc (Below.refl w6.heap.size w6) (.cells #[.string ⟨#[100, 117, 114]⟩, .int .i64 5, .int .i64 1, .string ⟨#[]⟩, .int .i64 7, .bool false] 41)
  have hbs := below_alloc (Below.refl (w6.alloc (.cells #[.string ⟨#[100, 117, 114]⟩, .int .i64 5, .int .i64 1, .string ⟨#[]⟩, .int .i64 7, .bool false] 41)).heap.size (w6.alloc (.cells #[.string ⟨#[100, 117, 114]⟩, .int .i64 5, .int .i64 1, .string ⟨#[]⟩, .int .i64 7, .bool false] 41))) (.cells #[.int .u64 1, .int .u64 2, .int .u64 0, .string ⟨#[97, 112, 105]⟩, .string ⟨#[103, 101, 116]⟩, .int .i64 5, .int .i64 7, .int .i64 0, .slice none 0 0, .slice none 0 0, .slice none 0 0] 34)
  have kt := block_below (heap_alloc_new w6 (.cells #[.string ⟨#[100, 117, 114]⟩, .int .i64 5, .int .i64 1, .string ⟨#[]⟩, .int .i64 7, .bool false] 41)) hbs
  have ks := heap_alloc_new (w6.alloc (.cells #[.string ⟨#[100, 117, 114]⟩, .int .i64 5, .int .i64 1, .string ⟨#[]⟩, .int .i64 7, .bool false] 41)) (.cells #[.int .u64 1, .int .u64 2, .int .u64 0, .string ⟨#[97, 112, 105]⟩, .string ⟨#[103, 101, 116]⟩, .int .i64 5, .int .i64 7, .int .i64 0, .slice none 0 0, .slice none 0 0, .slice none 0 0] 34)
  rw [show (w6.alloc (.cells #[.string ⟨#[100, 117, 114]⟩, .int .i64 5, .int .i64 1, .string ⟨#[]⟩, .int .i64 7, .bool false] 41)).heap.size = w6.heap.size + 1 by simp] at ks
  have H1d := Lib.hid (block_below H1c.out hbt)
  have HT := Lib.hid (row_tA kt)
  have HS := Lib.hid (row_sA ks)
  have HBd := Lib.hid (below_step HBc.out (below_step hbt hbs))
  clear hbt hbs kt ks
  have u0 : (w6.alloc (.cells #[.string ⟨#[100, 117, 114]⟩, .int .i64 5, .int .i64 1, .string ⟨#[]⟩, .int .i64 7, .bool false] 41)).cell? ⟨w.heap.size, 0, none⟩ = some (.int .u64 1) := (blk_cell H1d.out 0).trans rfl
  have u1 : (w6.alloc (.cells #[.string ⟨#[100, 117, 114]⟩, .int .i64 5, .int .i64 1, .string ⟨#[]⟩, .int .i64 7, .bool false] 41)).cell? ⟨w.heap.size, 1, none⟩ = some (.int .u64 2) := (blk_cell H1d.out 1).trans rfl
  have u2 : (w6.alloc (.cells #[.string ⟨#[100, 117, 114]⟩, .int .i64 5, .int .i64 1, .string ⟨#[]⟩, .int .i64 7, .bool false] 41)).cell? ⟨w.heap.size, 2, none⟩ = some (.int .u64 0) := (blk_cell H1d.out 2).trans rfl
  have u3 : (w6.alloc (.cells #[.string ⟨#[100, 117, 114]⟩, .int .i64 5, .int .i64 1, .string ⟨#[]⟩, .int .i64 7, .bool false] 41)).cell? ⟨w.heap.size, 3, none⟩ = some (.string ⟨#[97, 112, 105]⟩) := (blk_cell H1d.out 3).trans rfl
  have u4 : (w6.alloc (.cells #[.string ⟨#[100, 117, 114]⟩, .int .i64 5, .int .i64 1, .string ⟨#[]⟩, .int .i64 7, .bool false] 41)).cell? ⟨w.heap.size, 4, none⟩ = some (.string ⟨#[103, 101, 116]⟩) := (blk_cell H1d.out 4).trans rfl
  have u5 : (w6.alloc (.cells #[.string ⟨#[100, 117, 114]⟩, .int .i64 5, .int .i64 1, .string ⟨#[]⟩, .int .i64 7, .bool false] 41)).cell? ⟨w.heap.size, 5, none⟩ = some (.int .i64 5) := (blk_cell H1d.out 5).trans rfl
  have u6 : (w6.alloc (.cells #[.string ⟨#[100, 117, 114]⟩, .int .i64 5, .int .i64 1, .string ⟨#[]⟩, .int .i64 7, .bool false] 41)).cell? ⟨w.heap.size, 6, none⟩ = some (.int .i64 7) := (blk_cell H1d.out 6).trans rfl
  have u7 : (w6.alloc (.cells #[.string ⟨#[100, 117, 114]⟩, .int .i64 5, .int .i64 1, .string ⟨#[]⟩, .int .i64 7, .bool false] 41)).cell? ⟨w.heap.size, 7, none⟩ = some (.int .i64 0) := (blk_cell H1d.out 7).trans rfl
  have u8 : (w6.alloc (.cells #[.string ⟨#[100, 117, 114]⟩, .int .i64 5, .int .i64 1, .string ⟨#[]⟩, .int .i64 7, .bool false] 41)).cell? ⟨w.heap.size, 8, none⟩ = some (.slice none 0 0) := (blk_cell H1d.out 8).trans rfl
  have u9 : (w6.alloc (.cells #[.string ⟨#[100, 117, 114]⟩, .int .i64 5, .int .i64 1, .string ⟨#[]⟩, .int .i64 7, .bool false] 41)).cell? ⟨w.heap.size, 9, none⟩ = some (.slice none 0 0) := (blk_cell H1d.out 9).trans rfl
  have u10 : (w6.alloc (.cells #[.string ⟨#[100, 117, 114]⟩, .int .i64 5, .int .i64 1, .string ⟨#[]⟩, .int .i64 7, .bool false] 41)).cell? ⟨w.heap.size, 10, none⟩ = some (.slice none 0 0) := (blk_cell H1d.out 10).trans rfl
  go_wp2_with fail
  refine (all_calls (l := [spA]) (ts := [tA]) (m := fun _ => true) (fun s hs => ?_) HT.out (by decide) (by decide) HS.out (by decide) (by decide)).mono ?_
  · rw [List.mem_singleton] at hs
    subst hs
    refine ⟨sA, isA _, fun _ => true, fun t ht => ?_, rfl⟩
    rw [List.mem_singleton] at ht
    subst ht
    exact ⟨5, hold_tA⟩
  rintro e w7 ⟨v7, ys, rfl, hR7, hst, hln7, hb7⟩
  obtain ⟨A7, c7, rfl⟩ := Kd.R_slice hR7
  have hl : ys = [spA] := Stb.unique (swo_cfK 0) hst ⟨List.pairwise_singleton _ _, Kp.refl _ _⟩
  subst hl
  have HB7 := Lib.hid (below_step HBd.out hb7)
  clear hR7 hb7 hln7
  go_wp2
  go_ret
  exact ⟨rfl, HB7.out⟩
end Go.Proofs.Ytffggkhahambhaa.Tr

namespace Go.Proofs.Ytffggkhahambhaa.Glob
open Go.RowKit Go.Proofs.YtffggkhahambhaaW.PrintWords Go.Proofs.YtffggkhahambhaaW.PrintLast Go.Proofs.YtffggkhahambhaaW.PrintMore Go.Proofs.Ytffggkhahambhaa.Math
open Go.Proofs.Ytffggkhahambhaa.PAll Go.Proofs.Ytffggkhahambhaa.Runes Go.Proofs.Ytffggkhahambhaa.Text
set_option linter.unusedVariables false
set_option linter.unusedSimpArgs false
def lit (x : S94) (c : Int) : Prop := x.f1 = true ∨ x.f0 = c
/-- A row of signs stands for a row of runes. -/
def gm : List S94 → List Int → Prop
  | [], t => t = []
  | x :: ps, t => if x.f2 = true then ∃ j, j ≤ t.length ∧ gm ps (t.drop j) else ∃ c t', t = c :: t' ∧ lit x c ∧ gm ps t'
theorem gm_many {x : S94} (h : x.f2 = true) (ps : List S94) (t : List Int) : gm (x :: ps) t ↔ ∃ j, j ≤ t.length ∧ gm ps (t.drop j) := by
  rw [gm, if_pos h]
theorem gm_lit {x : S94} (h : x.f2 = false) (ps : List S94) (t : List Int) : gm (x :: ps) t ↔ ∃ c t', t = c :: t' ∧ lit x c ∧ gm ps t' := by
  rw [gm, if_neg (by rw [h]; exact Bool.false_ne_true)]
theorem drop_g {p : List S94} {i : Nat} (h : i < p.length) : p.drop i = p.getD i z94 :: p.drop (i + 1) := by
  rw [List.drop_eq_getElem_cons h, List.getD_eq_getElem?_getD, List.getElem?_eq_getElem h]
  rfl
theorem drop_t {t : List Int} {k : Nat} (h : k < t.length) : t.drop k = t.getD k 0 :: t.drop (k + 1) := by
  rw [List.drop_eq_getElem_cons h, List.getD_eq_getElem?_getD, List.getElem?_eq_getElem h]
  rfl
/-- A row of signs none of which is a star takes one rune each. -/
theorem seg (p : List S94) (a : Nat) : ∀ (m : Nat), a + m ≤ p.length → (∀ x, a ≤ x → x < a + m → (p.getD x z94).f2 = false) → ∀ u, gm (p.drop a) u → m ≤ u.length ∧ gm (p.drop (a + m)) (u.drop m) := by
  intro m
  induction m with
  | zero => intro _ _ u h; exact ⟨Nat.zero_le _, h⟩
  | succ m ih =>
    intro h hn u hu
    obtain ⟨h1, h2⟩ := ih (by omega) (fun x hx hx2 => hn x hx (by omega)) u hu
    rw [drop_g (by omega : a + m < p.length), gm_lit (hn (a + m) (by omega) (by omega))] at h2
    obtain ⟨c, t', e, _, h3⟩ := h2
    have hl := congrArg List.length e
    rw [List.length_drop, List.length_cons] at hl
    have hlt : m < u.length := by omega
    rw [drop_t hlt, List.cons.injEq] at e
    refine ⟨by omega, ?_⟩
    rw [e.2]
    exact h3
def Inv (p : List S94) (t : List Int) (G : Prop) (i k a b : Nat) : Prop :=
  i ≤ p.length ∧ k ≤ t.length ∧ a ≤ i ∧ k = b + (i - a) ∧ (∀ x, a ≤ x → x < i → (p.getD x z94).f2 = false) ∧
  (G ↔ gm (p.drop i) (t.drop k) ∨ (1 ≤ a ∧ ∃ j, b < j ∧ j ≤ t.length ∧ gm (p.drop a) (t.drop j)))
theorem inv_star {p : List S94} {t : List Int} {G : Prop} {i k a b : Nat} (h : Inv p t G i k a b) (hi : i < p.length) (hs : (p.getD i z94).f2 = true) : Inv p t G (i + 1) k (i + 1) k := by
  obtain ⟨h1, h2, h3, h4, h5, h6⟩ := h
  have ea : a + (i - a) = i := Nat.add_sub_cancel' h3
  refine ⟨by omega, h2, Nat.le_refl _, by omega, fun x _ _ => by omega, ?_⟩
  have key : gm (p.drop i) (t.drop k) ↔ ∃ j, k ≤ j ∧ j ≤ t.length ∧ gm (p.drop (i + 1)) (t.drop j) := by
    rw [drop_g hi, gm_many hs]
    constructor
    · rintro ⟨j, hj, hg⟩
      rw [List.length_drop] at hj
      rw [List.drop_drop] at hg
      exact ⟨k + j, by omega, by omega, hg⟩
    · rintro ⟨j, hj, hj2, hg⟩
      refine ⟨j - k, by rw [List.length_drop]; omega, ?_⟩
      rw [List.drop_drop, show k + (j - k) = j by omega]
      exact hg
  have new : (gm (p.drop (i + 1)) (t.drop k) ∨ (1 ≤ i + 1 ∧ ∃ j, k < j ∧ j ≤ t.length ∧ gm (p.drop (i + 1)) (t.drop j))) ↔ ∃ j, k ≤ j ∧ j ≤ t.length ∧ gm (p.drop (i + 1)) (t.drop j) := by
    constructor
    · rintro (hg | ⟨_, j, hj, hj2, hg⟩)
      · exact ⟨k, Nat.le_refl _, h2, hg⟩
      · exact ⟨j, by omega, hj2, hg⟩
    · rintro ⟨j, hj, hj2, hg⟩
      by_cases e : j = k
      · subst e; exact .inl hg
      · exact .inr ⟨by omega, j, by omega, hj2, hg⟩
  rw [h6, new]
  constructor
  · rintro (hg | ⟨ha, j, hj, hj2, hg⟩)
    · exact key.mp hg
    · obtain ⟨s1, s2⟩ := seg p a (i - a) (ea.symm ▸ h1) (fun x hx hx2 => h5 x hx (ea ▸ hx2)) _ hg
      rw [List.length_drop] at s1
      rw [ea, List.drop_drop, drop_g hi, gm_many hs] at s2
      obtain ⟨j2, hj3, hg2⟩ := s2
      rw [List.length_drop] at hj3
      rw [List.drop_drop] at hg2
      exact ⟨j + (i - a) + j2, by omega, by omega, hg2⟩
  · intro hg
    exact .inl (key.mpr hg)
theorem inv_lit {p : List S94} {t : List Int} {G : Prop} {i k a b : Nat} (h : Inv p t G i k a b) (hi : i < p.length) (hk : k < t.length) (hs : (p.getD i z94).f2 = false) (hl : lit (p.getD i z94) (t.getD k 0)) :
    Inv p t G (i + 1) (k + 1) a b := by
  obtain ⟨h1, h2, h3, h4, h5, h6⟩ := h
  refine ⟨by omega, by omega, by omega, by omega, ?_, ?_⟩
  · intro x hx hx2
    by_cases e : x = i
    · subst e; exact hs
    · exact h5 x hx (by omega)
  · have key : gm (p.drop i) (t.drop k) ↔ gm (p.drop (i + 1)) (t.drop (k + 1)) := by
      rw [drop_g hi, gm_lit hs, drop_t hk]
      constructor
      · rintro ⟨c, t', e, _, hg⟩
        rw [List.cons.injEq] at e
        rw [e.2]; exact hg
      · intro hg
        exact ⟨_, _, rfl, hl, hg⟩
    rw [h6, key]
theorem no_here {p : List S94} {t : List Int} {i k : Nat} (hk : k < t.length) (hn : i = p.length ∨ (i < p.length ∧ (p.getD i z94).f2 = false ∧ ¬ lit (p.getD i z94) (t.getD k 0))) : ¬ gm (p.drop i) (t.drop k) := by
  rcases hn with rfl | ⟨hi, hs, hl⟩
  · rw [List.drop_length, drop_t hk]
    intro h
    rw [gm] at h
    cases h
  · rw [drop_g hi, gm_lit hs, drop_t hk]
    rintro ⟨c, t', e, hl2, _⟩
    rw [List.cons.injEq] at e
    exact hl (e.1 ▸ hl2)
theorem inv_back {p : List S94} {t : List Int} {G : Prop} {i k a b : Nat} (h : Inv p t G i k a b) (hk : k < t.length) (ha : 1 ≤ a)
    (hn : i = p.length ∨ (i < p.length ∧ (p.getD i z94).f2 = false ∧ ¬ lit (p.getD i z94) (t.getD k 0))) : Inv p t G a (b + 1) a (b + 1) := by
  obtain ⟨h1, h2, h3, h4, h5, h6⟩ := h
  refine ⟨by omega, by omega, Nat.le_refl _, by omega, fun x _ _ => by omega, ?_⟩
  rw [h6]
  constructor
  · rintro (hg | ⟨_, j, hj, hj2, hg⟩)
    · exact absurd hg (no_here hk hn)
    · by_cases e : j = b + 1
      · subst e; exact .inl hg
      · exact .inr ⟨ha, j, by omega, hj2, hg⟩
  · rintro (hg | ⟨_, j, hj, hj2, hg⟩)
    · exact .inr ⟨ha, b + 1, by omega, by omega, hg⟩
    · exact .inr ⟨ha, j, by omega, hj2, hg⟩
theorem inv_fail {p : List S94} {t : List Int} {G : Prop} {i k b : Nat} (h : Inv p t G i k 0 b) (hk : k < t.length)
    (hn : i = p.length ∨ (i < p.length ∧ (p.getD i z94).f2 = false ∧ ¬ lit (p.getD i z94) (t.getD k 0))) : ¬ G := by
  obtain ⟨h1, h2, h3, h4, h5, h6⟩ := h
  rw [h6]
  rintro (hg | ⟨h0, _⟩)
  · exact no_here hk hn hg
  · omega
theorem inv_end {p : List S94} {t : List Int} {G : Prop} {i a b : Nat} (h : Inv p t G i t.length a b) : G ↔ gm (p.drop i) [] := by
  obtain ⟨h1, h2, h3, h4, h5, h6⟩ := h
  rw [h6, List.drop_length]
  constructor
  · rintro (hg | ⟨_, j, hj, hj2, hg⟩)
    · exact hg
    · obtain ⟨s1, s2⟩ := seg p a (i - a) (by omega) (fun x hx hx2 => h5 x hx (by omega)) _ hg
      rw [List.length_drop] at s1
      omega
  · exact .inl
theorem inv_start (p : List S94) (t : List Int) : Inv p t (gm p t) 0 0 0 0 := by
  refine ⟨Nat.zero_le _, Nat.zero_le _, Nat.le_refl _, rfl, fun x _ hx => by omega, ?_⟩
  rw [List.drop_zero, List.drop_zero]
  constructor
  · exact .inl
  · rintro (h | ⟨h, _⟩)
    · exact h
    · omega
theorem rdT_nat (p : List S94) (i : Nat) : rd_T94 p (i : Int) = p.getD i z94 := rfl
theorem rd_nat (t : List Int) (i : Nat) : rd t (i : Int) = t.getD i 0 := rfl
theorem wsucc (i : Nat) (h : i ≤ 1000000) : wrap64 ((i : Int) + 1) = ((i + 1 : Nat) : Int) := by unfold wrap64; omega
theorem ends_l1 (p : List S94) (hp : p.length ≤ 1000000) (d : Nat) : ∀ (f i : Nat), p.length - i ≤ d → i ≤ p.length → d < f → ∃ r, text_Match.l1 f p (i : Int) = some r ∧ (r = true ↔ gm (p.drop i) []) := by
  have hend : ∀ (f i : Nat), i = p.length → ∃ r, text_Match.l1 (f + 1) p (i : Int) = some r ∧ (r = true ↔ gm (p.drop i) []) := by
    intro f i h
    refine ⟨true, ?_, ?_⟩
    · rw [text_Match.l1, if_neg (by omega), h, beq_self_eq_true]
    · rw [h, List.drop_length, gm]
      exact ⟨fun _ => rfl, fun _ => rfl⟩
  induction d with
  | zero =>
    intro f i h hi hf
    obtain ⟨f, rfl⟩ : ∃ j, f = j + 1 := ⟨f - 1, by omega⟩
    exact hend f i (by omega)
  | succ d ih =>
    intro f i h hi hf
    obtain ⟨f, rfl⟩ : ∃ j, f = j + 1 := ⟨f - 1, by omega⟩
    by_cases hlt : i < p.length
    · rw [text_Match.l1, if_pos (by omega), if_pos (by omega), rdT_nat]
      cases hs : (p.getD i z94).f2 with
      | true =>
        rw [if_pos rfl, wsucc i (by omega)]
        obtain ⟨r, e1, e2⟩ := ih f (i + 1) (by omega) (by omega) (by omega)
        refine ⟨r, e1, e2.trans ?_⟩
        rw [drop_g hlt, gm_many hs]
        constructor
        · intro hg; exact ⟨0, Nat.le_refl _, hg⟩
        · rintro ⟨j, _, hg⟩
          rw [List.drop_nil] at hg
          exact hg
      | false =>
        rw [if_neg Bool.false_ne_true]
        refine ⟨_, rfl, ?_⟩
        rw [drop_g hlt, gm_lit hs, beq_iff_eq]
        constructor
        · intro hg; omega
        · rintro ⟨c, t', e, _⟩
          cases e
    · exact hend f i (by omega)
theorem mu_back (n m b : Nat) (h : b < m) : (m - b) * (m + n + 2) = (m - (b + 1)) * (m + n + 2) + (m + n + 2) := by
  rw [show m - b = m - (b + 1) + 1 by omega, Nat.succ_mul]
theorem match_l0 (p : List S94) (t : List Int) (G : Prop) (hp : p.length ≤ 1000000) (ht : t.length ≤ 1000000) (d : Nat) : ∀ (f i k a b : Nat), Inv p t G i k a b →
    (t.length - b) * (t.length + p.length + 2) + (p.length - i) + (t.length - k) ≤ d → 3 * d + p.length + 10 < f →
    ∃ r, text_Match.l0 f p t (i : Int) (k : Int) ((a : Int) - 1) (b : Int) = some r ∧ (r = true ↔ G) := by
  have hend : ∀ (f i k a b : Nat), Inv p t G i k a b → ¬ k < t.length → p.length + 10 < f + 1 → ∃ r, text_Match.l0 (f + 1) p t (i : Int) (k : Int) ((a : Int) - 1) (b : Int) = some r ∧ (r = true ↔ G) := by
    intro f i k a b hI hk hf
    have hke : k = t.length := by have := hI.2.1; omega
    obtain ⟨r, e1, e2⟩ := ends_l1 p hp p.length f i (by omega) hI.1 (by omega)
    refine ⟨r, ?_, ?_⟩
    · rw [text_Match.l0, if_neg (by omega)]
      exact e1
    · rw [hke] at hI
      rw [inv_end hI]
      exact e2
  induction d with
  | zero =>
    intro f i k a b hI hd hf
    obtain ⟨f, rfl⟩ : ∃ j, f = j + 1 := ⟨f - 1, by omega⟩
    exact hend f i k a b hI (by have := hI.2.1; omega) (by omega)
  | succ d ih =>
    intro f i k a b hI hd hf
    by_cases hk : k < t.length
    · obtain ⟨f, rfl⟩ : ∃ j, f = j + 1 + 1 + 1 := ⟨f - 3, by omega⟩
      have h1 := hI.1
      have h3 := hI.2.2.1
      have h4 := hI.2.2.2.1
      -- the third step: a sign that stands for the rune, or none
      have hj2t : i < p.length → (p.getD i z94).f2 = false → lit (p.getD i z94) (t.getD k 0) → ∃ r, text_Match.j2 (f + 1) p t (i : Int) (k : Int) ((a : Int) - 1) (b : Int) true = some r ∧ (r = true ↔ G) := by
        intro hi hs hl
        rw [text_Match.j2, if_pos rfl, wsucc i (by omega), wsucc k (by omega)]
        exact ih f (i + 1) (k + 1) a b (inv_lit hI hi hk hs hl) (by omega) (by omega)
      have hj2f : (i = p.length ∨ (i < p.length ∧ (p.getD i z94).f2 = false ∧ ¬ lit (p.getD i z94) (t.getD k 0))) → ∃ r, text_Match.j2 (f + 1) p t (i : Int) (k : Int) ((a : Int) - 1) (b : Int) false = some r ∧ (r = true ↔ G) := by
        intro hn
        rw [text_Match.j2, if_neg Bool.false_ne_true]
        by_cases ha : 1 ≤ a
        · have e : wrap64 ((a : Int) - 1 + 1) = (a : Int) := by rw [Int.sub_add_cancel]; unfold wrap64; omega
          rw [if_pos (by omega), e, wsucc b (by omega)]
          have hm := mu_back p.length t.length b (by omega)
          refine ih f a (b + 1) a (b + 1) (inv_back hI hk ha hn) ?_ (by omega)
          generalize (t.length - b) * (t.length + p.length + 2) = X at *
          generalize (t.length - (b + 1)) * (t.length + p.length + 2) = Y at *
          omega
        · rw [if_neg (by omega)]
          have ha0 : a = 0 := by omega
          subst ha0
          exact ⟨false, rfl, ⟨fun h => (by cases h), fun h => absurd h (inv_fail hI hk hn)⟩⟩
      rw [text_Match.l0, if_pos (by omega)]
      by_cases hi : i < p.length
      · rw [if_pos (by omega), if_pos (by omega), rdT_nat]
        cases hs : (p.getD i z94).f2 with
        | true =>
          rw [text_Match.j1, if_pos rfl, wsucc i (by omega)]
          have hI2 := inv_star hI hi hs
          have hle : (t.length - k) * (t.length + p.length + 2) ≤ (t.length - b) * (t.length + p.length + 2) := Nat.mul_le_mul_right _ (by omega)
          have := ih (f + 1) (i + 1) k (i + 1) k hI2 (by
            generalize (t.length - b) * (t.length + p.length + 2) = X at *
            generalize (t.length - k) * (t.length + p.length + 2) = Y at *
            omega) (by omega)
          rw [show (((i + 1 : Nat) : Int) - 1) = (i : Int) by omega] at this
          exact this
        | false =>
          rw [text_Match.j1, if_neg Bool.false_ne_true, if_pos (by omega), if_pos (by omega), rdT_nat]
          by_cases hany : (p.getD i z94).f1 = true
          · rw [if_pos hany]
            exact hj2t hi hs (.inl hany)
          · rw [if_neg hany, if_pos (by omega), if_pos (by omega), rd_nat]
            by_cases he : (p.getD i z94).f0 = t.getD k 0
            · rw [beq_iff_eq.mpr he]
              exact hj2t hi hs (.inr he)
            · rw [beq_eq_false_iff_ne.mpr he]
              exact hj2f (.inr ⟨hi, hs, fun hl => hl.elim hany he⟩)
      · rw [if_neg (by omega), text_Match.j1, if_neg Bool.false_ne_true, if_neg (by omega)]
        exact hj2f (.inl (by omega))
    · obtain ⟨f, rfl⟩ : ∃ j, f = j + 1 := ⟨f - 1, by omega⟩
      exact hend f i k a b hI hk (by omega)
/-- What text.Match tells. -/
theorem match_is (f : Nat) (a0 a1 : ByteArray) (h0 : a0.size ≤ 700) (h1 : a1.size ≤ 700) (hp : (signsL false (runesI a0)).length ≤ 701) (ht : (runesI a1).length ≤ 700) (hf : 3000000 ≤ f) :
    ∃ r, text_Match.f f a0 a1 = some r ∧ (r = true ↔ gm (signsL false (runesI a0)) (runesI a1)) := by
  have e0 : text_signs.f a0 = some (signsL false (runesI a0)) := by unfold text_signs.f; rw [if_pos (by omega)]
  have e1 : text_runes.f a1 = some (runesI a1) := by unfold text_runes.f; rw [if_pos (by omega)]
  unfold text_Match.f
  rw [e0, Option.bind_some, e1, Option.bind_some]
  have hm : (runesI a1).length * ((runesI a1).length + (signsL false (runesI a0)).length + 2) ≤ 700 * 1403 := Nat.mul_le_mul ht (by omega)
  have := match_l0 _ _ _ (by omega) (by omega) 985000 f 0 0 0 0 (inv_start (signsL false (runesI a0)) (runesI a1)) (by simp only [Nat.sub_zero]; omega) (by omega)
  exact this
end Go.Proofs.Ytffggkhahambhaa.Glob

namespace Go.Proofs.Ytffggkhahambhaa.Tr
open Go.RowKit Go.Proofs.YtffggkhahambhaaW.PrintWords Go.Proofs.YtffggkhahambhaaW.PrintLast Go.Proofs.YtffggkhahambhaaW.PrintMore Go.Proofs.Ytffggkhahambhaa.Math Go.Proofs.Ytffggkhahambhaa.PAll Go.Proofs.Ytffggkhahambhaa.Span Go.Proofs.Ytffggkhahambhaa.Runes Go.Proofs.Ytffggkhahambhaa.Text Go.Proofs.Ytffggkhahambhaa.Glob
set_option linter.unusedVariables false
set_option linter.unusedSimpArgs false
theorem runes_short (s : ByteArray) (n : Nat) (h : s.size ≤ n) : (runesI s).length ≤ n := by
  have := from_len s s.size 0 (by omega)
  unfold runesI
  rw [List.length_map]
  omega
theorem signsL_len : ∀ (l : List Int) (b : Bool), (signsL b l).length ≤ l.length + 1 := by
  intro l
  induction l with
  | nil => intro b; cases b <;> rw [signsL] <;> simp
  | cons r t ih =>
    intro b
    cases b with
    | true => rw [signsL, List.length_cons, List.length_cons]; have := ih false; omega
    | false =>
      have hf := ih false
      have ht := ih true
      rw [signsL]
      split
      · rw [List.length_cons]; omega
      · split
        · rw [List.length_cons, List.length_cons]; omega
        · split <;> (rw [List.length_cons, List.length_cons]; omega)
theorem match_tot (k : Nat) (p s : ByteArray) (hp : p.size ≤ 700) (hs : s.size ≤ 700) (hk : 3000000 ≤ k) : ∃ r, text_Match.f k p s = some r ∧ (r = true ↔ gm (signsL false (runesI p)) (runesI s)) :=
  match_is k p s hp hs (by have := signsL_len (runesI p) false; have := runes_short p 700 hp; omega) (runes_short s 700 hs) hk
theorem rel_tot (a n : Int) : ∃ b, filter_holds.f a n = some b := by
  unfold filter_holds.f
  repeat' split
  all_goals exact ⟨_, rfl⟩
theorem trim_tot (a p : ByteArray) : ∃ r, strings_TrimPrefix.f a p = some r := by
  unfold strings_TrimPrefix.f stringslite_TrimPrefix.f stringslite_HasPrefix.f
  by_cases h : (a.size : Int) ≥ (p.size : Int)
  · rw [if_pos h, if_pos (by omega), if_pos (by omega), Option.bind_some]
    split
    · exact ⟨_, rfl⟩
    · exact ⟨_, rfl⟩
  · rw [if_neg h, Option.bind_some, if_neg (by decide)]; exact ⟨_, rfl⟩
/-- The attribute of a name. -/
def attrV (nm : ByteArray) : List S45 → Int × ByteArray × Int × Bool × Bool
  | [] => (0, ⟨#[]⟩, 0, false, false)
  | a :: l => if a.f0 = nm then (a.f1.f0, a.f1.f1, a.f1.f2, a.f1.f3, true) else attrV nm l
theorem toList_inj {a b : ByteArray} : a.toList = b.toList ↔ a = b := by
  refine ⟨fun h => ?_, fun h => by rw [h]⟩
  rw [ByteArray.toList_eq, ByteArray.toList_eq] at h
  exact ByteArray.ext (Array.toList_inj.1 h)
theorem attr_l0 (nm : ByteArray) (A : List S45) (hA : A.length ≤ 140737488351232) (n : Nat) : ∀ (k i : Nat), A.length - i = n → i ≤ A.length → n < k → span_Attr.l0 k nm A (A.length : Int) (i : Int) = some (attrV nm (A.drop i)) := by
  induction n with
  | zero =>
    intro k i h hi hk
    obtain ⟨k, rfl⟩ : ∃ j, k = j + 1 := ⟨k - 1, by omega⟩
    rw [span_Attr.l0, if_neg (by omega), List.drop_eq_nil_of_le (by omega), attrV]
  | succ n ih =>
    intro k i h hi hk
    obtain ⟨k, rfl⟩ : ∃ j, k = j + 1 := ⟨k - 1, by omega⟩
    have hlt : i < A.length := by omega
    have hx : rd_T45 A (i : Int) = A[i] := by
      show A.getD i z45 = A[i]
      rw [List.getD_eq_getElem?_getD, List.getElem?_eq_getElem hlt]
      rfl
    rw [span_Attr.l0, if_pos (by omega), if_pos (by omega), if_pos (by omega), hx, List.drop_eq_getElem_cons hlt, attrV]
    have hw : wrap64 ((i : Int) + 1) = ((i + 1 : Nat) : Int) := by unfold wrap64; omega
    by_cases he : A[i].f0 = nm
    · rw [if_pos he, if_pos (toList_inj.2 he)]
    · rw [if_neg he, if_neg (fun h => he (toList_inj.1 h)), hw, ih k (i + 1) (by omega) (by omega) (by omega)]
theorem attrV_size (nm : ByteArray) (n : Nat) : ∀ (A : List S45), (∀ a ∈ A, a.f1.f1.size ≤ n) → (attrV nm A).2.1.size ≤ n
  | [], _ => by simp [attrV]; exact Nat.zero_le _
  | a :: l, h => by
    unfold attrV
    split
    · exact h a (by simp)
    · exact attrV_size nm n l (fun b hb => h b (by simp [hb]))
theorem value_tot (k : Nat) (f : ByteArray) (x : S34) (hk : x.f8.length < k) (hA : x.f8.length ≤ 140737488351232) (h3 : x.f3.size ≤ 700) (h4 : x.f4.size ≤ 700) (h8 : ∀ a ∈ x.f8, a.f1.f1.size ≤ 700) :
    ∃ v, filter_value.f k f x.f0 x.f1 x.f2 x.f3 x.f4 x.f5 x.f6 x.f7 x.f8 x.f9 x.f10 = some v ∧ v.2.1.size ≤ 700 := by
  unfold filter_value.f
  by_cases c1 : f.toList = ([115, 101, 114, 118, 105, 99, 101] : List UInt8)
  · rw [if_pos c1]; exact ⟨_, rfl, h3⟩
  · rw [if_neg c1]
    by_cases c2 : f.toList = ([111, 112] : List UInt8)
    · rw [if_pos c2]; exact ⟨_, rfl, h4⟩
    · rw [if_neg c2]
      obtain ⟨nm, hnm⟩ := trim_tot f ⟨#[64]⟩
      have ha : span_Attr.f k x.f0 x.f1 x.f2 x.f3 x.f4 x.f5 x.f6 x.f7 x.f8 x.f9 x.f10 nm = some (attrV nm x.f8) := attr_l0 nm x.f8 hA x.f8.length k 0 (by omega) (by omega) hk
      rw [hnm, Option.bind_some, ha, Option.bind_some]
      exact ⟨_, rfl, attrV_size nm 700 x.f8 h8⟩
theorem holdF_tot (t : S41) (x : S34) (ht : t.f2.f1.size ≤ 700) (hA : x.f8.length ≤ 140737488351232) (h3 : x.f3.size ≤ 700) (h4 : x.f4.size ≤ 700) (h8 : ∀ a ∈ x.f8, a.f1.f1.size ≤ 700) : ∃ k b, holdF k t x = some b := by
  refine ⟨3000000 + x.f8.length, ?_⟩
  unfold holdF
  cases numI x.f0 x.f1 x.f2 x.f5 x.f6 x.f7 t.f0 with
  | some n => exact rel_tot _ _
  | none =>
    obtain ⟨v, hv, hs⟩ := value_tot (3000000 + x.f8.length) t.f0 x (by omega) hA h3 h4 h8
    show ∃ b, (filter_value.f _ _ _ _ _ _ _ _ _ _ _ _ _).bind _ = some b
    rw [hv, Option.bind_some]
    unfold holdV
    split
    · exact ⟨_, rfl⟩
    · split
      · split
        · obtain ⟨r, hr, _⟩ := match_tot (3000000 + x.f8.length) t.f2.f1 v.2.1 ht hs (by omega)
          exact ⟨r, hr⟩
        · exact ⟨_, rfl⟩
      · split
        · exact rel_tot _ _
        · exact ⟨_, rfl⟩
end Go.Proofs.Ytffggkhahambhaa.Tr

namespace Go.Proofs.Ytffggkhahambhaa.Runes
open Go.RowKit Go.Proofs.Ytffggkhahambhaa.PAll Go.Proofs.YtffggkhahambhaaW.PrintWords Go.Proofs.YtffggkhahambhaaW.PrintLast Go.Proofs.YtffggkhahambhaaW.PrintMore Go.Proofs.Ytffggkhahambhaa.Math
set_option linter.unusedVariables false

theorem bt_nb (s : ByteArray) (i : Nat) (h : i < s.size) : bt s (i : Int) = (nb s i : Int) := by
  unfold bt nb
  rw [dif_pos (by simpa using h)]
  simp only [Int.toNat_natCast]
  rw [ByteArray.get!, getElem!_pos s.data i h]
  rfl

theorem tdiv64 {x : Int} (h : 0 ≤ x) (h1 : x < 256) : Int.tdiv x 64 % 256 = x / 64 := by rw [Int.tdiv_eq_ediv_of_nonneg h]; omega
theorem l0_step (k : Nat) (t : ByteArray) (n : Nat) (v least : Int) (i : Nat) (hi : i < n) (hsz : n ≤ t.size) (hn : n ≤ 4) (h0 : 0 ≤ v) (h1 : v ≤ 16777216) :
    cambiumref02_Rune.l0 (k + 1) t (n : Int) v least (i : Int) = if nb t i / 64 = 2 then cambiumref02_Rune.l0 k t (n : Int) (v * 64 + ((nb t i % 64 : Nat) : Int)) least ((i + 1 : Nat) : Int) else some (65533, 1) := by
  have hb := nb_lt t i
  rw [cambiumref02_Rune.l0, if_pos (by omega), if_pos (by omega), if_pos (by omega), bt_nb t i (by omega), tdiv64 (by omega) (by omega), wrap_id (x := (nb t i : Int)) (by omega) (by omega), Int.tmod_eq_emod_of_nonneg (by omega), wrap_id (x := v * 64) (by omega) (by omega), wrap_id (x := (i : Int) + 1) (by omega) (by omega), wrap_id (by omega) (by omega)]
  by_cases h : nb t i / 64 = 2
  · rw [if_pos (by omega), if_pos h]; congr 1
  · rw [if_neg (by omega), if_neg h]
def okRune (v least : Int) : Bool := decide (least ≤ v ∧ v ≤ 1114111 ∧ ¬ (55296 ≤ v ∧ v < 57344))
theorem l0_end (k : Nat) (t : ByteArray) (n : Nat) (v least : Int) : cambiumref02_Rune.l0 (k + 1) t (n : Int) v least (n : Int) = if okRune v least = true then some (v, (n : Int)) else some (65533, 1) := by
  rw [cambiumref02_Rune.l0, if_neg (by omega)]
  unfold okRune
  by_cases h1 : v < least
  · rw [if_pos h1, if_neg (by simp; omega)]
  · by_cases h2 : v > 1114111
    · rw [if_neg h1, if_pos h2, if_neg (by simp; omega)]
    · by_cases h3 : v ≥ 55296
      · by_cases h4 : v < 57344
        · rw [if_neg h1, if_neg h2, if_pos h3, if_pos h4, if_neg (by simp; omega)]
        · rw [if_neg h1, if_neg h2, if_pos h3, if_neg h4, if_pos (by simp; omega)]
      · rw [if_neg h1, if_neg h2, if_neg h3, if_pos (by simp; omega)]
theorem j3_eq (k : Nat) (t : ByteArray) (n : Nat) (v least : Int) : cambiumref02_Rune.j3 (k + 1) t (n : Int) v least = if t.size < n then some (65533, 1) else cambiumref02_Rune.l0 k t (n : Int) v least 1 := by
  rw [cambiumref02_Rune.j3]
  by_cases h : t.size < n
  · rw [if_pos (by omega), if_pos h]
  · rw [if_neg (by omega), if_neg h]

theorem rune_byte (k : Nat) (t : ByteArray) (h0 : 0 < t.size) : cambiumref02_Rune.f (k + 12) t =
    (if nb t 0 < 128 then some ((nb t 0 : Int), 1)
     else if nb t 0 < 194 ∨ 245 ≤ nb t 0 then some (65533, 1)
     else if nb t 0 < 224 then cambiumref02_Rune.j3 (k + 11) t ((2 : Nat) : Int) ((nb t 0 % 32 : Nat) : Int) 128
     else if nb t 0 < 240 then cambiumref02_Rune.j3 (k + 10) t ((3 : Nat) : Int) ((nb t 0 % 16 : Nat) : Int) 2048
     else cambiumref02_Rune.j3 (k + 9) t ((4 : Nat) : Int) ((nb t 0 % 8 : Nat) : Int) 65536) := by
  have hb := nb_lt t 0
  have hbt := bt_nb t 0 h0
  rw [show ((0 : Nat) : Int) = 0 from rfl] at hbt
  unfold cambiumref02_Rune.f
  rw [if_pos (by omega), hbt, wrap_id (by omega) (by omega)]
  generalize hc : nb t 0 = c at *
  have m32 : Int.tmod (c : Int) 32 = ((c % 32 : Nat) : Int) := by rw [Int.tmod_eq_emod_of_nonneg (by omega)]; omega
  have m16 : Int.tmod (c : Int) 16 = ((c % 16 : Nat) : Int) := by rw [Int.tmod_eq_emod_of_nonneg (by omega)]; omega
  have m8 : Int.tmod (c : Int) 8 = ((c % 8 : Nat) : Int) := by rw [Int.tmod_eq_emod_of_nonneg (by omega)]; omega
  by_cases h1 : c < 128
  · rw [if_neg (by omega), if_pos h1, cambiumref02_Rune.j0, if_neg (by simp), if_neg (by omega), cambiumref02_Rune.j1, if_neg (by simp), if_neg (by omega), cambiumref02_Rune.j2, if_neg (by simp), if_neg (by omega)]
    have e := j3_eq (k + 8) t 1 (c : Int) 0
    rw [show ((1 : Nat) : Int) = 1 from rfl] at e
    rw [e, if_neg (by omega)]
    have e2 := l0_end (k + 7) t 1 (c : Int) 0
    rw [show ((1 : Nat) : Int) = 1 from rfl] at e2
    rw [e2, if_pos (by unfold okRune; simp; omega)]
  rw [if_neg h1]
  by_cases h2 : c < 194
  · rw [if_neg (show ¬ (c : Int) ≥ 194 by omega), if_pos (show c < 194 ∨ 245 ≤ c from .inl h2), cambiumref02_Rune.j0, if_neg (by simp), if_neg (by omega), cambiumref02_Rune.j1, if_neg (by simp), if_neg (by omega), cambiumref02_Rune.j2, if_neg (by simp), if_pos (by omega)]
  rw [if_pos (show (c : Int) ≥ 194 by omega)]
  by_cases h3 : c < 224
  · rw [if_neg (show ¬ (c < 194 ∨ 245 ≤ c) by omega), if_pos h3, cambiumref02_Rune.j0, if_pos (by simpa using (by omega : (c : Int) < 224)), m32]; rfl
  rw [cambiumref02_Rune.j0, if_neg (show ¬ decide ((c : Int) < 224) = true by simp; omega), if_pos (show (c : Int) ≥ 224 by omega)]
  by_cases h4 : c < 240
  · rw [if_neg (show ¬ (c < 194 ∨ 245 ≤ c) by omega), if_neg h3, if_pos h4, cambiumref02_Rune.j1, if_pos (by simpa using (by omega : (c : Int) < 240)), m16]; rfl
  rw [cambiumref02_Rune.j1, if_neg (show ¬ decide ((c : Int) < 240) = true by simp; omega), if_pos (show (c : Int) ≥ 240 by omega)]
  by_cases h5 : c < 245
  · rw [if_neg (show ¬ (c < 194 ∨ 245 ≤ c) by omega), if_neg h3, if_neg h4, cambiumref02_Rune.j2, if_pos (by simpa using (by omega : (c : Int) < 245)), m8]; rfl
  · rw [if_pos (show c < 194 ∨ 245 ≤ c by omega), cambiumref02_Rune.j2, if_neg (show ¬ decide ((c : Int) < 245) = true by simp; omega), if_pos (by omega)]

theorem rune_eq (k : Nat) (t : ByteArray) (h0 : 0 < t.size) (hk : 12 ≤ k) : cambiumref02_Rune.f k t = some (((Utf8.decode t 0).1 : Int), ((Utf8.decode t 0).2 : Int)) := by
  obtain ⟨k, rfl⟩ : ∃ m, k = m + 12 := ⟨k - 12, by omega⟩
  rw [rune_byte k t h0, Lib.decode_at]
  change _ = some (((Lib.decodeN (t.size - 0) (nb t 0) (nb t (0 + 1)) (nb t (0 + 2)) (nb t (0 + 3))).1 : Int), ((Lib.decodeN (t.size - 0) (nb t 0) (nb t (0 + 1)) (nb t (0 + 2)) (nb t (0 + 3))).2 : Int))
  rw [show t.size - 0 = t.size from rfl, show 0 + 1 = 1 from rfl, show 0 + 2 = 2 from rfl, show 0 + 3 = 3 from rfl]
  have b0 := nb_lt t 0
  have b1 := nb_lt t 1
  have b2 := nb_lt t 2
  have b3 := nb_lt t 3
  have s1 := fun (kk n : Nat) (v least : Int) (hi : 1 < n) (hsz : n ≤ t.size) (hn : n ≤ 4) (h0 : 0 ≤ v) (h1 : v ≤ 16777216) => l0_step kk t n v least 1 hi hsz hn h0 h1
  have s2 := fun (kk n : Nat) (v least : Int) (hi : 2 < n) (hsz : n ≤ t.size) (hn : n ≤ 4) (h0 : 0 ≤ v) (h1 : v ≤ 16777216) => l0_step kk t n v least 2 hi hsz hn h0 h1
  have s3 := fun (kk n : Nat) (v least : Int) (hi : 3 < n) (hsz : n ≤ t.size) (hn : n ≤ 4) (h0 : 0 ≤ v) (h1 : v ≤ 16777216) => l0_step kk t n v least 3 hi hsz hn h0 h1
  have e2 := fun (kk : Nat) (v least : Int) => l0_end kk t 2 v least
  have e3 := fun (kk : Nat) (v least : Int) => l0_end kk t 3 v least
  have e4 := fun (kk : Nat) (v least : Int) => l0_end kk t 4 v least
  simp only [Int.natCast_one] at s1
  generalize nb t 0 = c0 at *
  generalize nb t 1 = c1 at *
  generalize nb t 2 = c2 at *
  generalize nb t 3 = c3 at *
  unfold Lib.decodeN
  by_cases h1 : c0 < 128
  · rw [if_pos h1, if_pos h1]; rfl
  rw [if_neg h1, if_neg h1]
  by_cases h2 : c0 < 194 ∨ 245 ≤ c0
  · rw [if_pos h2]
    by_cases g1 : c0 / 32 = 6 ∧ (1 < t.size ∧ c1 / 64 = 2)
    · rw [if_pos g1, if_neg (by omega)]; rfl
    rw [if_neg g1, if_neg (by omega)]
    by_cases g3 : c0 / 8 = 30 ∧ (1 < t.size ∧ c1 / 64 = 2) ∧ (2 < t.size ∧ c2 / 64 = 2) ∧ (3 < t.size ∧ c3 / 64 = 2)
    · rw [if_pos g3, if_neg (by omega)]; rfl
    · rw [if_neg g3]; rfl
  rw [if_neg h2]
  by_cases h3 : c0 < 224
  · rw [if_pos h3, j3_eq]
    by_cases g2 : t.size < 2
    · rw [if_pos g2, if_neg (by omega), if_neg (by omega), if_neg (by omega)]; rfl
    rw [if_neg g2, s1 _ 2 _ _ (by omega) (by omega) (by omega) (by omega) (by omega)]
    by_cases g1 : c1 / 64 = 2
    · rw [if_pos g1, show ((1 + 1 : Nat) : Int) = ((2 : Nat) : Int) from rfl, e2, if_pos (by unfold okRune; simp; omega), if_pos (show c0 / 32 = 6 ∧ (1 < t.size ∧ c1 / 64 = 2) from ⟨by omega, by omega, g1⟩), if_pos (by omega)]
      simp
    · rw [if_neg g1, if_neg (by omega), if_neg (by omega), if_neg (by omega)]; rfl
  rw [if_neg h3]
  by_cases h4 : c0 < 240
  · rw [if_pos h4, j3_eq]
    by_cases g0 : t.size < 3
    · rw [if_pos g0, if_neg (by omega), if_neg (by omega), if_neg (by omega)]; rfl
    rw [if_neg g0, s1 _ 3 _ _ (by omega) (by omega) (by omega) (by omega) (by omega)]
    by_cases g1 : c1 / 64 = 2
    · rw [if_pos g1]
      have := s2 (k + 7) 3 (((c0 % 16 : Nat) : Int) * 64 + ((c1 % 64 : Nat) : Int)) 2048 (by omega) (by omega) (by omega) (by omega) (by omega)
      rw [show ((1 + 1 : Nat) : Int) = ((2 : Nat) : Int) from rfl, this]
      by_cases g2 : c2 / 64 = 2
      · rw [if_pos g2, show ((2 + 1 : Nat) : Int) = ((3 : Nat) : Int) from rfl, e3]
        by_cases g3 : c0 % 16 * 4096 + c1 % 64 * 64 + c2 % 64 ≥ 2048 ∧ (c0 % 16 * 4096 + c1 % 64 * 64 + c2 % 64 < 55296 ∨ (57344 ≤ c0 % 16 * 4096 + c1 % 64 * 64 + c2 % 64 ∧ c0 % 16 * 4096 + c1 % 64 * 64 + c2 % 64 ≤ 1114111))
        · rw [if_pos (by unfold okRune; simp; omega), if_neg (by omega), if_pos (show c0 / 16 = 14 ∧ (1 < t.size ∧ c1 / 64 = 2) ∧ (2 < t.size ∧ c2 / 64 = 2) from ⟨by omega, ⟨by omega, g1⟩, by omega, g2⟩), if_pos g3]
          simp; omega
        · rw [if_neg (by unfold okRune; simp; omega), if_neg (by omega), if_pos (show c0 / 16 = 14 ∧ (1 < t.size ∧ c1 / 64 = 2) ∧ (2 < t.size ∧ c2 / 64 = 2) from ⟨by omega, ⟨by omega, g1⟩, by omega, g2⟩), if_neg g3]; rfl
      · rw [if_neg g2, if_neg (by omega), if_neg (by omega), if_neg (by omega)]; rfl
    · rw [if_neg g1, if_neg (by omega), if_neg (by omega), if_neg (by omega)]; rfl
  rw [if_neg h4, j3_eq]
  by_cases g0 : t.size < 4
  · rw [if_pos g0, if_neg (by omega), if_neg (by omega), if_neg (by omega)]; rfl
  rw [if_neg g0, s1 _ 4 _ _ (by omega) (by omega) (by omega) (by omega) (by omega)]
  by_cases g1 : c1 / 64 = 2
  · rw [if_pos g1]
    have := s2 (k + 6) 4 (((c0 % 8 : Nat) : Int) * 64 + ((c1 % 64 : Nat) : Int)) 65536 (by omega) (by omega) (by omega) (by omega) (by omega)
    rw [show ((1 + 1 : Nat) : Int) = ((2 : Nat) : Int) from rfl, this]
    by_cases g2 : c2 / 64 = 2
    · rw [if_pos g2]
      have := s3 (k + 5) 4 ((((c0 % 8 : Nat) : Int) * 64 + ((c1 % 64 : Nat) : Int)) * 64 + ((c2 % 64 : Nat) : Int)) 65536 (by omega) (by omega) (by omega) (by omega) (by omega)
      rw [show ((2 + 1 : Nat) : Int) = ((3 : Nat) : Int) from rfl, this]
      by_cases g3 : c3 / 64 = 2
      · rw [if_pos g3, show ((3 + 1 : Nat) : Int) = ((4 : Nat) : Int) from rfl, e4]
        by_cases g4 : c0 % 8 * 262144 + c1 % 64 * 4096 + c2 % 64 * 64 + c3 % 64 ≥ 65536 ∧ (c0 % 8 * 262144 + c1 % 64 * 4096 + c2 % 64 * 64 + c3 % 64 < 55296 ∨ (57344 ≤ c0 % 8 * 262144 + c1 % 64 * 4096 + c2 % 64 * 64 + c3 % 64 ∧ c0 % 8 * 262144 + c1 % 64 * 4096 + c2 % 64 * 64 + c3 % 64 ≤ 1114111))
        · rw [if_pos (by unfold okRune; simp; omega), if_neg (by omega), if_neg (by omega), if_pos (show c0 / 8 = 30 ∧ (1 < t.size ∧ c1 / 64 = 2) ∧ (2 < t.size ∧ c2 / 64 = 2) ∧ (3 < t.size ∧ c3 / 64 = 2) from ⟨by omega, ⟨by omega, g1⟩, ⟨by omega, g2⟩, by omega, g3⟩), if_pos g4]
          simp; omega
        · rw [if_neg (by unfold okRune; simp; omega), if_neg (by omega), if_neg (by omega), if_pos (show c0 / 8 = 30 ∧ (1 < t.size ∧ c1 / 64 = 2) ∧ (2 < t.size ∧ c2 / 64 = 2) ∧ (3 < t.size ∧ c3 / 64 = 2) from ⟨by omega, ⟨by omega, g1⟩, ⟨by omega, g2⟩, by omega, g3⟩), if_neg g4]; rfl
      · rw [if_neg g3, if_neg (by omega), if_neg (by omega), if_neg (by omega)]; rfl
    · rw [if_neg g2, if_neg (by omega), if_neg (by omega), if_neg (by omega)]; rfl
  · rw [if_neg g1, if_neg (by omega), if_neg (by omega), if_neg (by omega)]; rfl

end Go.Proofs.Ytffggkhahambhaa.Runes

namespace Go.Proofs.Ytffggkhahambhaa.Runes
open Go.RowKit Go.Proofs.Ytffggkhahambhaa.PAll Go.Proofs.YtffggkhahambhaaW.PrintWords Go.Proofs.YtffggkhahambhaaW.PrintLast Go.Proofs.YtffggkhahambhaaW.PrintMore Go.Proofs.Ytffggkhahambhaa.Math
set_option linter.unusedVariables false

theorem rune_at (k : Nat) (s : ByteArray) (i : Nat) (h : i < s.size) (hk : 12 ≤ k) : cambiumref02_Rune.f k (s.extract i s.size) = some ((rn s i : Int), (wd s i : Int)) := by
  rw [rune_eq k _ (by rw [extract_size]; omega) hk, dec_extract]; rfl

theorem runes_l0 (s : ByteArray) (hs : s.size ≤ 1000000) (d : Nat) : ∀ (k i : Nat) (a b : List Int), s.size - i ≤ d → i ≤ s.size → a.length ≤ i → b.length ≤ i → d + 13 < k →
    cambiumref02_Runes.l0 k s a b (i : Int) = some (a ++ (from_ s i).map (fun j => (rn s j : Int)), b ++ (from_ s i).map (fun (j : Nat) => (j : Int))) := by
  induction d with
  | zero =>
    intro k i a b h1 h2 ha hb hk
    obtain ⟨k, rfl⟩ : ∃ m, k = m + 1 := ⟨k - 1, by omega⟩
    rw [cambiumref02_Runes.l0, if_neg (by omega), from_ge (by omega)]; simp
  | succ d ih =>
    intro k i a b h1 h2 ha hb hk
    obtain ⟨k, rfl⟩ : ∃ m, k = m + 1 := ⟨k - 1, by omega⟩
    by_cases hi : i < s.size
    · have hw := dec_bounds s i hi
      rw [cambiumref02_Runes.l0, if_pos (by omega), if_pos (by omega), if_pos (by omega), Int.toNat_natCast, rune_at k s i hi (by omega), Option.bind_some, if_pos (by omega), if_pos (by omega), wrap_id (by omega) (by omega)]
      have := ih k (i + wd s i) (a ++ [(rn s i : Int)]) (b ++ [(i : Int)]) (by omega) (by omega) (by simp; omega) (by simp; omega) (by omega)
      rw [show ((i : Int) + (wd s i : Int)) = ((i + wd s i : Nat) : Int) by omega, this, from_lt hi]
      simp
    · rw [cambiumref02_Runes.l0, if_neg (by omega), from_ge hi]; simp
theorem runes_eq (k : Nat) (s : ByteArray) (hs : s.size ≤ 1000000) (hk : s.size + 13 < k) : cambiumref02_Runes.f k s = some (runesI s, posI s) := by
  unfold cambiumref02_Runes.f
  have := runes_l0 s hs s.size k 0 [] [] (by omega) (by omega) (by simp) (by simp) hk
  simpa [runesI, posI] using this

/-- Is a text UTF-8, from a place on? -/
def utfFrom (s : ByteArray) (i : Nat) : Bool := (from_ s i).all fun j => !(rn s j == 65533 && wd s j == 1)
theorem utf_l0 (s : ByteArray) (hs : s.size ≤ 1000000) (d : Nat) : ∀ (k i : Nat), s.size - i ≤ d → i ≤ s.size → d + 13 < k → cambiumref02_Utf.l0 k s (i : Int) = some (utfFrom s i) := by
  induction d with
  | zero =>
    intro k i h1 h2 hk
    obtain ⟨k, rfl⟩ : ∃ m, k = m + 1 := ⟨k - 1, by omega⟩
    rw [cambiumref02_Utf.l0, if_neg (by omega)]
    unfold utfFrom
    rw [from_ge (by omega)]; rfl
  | succ d ih =>
    intro k i h1 h2 hk
    obtain ⟨k, rfl⟩ : ∃ m, k = m + 1 := ⟨k - 1, by omega⟩
    by_cases hi : i < s.size
    · have hw := dec_bounds s i hi
      have hr := ih k (i + wd s i) (by omega) (by omega) (by omega)
      rw [show ((i + wd s i : Nat) : Int) = (i : Int) + (wd s i : Int) by omega] at hr
      rw [cambiumref02_Utf.l0, if_pos (by omega), if_pos (by omega), if_pos (by omega), Int.toNat_natCast, rune_at k s i hi (by omega), Option.bind_some, wrap_id (by omega) (by omega), hr]
      have hu : utfFrom s i = (!(rn s i == 65533 && wd s i == 1) && utfFrom s (i + wd s i)) := by
        unfold utfFrom; rw [from_lt hi]; rfl
      rw [hu]
      by_cases h3 : rn s i = 65533
      · by_cases h4 : wd s i = 1
        · rw [if_pos (by omega), if_pos (by omega), h3, h4]; rfl
        · rw [if_pos (by omega), if_neg (by omega)]; simp [h4]
      · rw [if_neg (by omega)]; simp [h3]
    · rw [cambiumref02_Utf.l0, if_neg (by omega)]
      unfold utfFrom
      rw [from_ge hi]; rfl
theorem utf_eq (k : Nat) (s : ByteArray) (hs : s.size ≤ 1000000) (hk : s.size + 13 < k) : cambiumref02_Utf.f k s = some (utfFrom s 0) := by
  unfold cambiumref02_Utf.f
  exact utf_l0 s hs s.size k 0 (by omega) (by omega) hk

def rightB (s : ByteArray) : Bool := (runesI s).all okI && utfFrom s 0
theorem right_l0 (s : ByteArray) (l : List Int) (hs : s.size ≤ 1000000) (hl : l.length ≤ 1000000) (d : Nat) : ∀ (k i : Nat), l.length - i ≤ d → i ≤ l.length → d + s.size + 15 < k →
    cambiumref02_Right.l0 k s l (i : Int) = some ((l.drop i).all okI && utfFrom s 0) := by
  induction d with
  | zero =>
    intro k i h1 h2 hk
    obtain ⟨k, rfl⟩ : ∃ m, k = m + 1 := ⟨k - 1, by omega⟩
    rw [cambiumref02_Right.l0, if_neg (by omega), utf_eq k s hs (by omega), List.drop_of_length_le (by omega)]; rfl
  | succ d ih =>
    intro k i h1 h2 hk
    obtain ⟨k, rfl⟩ : ∃ m, k = m + 1 := ⟨k - 1, by omega⟩
    by_cases hi : i < l.length
    · have hr := ih k (i + 1) (by omega) (by omega) (by omega)
      rw [show ((i + 1 : Nat) : Int) = (i : Int) + 1 by omega] at hr
      rw [cambiumref02_Right.l0, if_pos (by omega), if_pos (by omega), wrap_id (by omega) (by omega), hr, rd_drop hi, List.all_cons]
      generalize rd l (i : Int) = r
      unfold okI
      by_cases h3 : r < 32
      · rw [if_pos h3]; simp [h3]
      · rw [if_neg h3]
        by_cases h4 : r ≥ 127
        · by_cases h5 : r ≤ 159
          · rw [if_pos h4, if_pos h5]; simp [h4, h5]
          · rw [if_pos h4, if_neg h5]; simp [h3, h5]
        · rw [if_neg h4]; simp [h3, h4]
    · rw [cambiumref02_Right.l0, if_neg (by omega), utf_eq k s hs (by omega), List.drop_of_length_le (by omega)]; rfl
theorem runesI_len (s : ByteArray) : (runesI s).length ≤ s.size := by
  unfold runesI
  rw [List.length_map]
  have := from_len s s.size 0 (by omega)
  omega
theorem right_eq (k : Nat) (s : ByteArray) (hs : s.size ≤ 1000000) (hk : 2 * s.size + 16 < k) : cambiumref02_Right.f k s = some (rightB s) := by
  unfold cambiumref02_Right.f
  have hl := runesI_len s
  rw [runes_eq k s hs (by omega), Option.bind_some]
  have := right_l0 s (runesI s) hs (by omega) (runesI s).length k 0 (by omega) (by omega) (by omega)
  simpa [rightB] using this

end Go.Proofs.Ytffggkhahambhaa.Runes

namespace Go.Proofs.Ytffggkhahambhaa.Tr
open Go.RowKit Go.Proofs.YtffggkhahambhaaW.PrintWords Go.Proofs.YtffggkhahambhaaW.PrintLast Go.Proofs.YtffggkhahambhaaW.PrintMore Go.Proofs.Ytffggkhahambhaa.Math Go.Proofs.Ytffggkhahambhaa.PAll Go.Proofs.Ytffggkhahambhaa.Sq Go.Proofs.Ytffggkhahambhaa.Runes
set_option linter.unusedVariables false
set_option linter.unusedSimpArgs false
/-- A truth is told, and it tells this much. -/
def RetB (p : Bool → Prop) (e : Ending) : Prop := ∃ r, e = .returned (.bool r) ∧ p r
theorem RetB.no {p : Prop} : RetB (fun r => r = true → p) (.returned (.bool false)) := ⟨false, rfl, fun h => by cases h⟩
theorem RetB.any (r : Bool) : RetB (fun _ => True) (.returned (.bool r)) := ⟨r, rfl, trivial⟩
theorem RetB.yes {p : Prop} (r : Bool) (h : p) : RetB (fun r => r = true → p) (.returned (.bool r)) := ⟨r, rfl, fun _ => h⟩
theorem at_I {k0 : IntKind} {w : World} {A : Option Addr} {n : Nat} {xs : List Int} (h : Kd.C (Kd.int k0) w A n xs) {k : Nat} (hk : k < xs.length) : ∃ ad, A = some ad ∧ w.cell? (ad.add k) = some (.int k0 (xs[k]'hk)) := by
  obtain ⟨hn, _, hC⟩ := h
  obtain ⟨ad, e, hcc⟩ := hC (by omega)
  obtain ⟨c, hcl, hK, hc⟩ := hcc k _ (List.getElem?_eq_getElem hk)
  have hK : c = [.int k0 (xs[k]'hk)] := hK
  subst hK
  have h0 := hc 0 _ rfl
  have h1 : w.cell? (ad.add (k * 1 + 0)) = _ := h0
  rw [Nat.mul_one, Nat.add_zero] at h1
  exact ⟨ad, e, h1⟩
theorem letter_w (c : Int) (w : World) : Calls Try.prog 55 #[.int .i64 c] w fun e w' => RetB (fun _ => True) e ∧ w = w' := by
  go_enter Try.func55, Try.ntmps55
  go_wp2
  all_goals
    go_ret
    exact ⟨RetB.any _, rfl⟩
theorem time_w (n : Int) (w : World) : Calls Try.prog 46 #[.int .i64 n] w fun e w' => RetB (fun _ => True) e ∧ w = w' := by
  go_enter Try.func46, Try.ntmps46
  go_wp2
  all_goals
    go_ret
    exact ⟨RetB.any _, rfl⟩
theorem right_d (s : ByteArray) (h : s.size ≤ 1000) (w : World) : Calls Try.prog 53 #[.string s] w fun e w' => e = .returned (.bool (rightB s)) ∧ Below w.heap.size w w' :=
  cambiumref02_Right.calls 3000 s _ w (right_eq 3000 s (by omega) (by omega))
theorem name_d (s : ByteArray) : ∃ b, (b = true → s.size ≤ 32) ∧ ∀ w, Calls Try.prog 34 #[.string s] w fun e w' => e = .returned (.bool b) ∧ Below w.heap.size w w' := by
  by_cases h : 1 ≤ s.size ∧ s.size ≤ 32
  · refine ⟨rightB s, fun _ => h.2, fun w => ?_⟩
    have HR := Lib.hid (right_d s (by omega) w)
    have q1 : decide ((1 : Int) ≤ (s.size : Int)) = true := decide_eq_true (by omega)
    have q2 : decide ((s.size : Int) ≤ 32) = true := decide_eq_true (by omega)
    have q3 : decide ((s.size : Int) ≥ 1) = true := decide_eq_true (by omega)
    clear h
    go_enter Try.func34, Try.ntmps34
    go_wp2_with fail
    refine HR.out.mono ?_
    rintro e w2 ⟨rfl, hb⟩
    go_wp2
    go_ret
    exact ⟨rfl, hb⟩
  · refine ⟨false, (fun h => by cases h), fun w => ?_⟩
    by_cases h1 : 1 ≤ s.size
    · have q1 : decide ((1 : Int) ≤ (s.size : Int)) = true := decide_eq_true (by omega)
      have q2 : decide ((s.size : Int) ≤ 32) = false := decide_eq_false (by omega)
      clear h h1
      go_enter Try.func34, Try.ntmps34
      go_wp2
      go_ret
      exact ⟨rfl, Below.refl _ _⟩
    · have q1 : decide ((1 : Int) ≤ (s.size : Int)) = false := decide_eq_false (by omega)
      clear h h1
      go_enter Try.func34, Try.ntmps34
      go_wp2
      go_ret
      exact ⟨rfl, Below.refl _ _⟩
theorem name_w (s : ByteArray) (w : World) : Calls Try.prog 34 #[.string s] w fun e w' => RetB (fun r => r = true → s.size ≤ 32) e ∧ Below w.heap.size w w' := by
  obtain ⟨b, hb, hc⟩ := name_d s
  refine (hc w).mono ?_
  rintro e w' ⟨rfl, hw⟩
  exact ⟨⟨b, rfl, hb⟩, hw⟩
set_option maxHeartbeats 8000000 in
set_option maxRecDepth 100000 in
theorem value_d (kd : Int) (t : ByteArray) (n : Int) (v : Bool) : ∃ b, (b = true → t.size ≤ 200 ∧ (kd = 0 ∨ kd = 1 ∨ kd = 2)) ∧ ∀ w, Calls Try.prog 31 #[.agg #[.int .i64 kd, .string t, .int .i64 n, .bool v]] w fun e w' => e = .returned (.bool b) ∧ Below w.heap.size w w' := by
  rcases (show kd < 0 ∨ 2 < kd ∨ kd = 0 ∨ kd = 1 ∨ kd = 2 by omega) with h1 | h1 | rfl | rfl | rfl
  · have q0 : decide (kd < 0) = true := decide_eq_true h1
    refine ⟨false, (fun h => by cases h), fun w => ?_⟩
    have HAL := Lib.hid (below_alloc (Below.refl w.heap.size w) (.cells #[.int .i64 kd, .string t, .int .i64 n, .bool v] 39))
    go_enter Try.func31, Try.ntmps31
    go_wp2
    go_ret
    exact ⟨rfl, HAL.out⟩
  · have q0 : decide (kd < 0) = false := decide_eq_false (by omega)
    have q1 : decide (2 < kd) = true := decide_eq_true h1
    refine ⟨false, (fun h => by cases h), fun w => ?_⟩
    have HAL := Lib.hid (below_alloc (Below.refl w.heap.size w) (.cells #[.int .i64 kd, .string t, .int .i64 n, .bool v] 39))
    go_enter Try.func31, Try.ntmps31
    go_wp2
    go_ret
    exact ⟨rfl, HAL.out⟩
  · skip
    by_cases hn : n = 0
    · have n1 : (n != 0) = false := bne_eq_false_iff_eq.2 hn
      clear hn
      cases v with
      | true =>
        refine ⟨false, (fun h => by cases h), fun w => ?_⟩
        have HAL := Lib.hid (below_alloc (Below.refl w.heap.size w) (.cells #[.int .i64 0, .string t, .int .i64 n, .bool true] 39))
        go_enter Try.func31, Try.ntmps31
        go_wp2
        go_ret
        exact ⟨rfl, HAL.out⟩
      | false =>
        by_cases hs : t.size ≤ 200
        · have q : decide ((t.size : Int) ≤ 200) = true := decide_eq_true (by omega)
          have HH := Lib.hid hs
          clear hs
          refine ⟨rightB t, fun _ => ⟨HH.out, by first | omega | simp⟩, fun w => ?_⟩
          have HAL := Lib.hid (below_alloc (Below.refl w.heap.size w) (.cells #[.int .i64 0, .string t, .int .i64 n, .bool false] 39))
          have HR := Lib.hid (right_d t (by have := HH.out; omega) (w.alloc (.cells #[.int .i64 0, .string t, .int .i64 n, .bool false] 39)))
          go_enter Try.func31, Try.ntmps31
          go_wp2_with fail
          refine HR.out.mono ?_
          rintro e w2 ⟨rfl, hb⟩
          go_wp2
          go_ret
          exact ⟨rfl, below_step HAL.out hb⟩
        · have q : decide ((t.size : Int) ≤ 200) = false := decide_eq_false (by omega)
          clear hs
          refine ⟨false, (fun h => by cases h), fun w => ?_⟩
          have HAL := Lib.hid (below_alloc (Below.refl w.heap.size w) (.cells #[.int .i64 0, .string t, .int .i64 n, .bool false] 39))
          go_enter Try.func31, Try.ntmps31
          go_wp2
          go_ret
          exact ⟨rfl, HAL.out⟩
    · have n1 : (n != 0) = true := bne_iff_ne.2 hn
      clear hn
      refine ⟨false, (fun h => by cases h), fun w => ?_⟩
      have HAL := Lib.hid (below_alloc (Below.refl w.heap.size w) (.cells #[.int .i64 0, .string t, .int .i64 n, .bool v] 39))
      go_enter Try.func31, Try.ntmps31
      go_wp2
      go_ret
      exact ⟨rfl, HAL.out⟩
  · skip
    by_cases ht : t.toList = ([] : List UInt8)
    · have t1 : (t.toList != ([] : List UInt8)) = false := bne_eq_false_iff_eq.2 ht
      have t2 : (!t.toList.isEmpty) = false := by rw [ht]; rfl
      cases v with
      | true =>
        refine ⟨false, (fun h => by cases h), fun w => ?_⟩
        have HAL := Lib.hid (below_alloc (Below.refl w.heap.size w) (.cells #[.int .i64 1, .string t, .int .i64 n, .bool true] 39))
        go_enter Try.func31, Try.ntmps31
        go_wp2
        go_ret
        exact ⟨rfl, HAL.out⟩
      | false =>
        by_cases hs : t.size ≤ 200
        · have q : decide ((t.size : Int) ≤ 200) = true := decide_eq_true (by omega)
          have HH := Lib.hid hs
          clear hs
          refine ⟨rightB t, fun _ => ⟨HH.out, by first | omega | simp⟩, fun w => ?_⟩
          have HAL := Lib.hid (below_alloc (Below.refl w.heap.size w) (.cells #[.int .i64 1, .string t, .int .i64 n, .bool false] 39))
          have HR := Lib.hid (right_d t (by have := HH.out; omega) (w.alloc (.cells #[.int .i64 1, .string t, .int .i64 n, .bool false] 39)))
          go_enter Try.func31, Try.ntmps31
          go_wp2_with fail
          refine HR.out.mono ?_
          rintro e w2 ⟨rfl, hb⟩
          go_wp2
          go_ret
          exact ⟨rfl, below_step HAL.out hb⟩
        · have q : decide ((t.size : Int) ≤ 200) = false := decide_eq_false (by omega)
          clear hs
          refine ⟨false, (fun h => by cases h), fun w => ?_⟩
          have HAL := Lib.hid (below_alloc (Below.refl w.heap.size w) (.cells #[.int .i64 1, .string t, .int .i64 n, .bool false] 39))
          go_enter Try.func31, Try.ntmps31
          go_wp2
          go_ret
          exact ⟨rfl, HAL.out⟩
    · have t1 : (t.toList != ([] : List UInt8)) = true := bne_iff_ne.2 ht
      have t2 : (!t.toList.isEmpty) = true := by cases hh : t.toList with | nil => exact absurd hh ht | cons a l => rfl
      clear ht
      refine ⟨false, (fun h => by cases h), fun w => ?_⟩
      have HAL := Lib.hid (below_alloc (Below.refl w.heap.size w) (.cells #[.int .i64 1, .string t, .int .i64 n, .bool v] 39))
      go_enter Try.func31, Try.ntmps31
      go_wp2
      go_ret
      exact ⟨rfl, HAL.out⟩
  · skip
    by_cases ht : t.toList = ([] : List UInt8)
    · have t1 : (t.toList != ([] : List UInt8)) = false := bne_eq_false_iff_eq.2 ht
      have t2 : (!t.toList.isEmpty) = false := by rw [ht]; rfl
      by_cases hn : n = 0
      · have n1 : (n != 0) = false := bne_eq_false_iff_eq.2 hn
        clear hn
        by_cases hs : t.size ≤ 200
        · have q : decide ((t.size : Int) ≤ 200) = true := decide_eq_true (by omega)
          have HH := Lib.hid hs
          clear hs
          refine ⟨rightB t, fun _ => ⟨HH.out, by first | omega | simp⟩, fun w => ?_⟩
          have HAL := Lib.hid (below_alloc (Below.refl w.heap.size w) (.cells #[.int .i64 2, .string t, .int .i64 n, .bool v] 39))
          have HR := Lib.hid (right_d t (by have := HH.out; omega) (w.alloc (.cells #[.int .i64 2, .string t, .int .i64 n, .bool v] 39)))
          go_enter Try.func31, Try.ntmps31
          go_wp2_with fail
          refine HR.out.mono ?_
          rintro e w2 ⟨rfl, hb⟩
          go_wp2
          go_ret
          exact ⟨rfl, below_step HAL.out hb⟩
        · have q : decide ((t.size : Int) ≤ 200) = false := decide_eq_false (by omega)
          clear hs
          refine ⟨false, (fun h => by cases h), fun w => ?_⟩
          have HAL := Lib.hid (below_alloc (Below.refl w.heap.size w) (.cells #[.int .i64 2, .string t, .int .i64 n, .bool v] 39))
          go_enter Try.func31, Try.ntmps31
          go_wp2
          go_ret
          exact ⟨rfl, HAL.out⟩
      · have n1 : (n != 0) = true := bne_iff_ne.2 hn
        clear hn
        refine ⟨false, (fun h => by cases h), fun w => ?_⟩
        have HAL := Lib.hid (below_alloc (Below.refl w.heap.size w) (.cells #[.int .i64 2, .string t, .int .i64 n, .bool v] 39))
        go_enter Try.func31, Try.ntmps31
        go_wp2
        go_ret
        exact ⟨rfl, HAL.out⟩
    · have t1 : (t.toList != ([] : List UInt8)) = true := bne_iff_ne.2 ht
      have t2 : (!t.toList.isEmpty) = true := by cases hh : t.toList with | nil => exact absurd hh ht | cons a l => rfl
      clear ht
      refine ⟨false, (fun h => by cases h), fun w => ?_⟩
      have HAL := Lib.hid (below_alloc (Below.refl w.heap.size w) (.cells #[.int .i64 2, .string t, .int .i64 n, .bool v] 39))
      go_enter Try.func31, Try.ntmps31
      go_wp2
      go_ret
      exact ⟨rfl, HAL.out⟩
theorem value_w (kd : Int) (t : ByteArray) (n : Int) (v : Bool) (w : World) : Calls Try.prog 31 #[.agg #[.int .i64 kd, .string t, .int .i64 n, .bool v]] w fun e w' => RetB (fun r => r = true → t.size ≤ 200 ∧ (kd = 0 ∨ kd = 1 ∨ kd = 2)) e ∧ Below w.heap.size w w' := by
  obtain ⟨b, hb, hc⟩ := value_d kd t n v
  refine (hc w).mono ?_
  rintro e w' ⟨rfl, hw⟩
  exact ⟨⟨b, rfl, hb⟩, hw⟩
/-- Is it a text's field, a number's? -/
def isT (s : ByteArray) : Bool := if s.toList = ([115, 101, 114, 118, 105, 99, 101] : List UInt8) then true else s.toList == ([111, 112] : List UInt8)
def isN (s : ByteArray) : Bool := if s.toList = ([115, 116, 97, 116, 117, 115] : List UInt8) then true else if s.toList = ([100, 117, 114] : List UInt8) then true else if s.toList = ([115, 116, 97, 114, 116] : List UInt8) then true else if s.toList = ([116, 114, 97, 99, 101] : List UInt8) then true else if s.toList = ([105, 100] : List UInt8) then true else s.toList == ([112, 97, 114, 101, 110, 116] : List UInt8)
theorem text2_is (s : ByteArray) : cambiumref21_text2.f s = some (isT s) := by
  unfold cambiumref21_text2.f isT
  split <;> rfl
theorem number_is (s : ByteArray) : cambiumref21_number.f s = some (isN s) := by
  unfold cambiumref21_number.f isN
  repeat' split
  all_goals rfl
/-- What a term that may be asks of its field. -/
def FieldP (f : ByteArray) (r kd n : Int) : Prop := (isT f = true ∧ kd = 0 ∧ (r = 0 ∨ r = 1 ∨ r = 6)) ∨ (isT f = false ∧ isN f = true ∧ kd = 1 ∧ 0 ≤ n) ∨ (isT f = false ∧ isN f = false ∧ 2 ≤ f.size ∧ bt f 0 = 64)
structure OneP (f : ByteArray) (r kd : Int) (t : ByteArray) (n : Int) (v : Bool) : Prop where
  sz : t.size ≤ 200
  kr : kd = 0 ∨ kd = 1 ∨ kd = 2
  lo : 0 ≤ r
  hi : r ≤ 6
  like : r = 6 → kd = 0
  fld : FieldP f r kd n
def OneT (t : S41) : Prop := OneP t.f0 t.f1 t.f2.f0 t.f2.f1 t.f2.f2 t.f2.f3
/-- Letters ahead: some number. -/
theorem lead_w (s : ByteArray) (h : s.size ≤ 1000) (w : World) : Calls Try.prog 35 #[.string s] w fun e w' => (∃ n, e = .returned (.int .i64 n)) ∧ Below w.heap.size w w' := by
  have hr := cambiumref02_Runes.calls 3000 s _ _ w (runes_eq 3000 s (by omega) (by omega))
  have HR := Lib.hid hr
  have HPL := Lib.hid (show (posI s).length = (runesI s).length by unfold posI runesI; rw [List.length_map, List.length_map])
  have HLN := Lib.hid (show (runesI s).length ≤ 1000 by have := runesI_len s; omega)
  clear hr
  go_enter Try.func35, Try.ntmps35
  go_wp2_with fail
  refine HR.out.mono ?_
  rintro e w1 ⟨v0, v1, rfl, h0, h1, hb⟩
  obtain ⟨A0, c0, rfl⟩ := Kd.R_slice h0
  obtain ⟨A1, c1, rfl⟩ := Kd.R_slice h1
  have HC0 := Lib.hid (Kd.R_reads' h0).2.2
  have HC1 := Lib.hid (Kd.R_reads' h1).2.2
  have HB := Lib.hid hb
  clear h0 h1 hb HR
  go_wp2
  go_loopw [5] (fun i wr => ∃ k : Nat, k ≤ (runesI s).length ∧ i = .int .i64 k ∧ w1 = wr) (fun i _ => (runesI s).length - (intOf i).toNat)
  case atStart => exact ⟨0, by omega, rfl, rfl⟩
  case round =>
    obtain ⟨k, hk, rfl, rfl⟩ := hrel
    by_cases hlt : k < (runesI s).length
    · obtain ⟨a0, rfl, x0⟩ := at_I HC0.out hlt
      obtain ⟨a1, rfl, x1⟩ := at_I HC1.out (k := k) (by rw [HPL.out]; exact hlt)
      have q : decide ((k : Int) < ((runesI s).length : Int)) = true := decide_eq_true (by omega)
      have q2 : (k : Int) < ((runesI s).length : Int) := by omega
      have q3 : (k : Int) < ((posI s).length : Int) := by rw [HPL.out]; exact q2
      have HK := Lib.hid (show k + 1 ≤ (runesI s).length by omega)
      have HW := Lib.hid (show wrap64 ((k : Int) + 1) = ((k + 1 : Nat) : Int) by have := HLN.out; unfold wrap64; omega)
      have HLC := Lib.hid (letter_w ((runesI s)[k]'hlt) w1)
      obtain ⟨c, hc⟩ : ∃ c, (runesI s)[k]'hlt = c := ⟨_, rfl⟩
      rw [hc] at x0 HLC
      obtain ⟨c2, hc2⟩ : ∃ c2, (posI s)[k]'(by rw [HPL.out]; exact hlt) = c2 := ⟨_, rfl⟩
      rw [hc2] at x1
      clear hc hc2 hlt hk
      go_wp2_with fail
      refine HLC.out.mono ?_
      rintro e w2 ⟨⟨r, rfl, _⟩, rfl⟩
      clear HLC
      cases r with
      | true =>
        go_wp2
        go_roundw
        case rel => exact ⟨k + 1, HK.out, by rw [HW.out], by first | rfl | trivial⟩
        case measure => exact meas_up (by have := HLN.out; omega) HK.out
      | false =>
        go_wp2
        go_ret
        exact ⟨⟨_, rfl⟩, HB.out⟩
    · have hkl : k = (runesI s).length := by omega
      subst hkl
      have q : decide (((runesI s).length : Int) < ((runesI s).length : Int)) = false := decide_eq_false (by omega)
      clear hlt hk
      go_wp2
      go_ret
      exact ⟨⟨_, rfl⟩, HB.out⟩
theorem box6 {w : World} {g : Nat} {t : TypeId} {a b c d e f : Value} (h : w.heap[g]? = some (.cells #[a, b, c, d, e, f] t (0, 0))) : w.cell? ⟨g, 0, none⟩ = some a ∧ w.cell? ⟨g, 1, none⟩ = some b ∧ w.cell? ⟨g, 2, none⟩ = some c ∧ w.cell? ⟨g, 3, none⟩ = some d ∧ w.cell? ⟨g, 4, none⟩ = some e ∧ w.cell? ⟨g, 5, none⟩ = some f :=
  ⟨(blk_cell h 0).trans rfl, (blk_cell h 1).trans rfl, (blk_cell h 2).trans rfl, (blk_cell h 3).trans rfl, (blk_cell h 4).trans rfl, (blk_cell h 5).trans rfl⟩
theorem text2_w (s : ByteArray) (w : World) : Calls Try.prog 32 #[.string s] w fun e w' => e = .returned (.bool (isT s)) ∧ Below w.heap.size w w' := by
  refine (cambiumref21_text2.calls s (isT s) w (text2_is s)).mono ?_
  rintro e w2 ⟨rfl, nd, rfl⟩
  exact ⟨rfl, ⟨rfl, rfl, rfl, Nat.le_refl _, fun _ _ => rfl⟩⟩
theorem number_w (s : ByteArray) (w : World) : Calls Try.prog 33 #[.string s] w fun e w' => e = .returned (.bool (isN s)) ∧ Below w.heap.size w w' := by
  refine (cambiumref21_number.calls s (isN s) w (number_is s)).mono ?_
  rintro e w2 ⟨rfl, nd, rfl⟩
  exact ⟨rfl, ⟨rfl, rfl, rfl, Nat.le_refl _, fun _ _ => rfl⟩⟩
set_option maxHeartbeats 8000000 in
set_option maxRecDepth 100000 in
theorem one_w (f : ByteArray) (r kd : Int) (t : ByteArray) (n : Int) (v : Bool) (w : World) : Calls Try.prog 14 #[.agg #[.string f, .int .i64 r, .int .i64 kd, .string t, .int .i64 n, .bool v]] w fun e w' => RetB (fun b => b = true → OneP f r kd t n v) e ∧ Below w.heap.size w w' := by
  have HAL := Lib.hid (below_alloc (Below.refl w.heap.size w) (.cells #[.string f, .int .i64 r, .int .i64 kd, .string t, .int .i64 n, .bool v] 41))
  have HK0 := Lib.hid (heap_alloc_new w (.cells #[.string f, .int .i64 r, .int .i64 kd, .string t, .int .i64 n, .bool v] 41))
  go_enter Try.func14, Try.ntmps14
  go_wp2_with fail
  refine (value_w kd t n v _).mono ?_
  rintro e w1 ⟨⟨rv, rfl, hv⟩, hb⟩
  have HB := Lib.hid (below_step HAL.out hb)
  have HK := Lib.hid (block_below HK0.out hb)
  have HVV := Lib.hid hv
  clear hb hv HAL HK0
  obtain ⟨y0, y1, y2, y3, y4, y5⟩ := box6 HK.out
  cases rv with
  | false =>
    go_wp2
    go_ret
    exact ⟨RetB.no, HB.out⟩
  | true =>
    have HV := Lib.hid (HVV.out (by first | rfl | trivial))
    clear HVV
    by_cases h1 : r < 0
    · have r1 : decide (r < 0) = true := decide_eq_true h1
      go_wp2
      go_ret
      exact ⟨RetB.no, HB.out⟩
    have r1 : decide (r < 0) = false := decide_eq_false h1
    by_cases h2 : 6 < r
    · have r2 : decide (6 < r) = true := decide_eq_true h2
      clear h1
      go_wp2
      go_ret
      exact ⟨RetB.no, HB.out⟩
    have r2 : decide (6 < r) = false := decide_eq_false h2
    obtain ⟨b6, hb6⟩ : ∃ b, (r == 6) = b := ⟨_, rfl⟩
    obtain ⟨bk, hbk⟩ : ∃ b, (kd != 0) = b := ⟨_, rfl⟩
    by_cases h3 : b6 = true ∧ bk = true
    · obtain ⟨rfl, rfl⟩ := h3
      clear h1 h2
      go_wp2
      go_ret
      exact ⟨RetB.no, HB.out⟩
    have HR := Lib.hid (show 0 ≤ r ∧ r ≤ 6 ∧ (r = 6 → kd = 0) from ⟨by omega, by omega, fun e => by
      by_cases hk : kd = 0
      · exact hk
      · exact absurd ⟨by rw [← hb6]; exact beq_iff_eq.2 e, by rw [← hbk]; exact bne_iff_ne.2 hk⟩ h3⟩)
    have h4 : b6 = false ∨ (b6 = true ∧ bk = false) := by cases b6 <;> cases bk <;> simp_all
    clear h1 h2 h3
    rcases h4 with rfl | ⟨rfl, rfl⟩
    all_goals
      go_wp2_with fail
      refine (text2_w f _).mono ?_
      rintro e w3 ⟨rfl, hb⟩
      have HB := Lib.hid (below_step HB.out hb)
      have HK := Lib.hid (block_below HK.out hb)
      clear y0 y1 y2 y3 y4 y5 hb
      obtain ⟨y0, y1, y2, y3, y4, y5⟩ := box6 HK.out
      cases hT : isT f with
      | true =>
        have HT := Lib.hid hT
        clear hT
        by_cases hh : kd = 0
        · have HKD := Lib.hid hh
          have k0 : (kd == 0) = true := beq_iff_eq.2 hh
          clear hh
          by_cases hh : r = 0
          · have H0 := Lib.hid (show r = 0 ∨ r = 1 ∨ r = 6 by omega)
            have r0 : (r == 0) = true := beq_iff_eq.2 hh
            clear hh
            go_wp2
            go_ret
            exact ⟨RetB.yes _ ⟨HV.out.1, HV.out.2, HR.out.1, HR.out.2.1, HR.out.2.2, .inl ⟨HT.out, HKD.out, H0.out⟩⟩, HB.out⟩
          · have r0 : (r == 0) = false := beq_eq_false_iff_ne.2 hh
            clear hh
            by_cases hh : r = 1
            · have H1 := Lib.hid (show r = 0 ∨ r = 1 ∨ r = 6 by omega)
              have r1 : (r == 1) = true := beq_iff_eq.2 hh
              clear hh
              go_wp2
              go_ret
              exact ⟨RetB.yes _ ⟨HV.out.1, HV.out.2, HR.out.1, HR.out.2.1, HR.out.2.2, .inl ⟨HT.out, HKD.out, H1.out⟩⟩, HB.out⟩
            · have r1 : (r == 1) = false := beq_eq_false_iff_ne.2 hh
              clear hh
              by_cases hh : r = 6
              · have H6 := Lib.hid (show r = 0 ∨ r = 1 ∨ r = 6 by omega)
                have r6 : (r == 6) = true := beq_iff_eq.2 hh
                clear hh
                go_wp2
                go_ret
                exact ⟨RetB.yes _ ⟨HV.out.1, HV.out.2, HR.out.1, HR.out.2.1, HR.out.2.2, .inl ⟨HT.out, HKD.out, H6.out⟩⟩, HB.out⟩
              · have r6 : (r == 6) = false := beq_eq_false_iff_ne.2 hh
                clear hh
                go_wp2
                go_ret
                first | exact ⟨RetB.no, HB.out⟩ | (exfalso; rw [hb6] at r6; cases r6)
        · have k0 : (kd == 0) = false := beq_eq_false_iff_ne.2 hh
          clear hh
          go_wp2
          go_ret
          exact ⟨RetB.no, HB.out⟩
      | false =>
        have HT := Lib.hid hT
        clear hT
        go_wp2_with fail
        refine (number_w f _).mono ?_
        rintro e w4 ⟨rfl, hb⟩
        have HB := Lib.hid (below_step HB.out hb)
        have HK := Lib.hid (block_below HK.out hb)
        clear y0 y1 y2 y3 y4 y5 hb
        obtain ⟨y0, y1, y2, y3, y4, y5⟩ := box6 HK.out
        cases hN : isN f with
        | true =>
          have HN := Lib.hid hN
          clear hN
          by_cases hh : kd = 1
          · have HKD := Lib.hid hh
            have k1 : (kd == 1) = true := beq_iff_eq.2 hh
            clear hh
            by_cases hh : 0 ≤ n
            · have HN0 := Lib.hid hh
              have n0 : decide (0 ≤ n) = true := decide_eq_true hh
              clear hh
              go_wp2
              go_ret
              exact ⟨RetB.yes _ ⟨HV.out.1, HV.out.2, HR.out.1, HR.out.2.1, HR.out.2.2, .inr (.inl ⟨HT.out, HN.out, HKD.out, HN0.out⟩)⟩, HB.out⟩
            · have n0 : decide (0 ≤ n) = false := decide_eq_false hh
              clear hh
              go_wp2
              go_ret
              exact ⟨RetB.no, HB.out⟩
          · have k1 : (kd == 1) = false := beq_eq_false_iff_ne.2 hh
            clear hh
            go_wp2
            go_ret
            exact ⟨RetB.no, HB.out⟩
        | false =>
          have HN := Lib.hid hN
          clear hN
          by_cases hs : f.size < 2
          · have s2 : decide ((f.size : Int) < 2) = true := decide_eq_true (by omega)
            clear hs
            go_wp2
            go_ret
            exact ⟨RetB.no, HB.out⟩
          · have s2 : decide ((f.size : Int) < 2) = false := decide_eq_false (by omega)
            have hs : 2 ≤ f.size := by omega
            have s0 : (0 : Int) < (f.size : Int) := by omega
            have hx : ∀ h : 0 < f.size, ((f[0]'h).toNat : Int) = bt f 0 := bt_at f 0
            by_cases hh : bt f 0 = 64
            · have HBT := Lib.hid hh
              have b0 : (bt f 0 != 64) = false := bne_eq_false_iff_eq.2 hh
              clear hh
              have HS := Lib.hid hs
              have hsl : (1 : Int) ≤ (f.size : Int) := by omega
              clear hs
              go_wp2_with fail
              refine (name_w (f.extract 1 f.size) _).mono ?_
              rintro e w5 ⟨⟨rn, rfl, hn⟩, hb⟩
              have HB := Lib.hid (below_step HB.out hb)
              have HNM := Lib.hid hn
              clear y0 y1 y2 y3 y4 y5 hb hn
              cases rn with
              | false =>
                go_wp2
                go_ret
                exact ⟨RetB.no, HB.out⟩
              | true =>
                have HNL := Lib.hid (HNM.out (by first | rfl | trivial))
                have HLD := Lib.hid (lead_w (f.extract 1 f.size) (by have := HNL.out; omega) w5)
                go_wp2_with fail
                refine HLD.out.mono ?_
                rintro e w6 ⟨⟨nl, rfl⟩, hb⟩
                have HB := Lib.hid (below_step HB.out hb)
                clear hb HLD
                go_wp2
                all_goals
                  go_ret
                  exact ⟨RetB.yes _ ⟨HV.out.1, HV.out.2, HR.out.1, HR.out.2.1, HR.out.2.2, .inr (.inr ⟨HT.out, HN.out, HS.out, HBT.out⟩)⟩, HB.out⟩
            · have b0 : (bt f 0 != 64) = true := bne_iff_ne.2 hh
              clear hh hs
              go_wp2
              go_ret
              exact ⟨RetB.no, HB.out⟩
theorem meas_up2 {L k : Nat} (h : L ≤ 100000000000000) (hk : k + 1 ≤ L) : L - (intOf (.int .i64 (wrap64 ((k : Int) + 1)))).toNat < L - (intOf (.int .i64 k)).toNat := by
  have hw : wrap64 ((k : Int) + 1) = ((k + 1 : Nat) : Int) := by unfold wrap64; omega
  rw [hw]
  show L - ((k + 1 : Nat) : Int).toNat < L - (k : Int).toNat
  rw [Int.toNat_natCast, Int.toNat_natCast]
  omega
end Go.Proofs.Ytffggkhahambhaa.Tr
