/- span.End, trace.last (chapter 26), by hand. -/
import Derived.Test.YtoigebnhnkdbbaaTrAsm2
namespace Go.Proofs.Ytoigebnhnkdbbaa.Tr
open Go.RowKit Go.Proofs.YtoigebnhnkdbbaaW.PrintWords Go.Proofs.YtoigebnhnkdbbaaW.PrintLast Go.Proofs.YtoigebnhnkdbbaaW.PrintMore Go.Proofs.Ytoigebnhnkdbbaa.Math Go.Proofs.Ytoigebnhnkdbbaa.PAll Go.Proofs.Ytoigebnhnkdbbaa.MapG
open Go.ChangeMaps (setBlock)
set_option linter.unusedVariables false
set_option linter.unusedSimpArgs false

/-- Starts and lengths that do not overflow. -/
def Sml (s : Sp) : Prop := -2305843009213693952 ≤ s.st ∧ s.st ≤ 2305843009213693952 ∧ -2305843009213693952 ≤ s.du ∧ s.du ≤ 2305843009213693952
theorem Sml.en {s : Sp} (h : Sml s) : wrap64 (s.st + s.du) = enD s := by
  obtain ⟨h1, h2, h3, h4⟩ := h
  unfold enD wrap64
  omega
set_option maxHeartbeats 1000000 in
theorem end_calls {s : Sp} (hs : Sml s) (w : World) : Calls Try.prog 26 #[.agg (encS s).toArray] w fun e w' => e = .returned (.int .i64 (enD s)) ∧ Below w.heap.size w w' := by
  have HE := Lib.hid hs.en
  have HB := Lib.hid (below_alloc (Below.refl w.heap.size w) (.cells (encS s).toArray 38))
  have HK := Lib.hid (heap_alloc_new w (.cells (encS s).toArray 38))
  rw [arr_S] at HB HK ⊢
  clear hs
  go_enter Try.func26, Try.ntmps26
  go_upto_region 1 with (fail)
  generalize (w.alloc (.cells #[.int .u64 s.tr, .int .u64 s.id, .int .u64 s.par, .string s.svc, .string s.op, .int .i64 s.st, .int .i64 s.du, .int .i64 s.stt, .slice s.a.1 s.a.2.1 s.a.2.2, .slice s.e.1 s.e.2.1 s.e.2.2, .slice s.l.1 s.l.2.1 s.l.2.2] 38)) = w1 at HB HK ⊢
  have y1 : w1.cell? ⟨w.heap.size, 5, none⟩ = some (.int .i64 s.st) := (blk_cell HK.out 5).trans rfl
  have y2 : w1.cell? ⟨w.heap.size, 6, none⟩ = some (.int .i64 s.du) := (blk_cell HK.out 6).trans rfl
  go_wp2
  go_ret
  exact ⟨by rw [← HE.out]; rfl, HB.out⟩

/-- What last's comparison begins with. -/
structure Cm (x y : Sp) (w w1 : World) : Prop where
  bw : Below w.heap.size w w1
  k1 : w1.heap[w.heap.size]? = some (.cells (encS x).toArray 38 (0, 0))
  k2 : w1.heap[w.heap.size + 1]? = some (.cells (encS y).toArray 38 (0, 0))
theorem Cm.next {x y : Sp} {w w1 w2 : World} (h : Cm x y w w1) (hb : Below w1.heap.size w1 w2) : Cm x y w w2 := ⟨below_step h.bw hb, block_below h.k1 hb, block_below h.k2 hb⟩
theorem Cm.cells {x y : Sp} {w w1 : World} (h : Cm x y w w1) : w1.cell? ⟨w.heap.size, 0, none⟩ = some (.int .u64 x.tr) ∧ w1.cell? ⟨w.heap.size, 1, none⟩ = some (.int .u64 x.id) ∧ w1.cell? ⟨w.heap.size, 2, none⟩ = some (.int .u64 x.par) ∧ w1.cell? ⟨w.heap.size, 3, none⟩ = some (.string x.svc) ∧ w1.cell? ⟨w.heap.size, 4, none⟩ = some (.string x.op) ∧ w1.cell? ⟨w.heap.size, 5, none⟩ = some (.int .i64 x.st) ∧ w1.cell? ⟨w.heap.size, 6, none⟩ = some (.int .i64 x.du) ∧ w1.cell? ⟨w.heap.size, 7, none⟩ = some (.int .i64 x.stt) ∧ w1.cell? ⟨w.heap.size, 8, none⟩ = some (.slice x.a.1 x.a.2.1 x.a.2.2) ∧ w1.cell? ⟨w.heap.size, 9, none⟩ = some (.slice x.e.1 x.e.2.1 x.e.2.2) ∧ w1.cell? ⟨w.heap.size, 10, none⟩ = some (.slice x.l.1 x.l.2.1 x.l.2.2) ∧ w1.cell? ⟨w.heap.size + 1, 0, none⟩ = some (.int .u64 y.tr) ∧ w1.cell? ⟨w.heap.size + 1, 1, none⟩ = some (.int .u64 y.id) ∧ w1.cell? ⟨w.heap.size + 1, 2, none⟩ = some (.int .u64 y.par) ∧ w1.cell? ⟨w.heap.size + 1, 3, none⟩ = some (.string y.svc) ∧ w1.cell? ⟨w.heap.size + 1, 4, none⟩ = some (.string y.op) ∧ w1.cell? ⟨w.heap.size + 1, 5, none⟩ = some (.int .i64 y.st) ∧ w1.cell? ⟨w.heap.size + 1, 6, none⟩ = some (.int .i64 y.du) ∧ w1.cell? ⟨w.heap.size + 1, 7, none⟩ = some (.int .i64 y.stt) ∧ w1.cell? ⟨w.heap.size + 1, 8, none⟩ = some (.slice y.a.1 y.a.2.1 y.a.2.2) ∧ w1.cell? ⟨w.heap.size + 1, 9, none⟩ = some (.slice y.e.1 y.e.2.1 y.e.2.2) ∧ w1.cell? ⟨w.heap.size + 1, 10, none⟩ = some (.slice y.l.1 y.l.2.1 y.l.2.2) :=
  ⟨(blk_cell h.k1 0).trans rfl, (blk_cell h.k1 1).trans rfl, (blk_cell h.k1 2).trans rfl, (blk_cell h.k1 3).trans rfl, (blk_cell h.k1 4).trans rfl, (blk_cell h.k1 5).trans rfl, (blk_cell h.k1 6).trans rfl, (blk_cell h.k1 7).trans rfl, (blk_cell h.k1 8).trans rfl, (blk_cell h.k1 9).trans rfl, (blk_cell h.k1 10).trans rfl, (blk_cell h.k2 0).trans rfl, (blk_cell h.k2 1).trans rfl, (blk_cell h.k2 2).trans rfl, (blk_cell h.k2 3).trans rfl, (blk_cell h.k2 4).trans rfl, (blk_cell h.k2 5).trans rfl, (blk_cell h.k2 6).trans rfl, (blk_cell h.k2 7).trans rfl, (blk_cell h.k2 8).trans rfl, (blk_cell h.k2 9).trans rfl, (blk_cell h.k2 10).trans rfl⟩
set_option maxHeartbeats 4000000 in
set_option maxRecDepth 100000 in
theorem lastcmp_calls {x y : Sp} (hx : Sml x) (hy : Sml y) (w : World) : Calls Try.prog 37 #[.agg (encS x).toArray, .agg (encS y).toArray] w fun e w' => e = .returned (.int .i64 (cmpI (enD x) (enD y))) ∧ Below w.heap.size w w' := by
  have hb := below_alloc (below_alloc (Below.refl w.heap.size w) (.cells (encS x).toArray 38)) (.cells (encS y).toArray 38)
  have k1 : ((w.alloc (.cells (encS x).toArray 38)).alloc (.cells (encS y).toArray 38)).heap[w.heap.size]? = some (.cells (encS x).toArray 38 (0, 0)) := block_below (heap_alloc_new w _) (below_alloc (Below.refl _ _) _)
  have k2 : ((w.alloc (.cells (encS x).toArray 38)).alloc (.cells (encS y).toArray 38)).heap[(w.alloc (.cells (encS x).toArray 38)).heap.size]? = some (.cells (encS y).toArray 38 (0, 0)) := heap_alloc_new _ _
  rw [show (w.alloc (.cells (encS x).toArray 38)).heap.size = w.heap.size + 1 by simp] at k2
  have hcm : Cm x y w ((w.alloc (.cells (encS x).toArray 38)).alloc (.cells (encS y).toArray 38)) := ⟨hb, k1, k2⟩
  have HX := Lib.hid hx
  have HY := Lib.hid hy
  have HC := Lib.hid hcm
  clear hb k1 k2 hcm hx hy
  rw [arr_S, arr_S] at HC ⊢
  go_enter Try.func37, Try.ntmps37
  go_upto_region 1 with (fail)
  generalize ((w.alloc (.cells #[.int .u64 x.tr, .int .u64 x.id, .int .u64 x.par, .string x.svc, .string x.op, .int .i64 x.st, .int .i64 x.du, .int .i64 x.stt, .slice x.a.1 x.a.2.1 x.a.2.2, .slice x.e.1 x.e.2.1 x.e.2.2, .slice x.l.1 x.l.2.1 x.l.2.2] 38)).alloc (.cells #[.int .u64 y.tr, .int .u64 y.id, .int .u64 y.par, .string y.svc, .string y.op, .int .i64 y.st, .int .i64 y.du, .int .i64 y.stt, .slice y.a.1 y.a.2.1 y.a.2.2, .slice y.e.1 y.e.2.1 y.e.2.2, .slice y.l.1 y.l.2.1 y.l.2.2] 38)) = w2 at HC ⊢
  generalize (Value.agg #[.int .u64 x.tr, .int .u64 x.id, .int .u64 x.par, .string x.svc, .string x.op, .int .i64 x.st, .int .i64 x.du, .int .i64 x.stt, .slice x.a.1 x.a.2.1 x.a.2.2, .slice x.e.1 x.e.2.1 x.e.2.2, .slice x.l.1 x.l.2.1 x.l.2.2]) = junk1
  generalize (Value.agg #[.int .u64 y.tr, .int .u64 y.id, .int .u64 y.par, .string y.svc, .string y.op, .int .i64 y.st, .int .i64 y.du, .int .i64 y.stt, .slice y.a.1 y.a.2.1 y.a.2.2, .slice y.e.1 y.e.2.1 y.e.2.2, .slice y.l.1 y.l.2.1 y.l.2.2]) = junk2
  have hcd := HC.out.next (below_drew (Below.refl w2.heap.size w2))
  obtain ⟨x0, x1, x2, x3, x4, x5, x6, x7, x8, x9, x10, x11, x12, x13, x14, x15, x16, x17, x18, x19, x20, x21⟩ := hcd.cells
  refine start_ (n := 6) (S := fun w' => w'.cell? ⟨w.heap.size, 0, none⟩ = some (.int .u64 x.tr) ∧ w'.cell? ⟨w.heap.size, 1, none⟩ = some (.int .u64 x.id) ∧ w'.cell? ⟨w.heap.size, 2, none⟩ = some (.int .u64 x.par) ∧ w'.cell? ⟨w.heap.size, 3, none⟩ = some (.string x.svc) ∧ w'.cell? ⟨w.heap.size, 4, none⟩ = some (.string x.op) ∧ w'.cell? ⟨w.heap.size, 5, none⟩ = some (.int .i64 x.st) ∧ w'.cell? ⟨w.heap.size, 6, none⟩ = some (.int .i64 x.du) ∧ w'.cell? ⟨w.heap.size, 7, none⟩ = some (.int .i64 x.stt) ∧ w'.cell? ⟨w.heap.size, 8, none⟩ = some (.slice x.a.1 x.a.2.1 x.a.2.2) ∧ w'.cell? ⟨w.heap.size, 9, none⟩ = some (.slice x.e.1 x.e.2.1 x.e.2.2) ∧ w'.cell? ⟨w.heap.size, 10, none⟩ = some (.slice x.l.1 x.l.2.1 x.l.2.2) ∧ w'.cell? ⟨w.heap.size + 1, 0, none⟩ = some (.int .u64 y.tr) ∧ w'.cell? ⟨w.heap.size + 1, 1, none⟩ = some (.int .u64 y.id) ∧ w'.cell? ⟨w.heap.size + 1, 2, none⟩ = some (.int .u64 y.par) ∧ w'.cell? ⟨w.heap.size + 1, 3, none⟩ = some (.string y.svc) ∧ w'.cell? ⟨w.heap.size + 1, 4, none⟩ = some (.string y.op) ∧ w'.cell? ⟨w.heap.size + 1, 5, none⟩ = some (.int .i64 y.st) ∧ w'.cell? ⟨w.heap.size + 1, 6, none⟩ = some (.int .i64 y.du) ∧ w'.cell? ⟨w.heap.size + 1, 7, none⟩ = some (.int .i64 y.stt) ∧ w'.cell? ⟨w.heap.size + 1, 8, none⟩ = some (.slice y.a.1 y.a.2.1 y.a.2.2) ∧ w'.cell? ⟨w.heap.size + 1, 9, none⟩ = some (.slice y.e.1 y.e.2.1 y.e.2.2) ∧ w'.cell? ⟨w.heap.size + 1, 10, none⟩ = some (.slice y.l.1 y.l.2.1 y.l.2.2)) (ds := []) #[false, false, false, false, false, false] (by kernel_rfl) rfl rfl ⟨x0, x1, x2, x3, x4, x5, x6, x7, x8, x9, x10, x11, x12, x13, x14, x15, x16, x17, x18, x19, x20, x21⟩ (fun hHeld => ?_)
  generalize w2.drew = WN0 at hcd hHeld ⊢
  have HB := Lib.hid hcd
  clear hcd x0 x1 x2 x3 x4 x5 x6 x7 x8 x9 x10 x11 x12 x13 x14 x15 x16 x17 x18 x19 x20 x21
  refine take_ (i := 0) (N := some 5) (v := ?_) (a' := ?_) #[true, false, false, false, false, false] rfl rfl (by kernel_rfl) (fun _ _ _ h => h) (Or.inl ⟨by rfl, ?_⟩) hHeld ?_ ?_
  rotate_left
  · rintro w' ⟨s0, s1, s2, s3, s4, s5, s6, s7, s8, s9, s10, s11, s12, s13, s14, s15, s16, s17, s18, s19, s20, s21⟩
    go_simp
    with_reducible rfl
  rotate_left
  · simp only [Act.put, List.setIfInBounds_toArray, List.set_cons_zero, List.set_cons_succ, i64_w, i32_w]
    rfl
  refine take_ (i := 2) (N := some 7) (v := ?_) (a' := ?_) #[true, false, true, false, false, false] rfl rfl (by kernel_rfl) (fun _ _ _ h => h) (Or.inl ⟨by rfl, ?_⟩) hHeld ?_ ?_
  rotate_left
  · rintro w' ⟨s0, s1, s2, s3, s4, s5, s6, s7, s8, s9, s10, s11, s12, s13, s14, s15, s16, s17, s18, s19, s20, s21⟩
    go_simp
    with_reducible rfl
  rotate_left
  · simp only [Act.put, List.setIfInBounds_toArray, List.set_cons_zero, List.set_cons_succ, i64_w, i32_w]
    rfl
  refine one_ (i := 1) (N := some 6) #[true, true, true, false, false, false] rfl rfl (by kernel_rfl) (by decide) (fun K hK => ?_)
  have hend := end_calls HX.out WN0
  rw [arr_S] at hend
  refine goes_ Try.func26 (by kernel_rfl) rfl #[.agg #[.int .u64 x.tr, .int .u64 x.id, .int .u64 x.par, .string x.svc, .string x.op, .int .i64 x.st, .int .i64 x.du, .int .i64 x.stt, .slice x.a.1 x.a.2.1 x.a.2.2, .slice x.e.1 x.e.2.1 x.e.2.2, .slice x.l.1 x.l.2.1 x.l.2.2]] (by rfl) rfl rfl (by simp only [List.map_toArray, List.map_cons, List.map_nil]; rfl) ?_
  with_reducible refine (hend).mono ?_
  rintro ee w6 ⟨rfl, hb⟩
  refine ⟨_, rfl, ?_⟩
  have HB6 := Lib.hid (HB.out.next hb)
  clear hb hend
  refine hK.out _ _ ⟨(blk_cell HB6.out.k1 0).trans rfl, (blk_cell HB6.out.k1 1).trans rfl, (blk_cell HB6.out.k1 2).trans rfl, (blk_cell HB6.out.k1 3).trans rfl, (blk_cell HB6.out.k1 4).trans rfl, (blk_cell HB6.out.k1 5).trans rfl, (blk_cell HB6.out.k1 6).trans rfl, (blk_cell HB6.out.k1 7).trans rfl, (blk_cell HB6.out.k1 8).trans rfl, (blk_cell HB6.out.k1 9).trans rfl, (blk_cell HB6.out.k1 10).trans rfl, (blk_cell HB6.out.k2 0).trans rfl, (blk_cell HB6.out.k2 1).trans rfl, (blk_cell HB6.out.k2 2).trans rfl, (blk_cell HB6.out.k2 3).trans rfl, (blk_cell HB6.out.k2 4).trans rfl, (blk_cell HB6.out.k2 5).trans rfl, (blk_cell HB6.out.k2 6).trans rfl, (blk_cell HB6.out.k2 7).trans rfl, (blk_cell HB6.out.k2 8).trans rfl, (blk_cell HB6.out.k2 9).trans rfl, (blk_cell HB6.out.k2 10).trans rfl⟩ (fun hHeld => ?_)
  clear hK K
  refine norm_ (a' := ?_) ?_ ?_
  rotate_left
  · show Act.put _ (some 6) _ = _
    simp only [Act.put, List.setIfInBounds_toArray, List.set_cons_zero, List.set_cons_succ, i64_w, i32_w]
    rfl
  refine one_ (i := 3) (N := some 8) #[true, true, true, true, false, false] rfl rfl (by kernel_rfl) (by decide) (fun K hK => ?_)
  have hend := end_calls HY.out w6
  rw [arr_S] at hend
  refine goes_ Try.func26 (by kernel_rfl) rfl #[.agg #[.int .u64 y.tr, .int .u64 y.id, .int .u64 y.par, .string y.svc, .string y.op, .int .i64 y.st, .int .i64 y.du, .int .i64 y.stt, .slice y.a.1 y.a.2.1 y.a.2.2, .slice y.e.1 y.e.2.1 y.e.2.2, .slice y.l.1 y.l.2.1 y.l.2.2]] (by rfl) rfl rfl (by simp only [List.map_toArray, List.map_cons, List.map_nil]; rfl) ?_
  with_reducible refine (hend).mono ?_
  rintro ee w8 ⟨rfl, hb⟩
  refine ⟨_, rfl, ?_⟩
  have HB8 := Lib.hid (HB6.out.next hb)
  clear hb hend
  refine hK.out _ _ ⟨(blk_cell HB8.out.k1 0).trans rfl, (blk_cell HB8.out.k1 1).trans rfl, (blk_cell HB8.out.k1 2).trans rfl, (blk_cell HB8.out.k1 3).trans rfl, (blk_cell HB8.out.k1 4).trans rfl, (blk_cell HB8.out.k1 5).trans rfl, (blk_cell HB8.out.k1 6).trans rfl, (blk_cell HB8.out.k1 7).trans rfl, (blk_cell HB8.out.k1 8).trans rfl, (blk_cell HB8.out.k1 9).trans rfl, (blk_cell HB8.out.k1 10).trans rfl, (blk_cell HB8.out.k2 0).trans rfl, (blk_cell HB8.out.k2 1).trans rfl, (blk_cell HB8.out.k2 2).trans rfl, (blk_cell HB8.out.k2 3).trans rfl, (blk_cell HB8.out.k2 4).trans rfl, (blk_cell HB8.out.k2 5).trans rfl, (blk_cell HB8.out.k2 6).trans rfl, (blk_cell HB8.out.k2 7).trans rfl, (blk_cell HB8.out.k2 8).trans rfl, (blk_cell HB8.out.k2 9).trans rfl, (blk_cell HB8.out.k2 10).trans rfl⟩ (fun hHeld => ?_)
  clear hK K
  refine norm_ (a' := ?_) ?_ ?_
  rotate_left
  · show Act.put _ (some 8) _ = _
    simp only [Act.put, List.setIfInBounds_toArray, List.set_cons_zero, List.set_cons_succ, i64_w, i32_w]
    rfl
  refine one_ (i := 4) (N := some 9) #[true, true, true, true, true, false] rfl rfl (by kernel_rfl) (by decide) (fun K hK => ?_)
  refine goes_ Try.func38 (by kernel_rfl) rfl #[.int .i64 (enD x), .int .i64 (enD y)] (by rfl) rfl rfl (by simp only [List.map_toArray, List.map_cons, List.map_nil]; rfl) ?_
  with_reducible refine (cmpi_calls (enD x) (enD y) w8).mono ?_
  rintro ee w9 ⟨rfl, rfl⟩
  refine ⟨_, rfl, ?_⟩
  refine hK.out _ _ ⟨(blk_cell HB8.out.k1 0).trans rfl, (blk_cell HB8.out.k1 1).trans rfl, (blk_cell HB8.out.k1 2).trans rfl, (blk_cell HB8.out.k1 3).trans rfl, (blk_cell HB8.out.k1 4).trans rfl, (blk_cell HB8.out.k1 5).trans rfl, (blk_cell HB8.out.k1 6).trans rfl, (blk_cell HB8.out.k1 7).trans rfl, (blk_cell HB8.out.k1 8).trans rfl, (blk_cell HB8.out.k1 9).trans rfl, (blk_cell HB8.out.k1 10).trans rfl, (blk_cell HB8.out.k2 0).trans rfl, (blk_cell HB8.out.k2 1).trans rfl, (blk_cell HB8.out.k2 2).trans rfl, (blk_cell HB8.out.k2 3).trans rfl, (blk_cell HB8.out.k2 4).trans rfl, (blk_cell HB8.out.k2 5).trans rfl, (blk_cell HB8.out.k2 6).trans rfl, (blk_cell HB8.out.k2 7).trans rfl, (blk_cell HB8.out.k2 8).trans rfl, (blk_cell HB8.out.k2 9).trans rfl, (blk_cell HB8.out.k2 10).trans rfl⟩ (fun hHeld => ?_)
  clear hK K
  refine norm_ (a' := ?_) ?_ ?_
  rotate_left
  · show Act.put _ (some 9) _ = _
    simp only [Act.put, List.setIfInBounds_toArray, List.set_cons_zero, List.set_cons_succ, i64_w, i32_w]
    rfl
  refine pure_ (i := 5) (N := some 4) (v := ?_) (a' := ?_) #[true, true, true, true, true, true] rfl rfl (by kernel_rfl) (fun _ _ _ h => h) (Or.inl ⟨by rfl, ?_⟩) ?_ ?_
  rotate_left
  · intro w'
    go_simp
    with_reducible rfl
  rotate_left
  · simp only [Act.put, List.setIfInBounds_toArray, List.set_cons_zero, List.set_cons_succ, i64_w, i32_w]
    rfl
  refine done_ (by kernel_rfl) ?_
  go_wp2
  go_ret
  exact ⟨rfl, HB8.out.bw⟩

end Go.Proofs.Ytoigebnhnkdbbaa.Tr
