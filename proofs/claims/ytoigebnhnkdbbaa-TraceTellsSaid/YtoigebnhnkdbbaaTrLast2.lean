/- span.End, trace.last (chapter 26), by hand. -/
import Derived.Test.YtoigebnhnkdbbaaTrAsm2
import Derived.Laws.ResultCell
namespace Go.Proofs.Ytoigebnhnkdbbaa.Tr
open Go.RowKit Go.Proofs.YtoigebnhnkdbbaaW.PrintWords Go.Proofs.YtoigebnhnkdbbaaW.PrintLast Go.Proofs.YtoigebnhnkdbbaaW.PrintMore Go.Proofs.Ytoigebnhnkdbbaa.Math Go.Proofs.Ytoigebnhnkdbbaa.PAll Go.Proofs.Ytoigebnhnkdbbaa.MapG
open Go.ChangeMaps (setBlock)
set_option linter.unusedVariables false
set_option linter.unusedSimpArgs false

/-- Starts and lengths that do not overflow. -/
def Sml (s : Sp) : Prop := -2305843009213693952 ≤ s.st ∧ s.st ≤ 2305843009213693952 ∧ -2305843009213693952 ≤ s.du ∧ s.du ≤ 2305843009213693952
theorem Sml.en {s : Sp} (h : Sml s) : wrap64 (s.st + s.du) = enD s := by
  obtain ⟨h1, h2, h3, h4⟩ := h
  unfold enD wrap64
  omega
set_option maxHeartbeats 1000000 in
theorem end_calls {s : Sp} (hs : Sml s) (w : World) : Calls Try.prog 26 #[.agg (encS s).toArray] w fun e w' => e = .returned (.int .i64 (enD s)) ∧ Below w.heap.size w w' := by
  have HE := Lib.hid hs.en
  have HB := Lib.hid (below_alloc (Below.refl w.heap.size w) (.cells (encS s).toArray 38))
  have HK := Lib.hid (heap_alloc_new w (.cells (encS s).toArray 38))
  rw [arr_S] at HB HK ⊢
  clear hs
  go_enter Try.func26, Try.ntmps26
  go_upto_region 1 with (fail)
  generalize (w.alloc (.cells #[.int .u64 s.tr, .int .u64 s.id, .int .u64 s.par, .string s.svc, .string s.op, .int .i64 s.st, .int .i64 s.du, .int .i64 s.stt, .slice s.a.1 s.a.2.1 s.a.2.2, .slice s.e.1 s.e.2.1 s.e.2.2, .slice s.l.1 s.l.2.1 s.l.2.2] 38)) = w1 at HB HK ⊢
  have y1 : w1.cell? ⟨w.heap.size, 5, none⟩ = some (.int .i64 s.st) := (blk_cell HK.out 5).trans rfl
  have y2 : w1.cell? ⟨w.heap.size, 6, none⟩ = some (.int .i64 s.du) := (blk_cell HK.out 6).trans rfl
  go_wp2
  go_ret
  exact ⟨by rw [← HE.out]; rfl, HB.out⟩

/-- What last's comparison begins with. -/
structure Cm (x y : Sp) (w w1 : World) : Prop where
  bw : Below w.heap.size w w1
  k1 : w1.heap[w.heap.size]? = some (.cells (encS x).toArray 38 (0, 0))
  k2 : w1.heap[w.heap.size + 1]? = some (.cells (encS y).toArray 38 (0, 0))
theorem Cm.next {x y : Sp} {w w1 w2 : World} (h : Cm x y w w1) (hb : Below w1.heap.size w1 w2) : Cm x y w w2 := ⟨below_step h.bw hb, block_below h.k1 hb, block_below h.k2 hb⟩
theorem Cm.cells {x y : Sp} {w w1 : World} (h : Cm x y w w1) : w1.cell? ⟨w.heap.size, 0, none⟩ = some (.int .u64 x.tr) ∧ w1.cell? ⟨w.heap.size, 1, none⟩ = some (.int .u64 x.id) ∧ w1.cell? ⟨w.heap.size, 2, none⟩ = some (.int .u64 x.par) ∧ w1.cell? ⟨w.heap.size, 3, none⟩ = some (.string x.svc) ∧ w1.cell? ⟨w.heap.size, 4, none⟩ = some (.string x.op) ∧ w1.cell? ⟨w.heap.size, 5, none⟩ = some (.int .i64 x.st) ∧ w1.cell? ⟨w.heap.size, 6, none⟩ = some (.int .i64 x.du) ∧ w1.cell? ⟨w.heap.size, 7, none⟩ = some (.int .i64 x.stt) ∧ w1.cell? ⟨w.heap.size, 8, none⟩ = some (.slice x.a.1 x.a.2.1 x.a.2.2) ∧ w1.cell? ⟨w.heap.size, 9, none⟩ = some (.slice x.e.1 x.e.2.1 x.e.2.2) ∧ w1.cell? ⟨w.heap.size, 10, none⟩ = some (.slice x.l.1 x.l.2.1 x.l.2.2) ∧ w1.cell? ⟨w.heap.size + 1, 0, none⟩ = some (.int .u64 y.tr) ∧ w1.cell? ⟨w.heap.size + 1, 1, none⟩ = some (.int .u64 y.id) ∧ w1.cell? ⟨w.heap.size + 1, 2, none⟩ = some (.int .u64 y.par) ∧ w1.cell? ⟨w.heap.size + 1, 3, none⟩ = some (.string y.svc) ∧ w1.cell? ⟨w.heap.size + 1, 4, none⟩ = some (.string y.op) ∧ w1.cell? ⟨w.heap.size + 1, 5, none⟩ = some (.int .i64 y.st) ∧ w1.cell? ⟨w.heap.size + 1, 6, none⟩ = some (.int .i64 y.du) ∧ w1.cell? ⟨w.heap.size + 1, 7, none⟩ = some (.int .i64 y.stt) ∧ w1.cell? ⟨w.heap.size + 1, 8, none⟩ = some (.slice y.a.1 y.a.2.1 y.a.2.2) ∧ w1.cell? ⟨w.heap.size + 1, 9, none⟩ = some (.slice y.e.1 y.e.2.1 y.e.2.2) ∧ w1.cell? ⟨w.heap.size + 1, 10, none⟩ = some (.slice y.l.1 y.l.2.1 y.l.2.2) :=
  ⟨(blk_cell h.k1 0).trans rfl, (blk_cell h.k1 1).trans rfl, (blk_cell h.k1 2).trans rfl, (blk_cell h.k1 3).trans rfl, (blk_cell h.k1 4).trans rfl, (blk_cell h.k1 5).trans rfl, (blk_cell h.k1 6).trans rfl, (blk_cell h.k1 7).trans rfl, (blk_cell h.k1 8).trans rfl, (blk_cell h.k1 9).trans rfl, (blk_cell h.k1 10).trans rfl, (blk_cell h.k2 0).trans rfl, (blk_cell h.k2 1).trans rfl, (blk_cell h.k2 2).trans rfl, (blk_cell h.k2 3).trans rfl, (blk_cell h.k2 4).trans rfl, (blk_cell h.k2 5).trans rfl, (blk_cell h.k2 6).trans rfl, (blk_cell h.k2 7).trans rfl, (blk_cell h.k2 8).trans rfl, (blk_cell h.k2 9).trans rfl, (blk_cell h.k2 10).trans rfl⟩
set_option maxHeartbeats 4000000 in
set_option maxRecDepth 100000 in
theorem lastcmp_calls {x y : Sp} (hx : Sml x) (hy : Sml y) (w : World) : Calls Try.prog 37 #[.agg (encS x).toArray, .agg (encS y).toArray] w fun e w' => e = .returned (.int .i64 (cmpI (enD x) (enD y))) ∧ Below w.heap.size w w' := by
  have hb := below_alloc (below_alloc (Below.refl w.heap.size w) (.cells (encS x).toArray 38)) (.cells (encS y).toArray 38)
  have k1 : ((w.alloc (.cells (encS x).toArray 38)).alloc (.cells (encS y).toArray 38)).heap[w.heap.size]? = some (.cells (encS x).toArray 38 (0, 0)) := block_below (heap_alloc_new w _) (below_alloc (Below.refl _ _) _)
  have k2 : ((w.alloc (.cells (encS x).toArray 38)).alloc (.cells (encS y).toArray 38)).heap[(w.alloc (.cells (encS x).toArray 38)).heap.size]? = some (.cells (encS y).toArray 38 (0, 0)) := heap_alloc_new _ _
  rw [show (w.alloc (.cells (encS x).toArray 38)).heap.size = w.heap.size + 1 by simp] at k2
  have hcm : Cm x y w ((w.alloc (.cells (encS x).toArray 38)).alloc (.cells (encS y).toArray 38)) := ⟨hb, k1, k2⟩
  have HX := Lib.hid hx
  have HY := Lib.hid hy
  have HC := Lib.hid hcm
  clear hb k1 k2 hcm hx hy
  rw [arr_S, arr_S] at HC ⊢
  go_enter Try.func37, Try.ntmps37
  go_upto_region 1 with (fail)
  generalize ((w.alloc (.cells #[.int .u64 x.tr, .int .u64 x.id, .int .u64 x.par, .string x.svc, .string x.op, .int .i64 x.st, .int .i64 x.du, .int .i64 x.stt, .slice x.a.1 x.a.2.1 x.a.2.2, .slice x.e.1 x.e.2.1 x.e.2.2, .slice x.l.1 x.l.2.1 x.l.2.2] 38)).alloc (.cells #[.int .u64 y.tr, .int .u64 y.id, .int .u64 y.par, .string y.svc, .string y.op, .int .i64 y.st, .int .i64 y.du, .int .i64 y.stt, .slice y.a.1 y.a.2.1 y.a.2.2, .slice y.e.1 y.e.2.1 y.e.2.2, .slice y.l.1 y.l.2.1 y.l.2.2] 38)) = w2 at HC ⊢
  generalize (Value.agg #[.int .u64 x.tr, .int .u64 x.id, .int .u64 x.par, .string x.svc, .string x.op, .int .i64 x.st, .int .i64 x.du, .int .i64 x.stt, .slice x.a.1 x.a.2.1 x.a.2.2, .slice x.e.1 x.e.2.1 x.e.2.2, .slice x.l.1 x.l.2.1 x.l.2.2]) = junk1
  generalize (Value.agg #[.int .u64 y.tr, .int .u64 y.id, .int .u64 y.par, .string y.svc, .string y.op, .int .i64 y.st, .int .i64 y.du, .int .i64 y.stt, .slice y.a.1 y.a.2.1 y.a.2.2, .slice y.e.1 y.e.2.1 y.e.2.2, .slice y.l.1 y.l.2.1 y.l.2.2]) = junk2
  have hcd := HC.out.next (below_drew (Below.refl w2.heap.size w2))
  obtain ⟨x0, x1, x2, x3, x4, x5, x6, x7, x8, x9, x10, x11, x12, x13, x14, x15, x16, x17, x18, x19, x20, x21⟩ := hcd.cells
  refine start_ (n := 6) (S := fun w' => w'.cell? ⟨w.heap.size, 0, none⟩ = some (.int .u64 x.tr) ∧ w'.cell? ⟨w.heap.size, 1, none⟩ = some (.int .u64 x.id) ∧ w'.cell? ⟨w.heap.size, 2, none⟩ = some (.int .u64 x.par) ∧ w'.cell? ⟨w.heap.size, 3, none⟩ = some (.string x.svc) ∧ w'.cell? ⟨w.heap.size, 4, none⟩ = some (.string x.op) ∧ w'.cell? ⟨w.heap.size, 5, none⟩ = some (.int .i64 x.st) ∧ w'.cell? ⟨w.heap.size, 6, none⟩ = some (.int .i64 x.du) ∧ w'.cell? ⟨w.heap.size, 7, none⟩ = some (.int .i64 x.stt) ∧ w'.cell? ⟨w.heap.size, 8, none⟩ = some (.slice x.a.1 x.a.2.1 x.a.2.2) ∧ w'.cell? ⟨w.heap.size, 9, none⟩ = some (.slice x.e.1 x.e.2.1 x.e.2.2) ∧ w'.cell? ⟨w.heap.size, 10, none⟩ = some (.slice x.l.1 x.l.2.1 x.l.2.2) ∧ w'.cell? ⟨w.heap.size + 1, 0, none⟩ = some (.int .u64 y.tr) ∧ w'.cell? ⟨w.heap.size + 1, 1, none⟩ = some (.int .u64 y.id) ∧ w'.cell? ⟨w.heap.size + 1, 2, none⟩ = some (.int .u64 y.par) ∧ w'.cell? ⟨w.heap.size + 1, 3, none⟩ = some (.string y.svc) ∧ w'.cell? ⟨w.heap.size + 1, 4, none⟩ = some (.string y.op) ∧ w'.cell? ⟨w.heap.size + 1, 5, none⟩ = some (.int .i64 y.st) ∧ w'.cell? ⟨w.heap.size + 1, 6, none⟩ = some (.int .i64 y.du) ∧ w'.cell? ⟨w.heap.size + 1, 7, none⟩ = some (.int .i64 y.stt) ∧ w'.cell? ⟨w.heap.size + 1, 8, none⟩ = some (.slice y.a.1 y.a.2.1 y.a.2.2) ∧ w'.cell? ⟨w.heap.size + 1, 9, none⟩ = some (.slice y.e.1 y.e.2.1 y.e.2.2) ∧ w'.cell? ⟨w.heap.size + 1, 10, none⟩ = some (.slice y.l.1 y.l.2.1 y.l.2.2)) (ds := []) #[false, false, false, false, false, false] (by kernel_rfl) rfl rfl ⟨x0, x1, x2, x3, x4, x5, x6, x7, x8, x9, x10, x11, x12, x13, x14, x15, x16, x17, x18, x19, x20, x21⟩ (fun hHeld => ?_)
  generalize w2.drew = WN0 at hcd hHeld ⊢
  have HB := Lib.hid hcd
  clear hcd x0 x1 x2 x3 x4 x5 x6 x7 x8 x9 x10 x11 x12 x13 x14 x15 x16 x17 x18 x19 x20 x21
  refine take_ (i := 0) (N := some 5) (v := ?_) (a' := ?_) #[true, false, false, false, false, false] rfl rfl (by kernel_rfl) (fun _ _ _ h => h) (Or.inl ⟨by rfl, ?_⟩) hHeld ?_ ?_
  rotate_left
  · rintro w' ⟨s0, s1, s2, s3, s4, s5, s6, s7, s8, s9, s10, s11, s12, s13, s14, s15, s16, s17, s18, s19, s20, s21⟩
    go_simp
    with_reducible rfl
  rotate_left
  · simp only [Act.put, List.setIfInBounds_toArray, List.set_cons_zero, List.set_cons_succ, i64_w, i32_w]
    rfl
  refine take_ (i := 2) (N := some 7) (v := ?_) (a' := ?_) #[true, false, true, false, false, false] rfl rfl (by kernel_rfl) (fun _ _ _ h => h) (Or.inl ⟨by rfl, ?_⟩) hHeld ?_ ?_
  rotate_left
  · rintro w' ⟨s0, s1, s2, s3, s4, s5, s6, s7, s8, s9, s10, s11, s12, s13, s14, s15, s16, s17, s18, s19, s20, s21⟩
    go_simp
    with_reducible rfl
  rotate_left
  · simp only [Act.put, List.setIfInBounds_toArray, List.set_cons_zero, List.set_cons_succ, i64_w, i32_w]
    rfl
  refine one_ (i := 1) (N := some 6) #[true, true, true, false, false, false] rfl rfl (by kernel_rfl) (by decide) (fun K hK => ?_)
  have hend := end_calls HX.out WN0
  rw [arr_S] at hend
  refine goes_ Try.func26 (by kernel_rfl) rfl #[.agg #[.int .u64 x.tr, .int .u64 x.id, .int .u64 x.par, .string x.svc, .string x.op, .int .i64 x.st, .int .i64 x.du, .int .i64 x.stt, .slice x.a.1 x.a.2.1 x.a.2.2, .slice x.e.1 x.e.2.1 x.e.2.2, .slice x.l.1 x.l.2.1 x.l.2.2]] (by rfl) rfl rfl (by simp only [List.map_toArray, List.map_cons, List.map_nil]; rfl) ?_
  with_reducible refine (hend).mono ?_
  rintro ee w6 ⟨rfl, hb⟩
  refine ⟨_, rfl, ?_⟩
  have HB6 := Lib.hid (HB.out.next hb)
  clear hb hend
  refine hK.out _ _ ⟨(blk_cell HB6.out.k1 0).trans rfl, (blk_cell HB6.out.k1 1).trans rfl, (blk_cell HB6.out.k1 2).trans rfl, (blk_cell HB6.out.k1 3).trans rfl, (blk_cell HB6.out.k1 4).trans rfl, (blk_cell HB6.out.k1 5).trans rfl, (blk_cell HB6.out.k1 6).trans rfl, (blk_cell HB6.out.k1 7).trans rfl, (blk_cell HB6.out.k1 8).trans rfl, (blk_cell HB6.out.k1 9).trans rfl, (blk_cell HB6.out.k1 10).trans rfl, (blk_cell HB6.out.k2 0).trans rfl, (blk_cell HB6.out.k2 1).trans rfl, (blk_cell HB6.out.k2 2).trans rfl, (blk_cell HB6.out.k2 3).trans rfl, (blk_cell HB6.out.k2 4).trans rfl, (blk_cell HB6.out.k2 5).trans rfl, (blk_cell HB6.out.k2 6).trans rfl, (blk_cell HB6.out.k2 7).trans rfl, (blk_cell HB6.out.k2 8).trans rfl, (blk_cell HB6.out.k2 9).trans rfl, (blk_cell HB6.out.k2 10).trans rfl⟩ (fun hHeld => ?_)
  clear hK K
  refine norm_ (a' := ?_) ?_ ?_
  rotate_left
  · show Act.put _ (some 6) _ = _
    simp only [Act.put, List.setIfInBounds_toArray, List.set_cons_zero, List.set_cons_succ, i64_w, i32_w]
    rfl
  refine one_ (i := 3) (N := some 8) #[true, true, true, true, false, false] rfl rfl (by kernel_rfl) (by decide) (fun K hK => ?_)
  have hend := end_calls HY.out w6
  rw [arr_S] at hend
  refine goes_ Try.func26 (by kernel_rfl) rfl #[.agg #[.int .u64 y.tr, .int .u64 y.id, .int .u64 y.par, .string y.svc, .string y.op, .int .i64 y.st, .int .i64 y.du, .int .i64 y.stt, .slice y.a.1 y.a.2.1 y.a.2.2, .slice y.e.1 y.e.2.1 y.e.2.2, .slice y.l.1 y.l.2.1 y.l.2.2]] (by rfl) rfl rfl (by simp only [List.map_toArray, List.map_cons, List.map_nil]; rfl) ?_
  with_reducible refine (hend).mono ?_
  rintro ee w8 ⟨rfl, hb⟩
  refine ⟨_, rfl, ?_⟩
  have HB8 := Lib.hid (HB6.out.next hb)
  clear hb hend
  refine hK.out _ _ ⟨(blk_cell HB8.out.k1 0).trans rfl, (blk_cell HB8.out.k1 1).trans rfl, (blk_cell HB8.out.k1 2).trans rfl, (blk_cell HB8.out.k1 3).trans rfl, (blk_cell HB8.out.k1 4).trans rfl, (blk_cell HB8.out.k1 5).trans rfl, (blk_cell HB8.out.k1 6).trans rfl, (blk_cell HB8.out.k1 7).trans rfl, (blk_cell HB8.out.k1 8).trans rfl, (blk_cell HB8.out.k1 9).trans rfl, (blk_cell HB8.out.k1 10).trans rfl, (blk_cell HB8.out.k2 0).trans rfl, (blk_cell HB8.out.k2 1).trans rfl, (blk_cell HB8.out.k2 2).trans rfl, (blk_cell HB8.out.k2 3).trans rfl, (blk_cell HB8.out.k2 4).trans rfl, (blk_cell HB8.out.k2 5).trans rfl, (blk_cell HB8.out.k2 6).trans rfl, (blk_cell HB8.out.k2 7).trans rfl, (blk_cell HB8.out.k2 8).trans rfl, (blk_cell HB8.out.k2 9).trans rfl, (blk_cell HB8.out.k2 10).trans rfl⟩ (fun hHeld => ?_)
  clear hK K
  refine norm_ (a' := ?_) ?_ ?_
  rotate_left
  · show Act.put _ (some 8) _ = _
    simp only [Act.put, List.setIfInBounds_toArray, List.set_cons_zero, List.set_cons_succ, i64_w, i32_w]
    rfl
  refine one_ (i := 4) (N := some 9) #[true, true, true, true, true, false] rfl rfl (by kernel_rfl) (by decide) (fun K hK => ?_)
  refine goes_ Try.func38 (by kernel_rfl) rfl #[.int .i64 (enD x), .int .i64 (enD y)] (by rfl) rfl rfl (by simp only [List.map_toArray, List.map_cons, List.map_nil]; rfl) ?_
  with_reducible refine (cmpi_calls (enD x) (enD y) w8).mono ?_
  rintro ee w9 ⟨rfl, rfl⟩
  refine ⟨_, rfl, ?_⟩
  refine hK.out _ _ ⟨(blk_cell HB8.out.k1 0).trans rfl, (blk_cell HB8.out.k1 1).trans rfl, (blk_cell HB8.out.k1 2).trans rfl, (blk_cell HB8.out.k1 3).trans rfl, (blk_cell HB8.out.k1 4).trans rfl, (blk_cell HB8.out.k1 5).trans rfl, (blk_cell HB8.out.k1 6).trans rfl, (blk_cell HB8.out.k1 7).trans rfl, (blk_cell HB8.out.k1 8).trans rfl, (blk_cell HB8.out.k1 9).trans rfl, (blk_cell HB8.out.k1 10).trans rfl, (blk_cell HB8.out.k2 0).trans rfl, (blk_cell HB8.out.k2 1).trans rfl, (blk_cell HB8.out.k2 2).trans rfl, (blk_cell HB8.out.k2 3).trans rfl, (blk_cell HB8.out.k2 4).trans rfl, (blk_cell HB8.out.k2 5).trans rfl, (blk_cell HB8.out.k2 6).trans rfl, (blk_cell HB8.out.k2 7).trans rfl, (blk_cell HB8.out.k2 8).trans rfl, (blk_cell HB8.out.k2 9).trans rfl, (blk_cell HB8.out.k2 10).trans rfl⟩ (fun hHeld => ?_)
  clear hK K
  refine norm_ (a' := ?_) ?_ ?_
  rotate_left
  · show Act.put _ (some 9) _ = _
    simp only [Act.put, List.setIfInBounds_toArray, List.set_cons_zero, List.set_cons_succ, i64_w, i32_w]
    rfl
  refine pure_ (i := 5) (N := some 4) (v := ?_) (a' := ?_) #[true, true, true, true, true, true] rfl rfl (by kernel_rfl) (fun _ _ _ h => h) (Or.inl ⟨by rfl, ?_⟩) ?_ ?_
  rotate_left
  · intro w'
    go_simp
    with_reducible rfl
  rotate_left
  · simp only [Act.put, List.setIfInBounds_toArray, List.set_cons_zero, List.set_cons_succ, i64_w, i32_w]
    rfl
  refine done_ (by kernel_rfl) ?_
  go_wp2
  go_ret
  exact ⟨rfl, HB8.out.bw⟩

end Go.Proofs.Ytoigebnhnkdbbaa.Tr

namespace Go.Proofs.Ytoigebnhnkdbbaa.Tr
open Go.RowKit Go.Proofs.YtoigebnhnkdbbaaW.PrintWords Go.Proofs.YtoigebnhnkdbbaaW.PrintLast Go.Proofs.YtoigebnhnkdbbaaW.PrintMore Go.Proofs.Ytoigebnhnkdbbaa.Math Go.Proofs.Ytoigebnhnkdbbaa.PAll Go.Proofs.Ytoigebnhnkdbbaa.MapG
open Go.ChangeMaps (setBlock)
set_option linter.unusedVariables false
set_option linter.unusedSimpArgs false

section
variable {P : Program} {ops : Array Oper} {Q : Exit → Act → World → Prop}
/-- A call of a function value: as goes_. -/
theorem goesv_ {oi : Oper} {N : Option Tmp} {a : Act} {w : World} {K : Act → World → Prop} {f : FuncId} {fn : Func} {x : Operand} {cap : Array Value} {as_ : Array Operand} {ts : Array TypeId} (hf : P.funcs[f]? = some fn) (hname : (fn.name == "runtime.NumGoroutine") = false) (hb : fn.body.isSome = true) (args : Array Value)
    (hw : Region.wanted oi (yielded ops a.tmps) = true) (hN : oi.dst = N) (hop : oi.op = .call { callee := .value x, args := as_, argTypes := ts }) (hx : a.eval x = .func (.func f) #[] cap) (hargs : as_.map a.eval ++ cap = args)
    (h : Calls P f args w fun e w' => ∃ v, e = .returned v ∧ K (a.put N v) w') : if Region.wanted oi (yielded ops a.tmps) = true then Oper.wp P oi a w K Q else K (a.put N undef) w := by
  refine call_ f args hw hN ?_ h
  have he := enters_ hf hname hb args w
  unfold execOp
  simp [hop, resolve, Deferred.ofValue, invoke, hargs, hx, he]
end

/-- The empty span. -/
def zS : Sp := ⟨0, 0, 0, ⟨#[]⟩, ⟨#[]⟩, 0, 0, 0, (none, 0, 0), (none, 0, 0), (none, 0, 0)⟩
theorem arr_Z : (encS zS).toArray = #[.int .u64 0, .int .u64 0, .int .u64 0, .string ⟨#[]⟩, .string ⟨#[]⟩, .int .i64 0, .int .i64 0, .int .i64 0, .slice none 0 0, .slice none 0 0, .slice none 0 0] := rfl
structure Mx (w wr : World) (m : Sp) : Prop where
  bw : Below w.heap.size w wr
  res : wr.heap[w.heap.size]? = some (.cells (encS zS).toArray 38 (0, 0))
  max : wr.heap[w.heap.size + 1]? = some (.cells (encS m).toArray 38 (0, 0))
theorem Mx.next {w wr w1 : World} {m : Sp} (h : Mx w wr m) (hb : Below wr.heap.size wr w1) : Mx w w1 m := ⟨below_step h.bw hb, block_below h.res hb, block_below h.max hb⟩
/-- A span stored in a block of its own. -/
def putS (w : World) (g : Nat) (s : Sp) : World := (((((((((((w.setCell ⟨g, 0, none⟩ (.int .u64 s.tr)).setCell ⟨g, 1, none⟩ (.int .u64 s.id)).setCell ⟨g, 2, none⟩ (.int .u64 s.par)).setCell ⟨g, 3, none⟩ (.string s.svc)).setCell ⟨g, 4, none⟩ (.string s.op)).setCell ⟨g, 5, none⟩ (.int .i64 s.st)).setCell ⟨g, 6, none⟩ (.int .i64 s.du)).setCell ⟨g, 7, none⟩ (.int .i64 s.stt)).setCell ⟨g, 8, none⟩ (.slice s.a.1 s.a.2.1 s.a.2.2)).setCell ⟨g, 9, none⟩ (.slice s.e.1 s.e.2.1 s.e.2.2)).setCell ⟨g, 10, none⟩ (.slice s.l.1 s.l.2.1 s.l.2.2))
theorem putS_far {w : World} {g k : Nat} (s : Sp) (h : k ≠ g) : (putS w g s).heap[k]? = w.heap[k]? := by
  unfold putS
  iterate 11 rw [Below.heap_setCell _ _ _ _ h]
theorem putS_size (w : World) (g : Nat) (s : Sp) : (putS w g s).heap.size = w.heap.size := by
  unfold putS
  simp only [World.size_setCell]
theorem putS_same {w : World} {g : Nat} {m : Sp} {t : TypeId} (s : Sp) (h : w.heap[g]? = some (.cells (encS m).toArray t (0, 0))) : (putS w g s).heap[g]? = some (.cells (encS s).toArray t (0, 0)) := by
  have h' := blk_set (blk_set (blk_set (blk_set (blk_set (blk_set (blk_set (blk_set (blk_set (blk_set (blk_set (h) 0 (.int .u64 s.tr)) 1 (.int .u64 s.id)) 2 (.int .u64 s.par)) 3 (.string s.svc)) 4 (.string s.op)) 5 (.int .i64 s.st)) 6 (.int .i64 s.du)) 7 (.int .i64 s.stt)) 8 (.slice s.a.1 s.a.2.1 s.a.2.2)) 9 (.slice s.e.1 s.e.2.1 s.e.2.2)) 10 (.slice s.l.1 s.l.2.1 s.l.2.2)
  unfold putS
  rw [h']
  simp only [encS, List.setIfInBounds_toArray, List.set_cons_zero, List.set_cons_succ]
theorem below_putS {w0 w : World} {g : Nat} (s : Sp) (h : Below w0.heap.size w0 w) (hg : w0.heap.size ≤ g) : Below w0.heap.size w0 (putS w g s) :=
  below_set (below_set (below_set (below_set (below_set (below_set (below_set (below_set (below_set (below_set (below_set (h) hg) hg) hg) hg) hg) hg) hg) hg) hg) hg) hg
theorem blkF {w : World} {g : Nat} {t : TypeId} {cs : Array Value} (h : w.heap[g]? = some (.cells cs t (0, 0))) : w.frozen? ⟨g, 0, none⟩ = false ∧ w.frozen? ⟨g, 1, none⟩ = false ∧ w.frozen? ⟨g, 2, none⟩ = false ∧ w.frozen? ⟨g, 3, none⟩ = false ∧ w.frozen? ⟨g, 4, none⟩ = false ∧ w.frozen? ⟨g, 5, none⟩ = false ∧ w.frozen? ⟨g, 6, none⟩ = false ∧ w.frozen? ⟨g, 7, none⟩ = false ∧ w.frozen? ⟨g, 8, none⟩ = false ∧ w.frozen? ⟨g, 9, none⟩ = false ∧ w.frozen? ⟨g, 10, none⟩ = false :=
  ⟨blk_frozen h 0, blk_frozen h 1, blk_frozen h 2, blk_frozen h 3, blk_frozen h 4, blk_frozen h 5, blk_frozen h 6, blk_frozen h 7, blk_frozen h 8, blk_frozen h 9, blk_frozen h 10⟩
theorem Mx.set {w wr : World} {m : Sp} (h : Mx w wr m) (s : Sp) : Mx w (putS wr (w.heap.size + 1) s) s :=
  ⟨below_putS s h.bw (by omega), (putS_far s (by omega)).trans h.res, putS_same s h.max⟩
theorem Mx.start (w : World) (m : Sp) : Mx w ((w.alloc (.cells (encS zS).toArray 38)).alloc (.cells (encS m).toArray 38)) m := by
  have h2 := heap_alloc_new (w.alloc (.cells (encS zS).toArray 38)) (.cells (encS m).toArray 38)
  rw [show (w.alloc (.cells (encS zS).toArray 38)).heap.size = w.heap.size + 1 by simp] at h2
  exact ⟨below_alloc (below_alloc (Below.refl _ _) _) _, block_below (heap_alloc_new w _) (below_alloc (Below.refl _ _) _), h2⟩

set_option maxHeartbeats 4000000 in
set_option maxRecDepth 100000 in
theorem maxf_calls (A : Option Addr) (c : Nat) (l : List Sp) (w : World) (hr : Kd.C kS w A l.length l) (hl : l.length ≤ c) (h0 : 0 < l.length) (hn : l.length ≤ 1000000) (hs : ∀ s ∈ l, Sml s) :
    Calls Try.prog 36 #[.slice A l.length c, .func (.func 37) #[] #[]] w fun e w' => ∃ m, lastS l = some m ∧ e = .returned (.agg (encS m).toArray) ∧ Below w.heap.size w w' := by
  have HR := Lib.hid hr
  have HN := Lib.hid hn
  have HS := Lib.hid hs
  obtain ⟨s0, hs0⟩ : ∃ s, l[0]? = some s := ⟨_, List.getElem?_eq_getElem h0⟩
  have HF := Lib.hid (show lastS (l.take 1) = some s0 by
    cases l with
    | nil => cases hs0
    | cons a r => simp at hs0; subst hs0; rfl)
  have HM0 := Lib.hid (List.mem_of_getElem? hs0)
  have q1 : decide ((l.length : Int) < 1) = false := decide_eq_false (by omega)
  have q0 : (0 : Int) < (l.length : Int) := by omega
  have H0 := Lib.hid h0
  have hz := below_alloc (Below.refl w.heap.size w) (.cells (encS zS).toArray 38)
  obtain ⟨ad, rfl, x0, x1, x2, x3, x4, x5, x6, x7, x8, x9, x10⟩ := at_S (Kd.C_below hr hz) hs0
  have HX := Lib.hid (Mx.start w s0)
  rw [arr_Z, arr_S] at HX
  rw [arr_Z] at x0 x1 x2 x3 x4 x5 x6 x7 x8 x9 x10
  have ea : ad.add (0 * 11) = ad := by simp [Addr.add]
  rw [ea] at x0 x1 x2 x3 x4 x5 x6 x7 x8 x9 x10
  clear ea
  clear hr hn hs hs0 h0 hz
  go_enter Try.func36, Try.ntmps36
  go_wp2
  clear x0 x1 x2 x3 x4 x5 x6 x7 x8 x9 x10 q1 q0
  go_loopw [6] (fun i wr => ∃ (k : Nat) (m : Sp), k ≤ l.length ∧ i = .int .i64 k ∧ Hid (0 < k) ∧ Hid (lastS (l.take k) = some m) ∧ Hid (m ∈ l) ∧ Hid (Mx w wr m)) (fun i _ => l.length - (intOf i).toNat)
  case atStart => exact ⟨1, s0, H0.out, rfl, Lib.hid (by omega), HF, HM0, HX⟩
  case round =>
    clear HX HF HM0 H0
    obtain ⟨k, m, hk, rfl, H0, HF, HM, HX⟩ := hrel
    by_cases hlt : k < l.length
    · obtain ⟨s, hs⟩ : ∃ s, l[k]? = some s := ⟨_, List.getElem?_eq_getElem hlt⟩
      have HSM := Lib.hid (List.mem_of_getElem? hs)
      have HTk := Lib.hid (show lastS (l.take (k + 1)) = some (best1 m s) by
        obtain ⟨hk2, e⟩ := List.getElem?_eq_some_iff.1 hs
        rw [List.take_succ_eq_append_getElem hk2, e, lastS_snoc, HF.out])
      have q : (k : Int) < (l.length : Int) := by omega
      have HK := Lib.hid (show k + 1 ≤ l.length by omega)
      have HW := Lib.hid (show wrap64 ((k : Int) + 1) = ((k + 1 : Nat) : Int) by have := HN.out; unfold wrap64; omega)
      have HGS := Lib.hid hs
      clear hs hlt hk
      go_upto_region 7 with (fail)
      have hxd := HX.out.next (below_drew (Below.refl wr.heap.size wr))
      obtain ⟨ad2, he2, x0, x1, x2, x3, x4, x5, x6, x7, x8, x9, x10⟩ := at_S (Kd.C_below HR.out hxd.bw) HGS.out
      injection he2 with he2
      subst he2
      obtain ⟨y0, y1, y2, y3, y4, y5, y6, y7, y8, y9, y10⟩ := blkS (s := m) hxd.max
      obtain ⟨r, hrr⟩ : ∃ r, cmpI (enD s) (enD m) = r := ⟨_, rfl⟩
      have HRR := Lib.hid hrr
      clear hrr
      refine start_ (n := 8) (S := fun w' => w'.cell? (ad.add (k * 11)) = some (.int .u64 s.tr) ∧ w'.cell? ⟨(ad.add (k * 11)).block, (ad.add (k * 11)).off + 1, none⟩ = some (.int .u64 s.id) ∧ w'.cell? ⟨(ad.add (k * 11)).block, (ad.add (k * 11)).off + 2, none⟩ = some (.int .u64 s.par) ∧ w'.cell? ⟨(ad.add (k * 11)).block, (ad.add (k * 11)).off + 3, none⟩ = some (.string s.svc) ∧ w'.cell? ⟨(ad.add (k * 11)).block, (ad.add (k * 11)).off + 4, none⟩ = some (.string s.op) ∧ w'.cell? ⟨(ad.add (k * 11)).block, (ad.add (k * 11)).off + 5, none⟩ = some (.int .i64 s.st) ∧ w'.cell? ⟨(ad.add (k * 11)).block, (ad.add (k * 11)).off + 6, none⟩ = some (.int .i64 s.du) ∧ w'.cell? ⟨(ad.add (k * 11)).block, (ad.add (k * 11)).off + 7, none⟩ = some (.int .i64 s.stt) ∧ w'.cell? ⟨(ad.add (k * 11)).block, (ad.add (k * 11)).off + 8, none⟩ = some (.slice s.a.1 s.a.2.1 s.a.2.2) ∧ w'.cell? ⟨(ad.add (k * 11)).block, (ad.add (k * 11)).off + 9, none⟩ = some (.slice s.e.1 s.e.2.1 s.e.2.2) ∧ w'.cell? ⟨(ad.add (k * 11)).block, (ad.add (k * 11)).off + 10, none⟩ = some (.slice s.l.1 s.l.2.1 s.l.2.2) ∧ w'.cell? ⟨w.heap.size + 1, 0, none⟩ = some (.int .u64 m.tr) ∧ w'.cell? ⟨w.heap.size + 1, 1, none⟩ = some (.int .u64 m.id) ∧ w'.cell? ⟨w.heap.size + 1, 2, none⟩ = some (.int .u64 m.par) ∧ w'.cell? ⟨w.heap.size + 1, 3, none⟩ = some (.string m.svc) ∧ w'.cell? ⟨w.heap.size + 1, 4, none⟩ = some (.string m.op) ∧ w'.cell? ⟨w.heap.size + 1, 5, none⟩ = some (.int .i64 m.st) ∧ w'.cell? ⟨w.heap.size + 1, 6, none⟩ = some (.int .i64 m.du) ∧ w'.cell? ⟨w.heap.size + 1, 7, none⟩ = some (.int .i64 m.stt) ∧ w'.cell? ⟨w.heap.size + 1, 8, none⟩ = some (.slice m.a.1 m.a.2.1 m.a.2.2) ∧ w'.cell? ⟨w.heap.size + 1, 9, none⟩ = some (.slice m.e.1 m.e.2.1 m.e.2.2) ∧ w'.cell? ⟨w.heap.size + 1, 10, none⟩ = some (.slice m.l.1 m.l.2.1 m.l.2.2)) (ds := []) #[false, false, false, false, false, false, false, false] (by kernel_rfl) rfl rfl ⟨x0, x1, x2, x3, x4, x5, x6, x7, x8, x9, x10, y0, y1, y2, y3, y4, y5, y6, y7, y8, y9, y10⟩ (fun hHeld => ?_)
      generalize wr.drew = w5 at hxd hHeld ⊢
      have HX5 := Lib.hid hxd
      clear hxd x0 x1 x2 x3 x4 x5 x6 x7 x8 x9 x10 y0 y1 y2 y3 y4 y5 y6 y7 y8 y9 y10
      refine pure_ (i := 0) (N := some 20) (v := ?_) (a' := ?_) #[true, false, false, false, false, false, false, false] rfl rfl (by kernel_rfl) (fun _ _ _ h => h) (Or.inl ⟨by rfl, ?_⟩) ?_ ?_
      rotate_left
      · intro w'
        go_simp
        with_reducible rfl
      rotate_left
      · simp only [Act.put, List.setIfInBounds_toArray, List.set_cons_zero, List.set_cons_succ, i64_w, i32_w]
        rfl
      refine pure_ (i := 1) (N := some 21) (v := ?_) (a' := ?_) #[true, true, false, false, false, false, false, false] rfl rfl (by kernel_rfl) (fun _ _ _ h => h) (Or.inl ⟨by rfl, ?_⟩) ?_ ?_
      rotate_left
      · intro w'
        go_simp
        with_reducible rfl
      rotate_left
      · simp only [Act.put, List.setIfInBounds_toArray, List.set_cons_zero, List.set_cons_succ, i64_w, i32_w]
        rfl
      refine pure_ (i := 2) (N := some 22) (v := ?_) (a' := ?_) #[true, true, true, false, false, false, false, false] rfl rfl (by kernel_rfl) (fun _ _ _ h => h) (Or.inl ⟨by rfl, ?_⟩) ?_ ?_
      rotate_left
      · intro w'
        go_simp
        with_reducible rfl
      rotate_left
      · simp only [Act.put, List.setIfInBounds_toArray, List.set_cons_zero, List.set_cons_succ, i64_w, i32_w]
        rfl
      refine pure_ (i := 3) (N := some 23) (v := ?_) (a' := ?_) #[true, true, true, true, false, false, false, false] rfl rfl (by kernel_rfl) (fun _ _ _ h => h) (Or.inl ⟨by rfl, ?_⟩) ?_ ?_
      rotate_left
      · intro w'
        go_simp
        with_reducible rfl
      rotate_left
      · simp only [Act.put, List.setIfInBounds_toArray, List.set_cons_zero, List.set_cons_succ, i64_w, i32_w]
        rfl
      refine take_ (i := 4) (N := some 24) (v := ?_) (a' := ?_) #[true, true, true, true, true, false, false, false] rfl rfl (by kernel_rfl) (fun _ _ _ h => h) (Or.inl ⟨by rfl, ?_⟩) hHeld ?_ ?_
      rotate_left
      · rintro w' ⟨s0, s1, s2, s3, s4, s5, s6, s7, s8, s9, s10, s11, s12, s13, s14, s15, s16, s17, s18, s19, s20, s21⟩
        go_simp
        with_reducible rfl
      rotate_left
      · simp only [Act.put, List.setIfInBounds_toArray, List.set_cons_zero, List.set_cons_succ, i64_w, i32_w]
        rfl
      refine take_ (i := 5) (N := some 25) (v := ?_) (a' := ?_) #[true, true, true, true, true, true, false, false] rfl rfl (by kernel_rfl) (fun _ _ _ h => h) (Or.inl ⟨by rfl, ?_⟩) hHeld ?_ ?_
      rotate_left
      · rintro w' ⟨s0, s1, s2, s3, s4, s5, s6, s7, s8, s9, s10, s11, s12, s13, s14, s15, s16, s17, s18, s19, s20, s21⟩
        go_simp
        with_reducible rfl
      rotate_left
      · simp only [Act.put, List.setIfInBounds_toArray, List.set_cons_zero, List.set_cons_succ, i64_w, i32_w]
        rfl
      refine one_ (i := 6) (N := some 26) #[true, true, true, true, true, true, true, false] rfl rfl (by kernel_rfl) (by decide) (fun K hK => ?_)
      have hcm := lastcmp_calls (HS.out s HSM.out) (HS.out m HM.out) w5
      rw [HRR.out, arr_S, arr_S] at hcm
      refine goesv_ Try.func37 (by kernel_rfl) rfl #[.agg #[.int .u64 s.tr, .int .u64 s.id, .int .u64 s.par, .string s.svc, .string s.op, .int .i64 s.st, .int .i64 s.du, .int .i64 s.stt, .slice s.a.1 s.a.2.1 s.a.2.2, .slice s.e.1 s.e.2.1 s.e.2.2, .slice s.l.1 s.l.2.1 s.l.2.2], .agg #[.int .u64 m.tr, .int .u64 m.id, .int .u64 m.par, .string m.svc, .string m.op, .int .i64 m.st, .int .i64 m.du, .int .i64 m.stt, .slice m.a.1 m.a.2.1 m.a.2.2, .slice m.e.1 m.e.2.1 m.e.2.2, .slice m.l.1 m.l.2.1 m.l.2.2]] (by rfl) rfl rfl (by rfl) (by simp only [List.map_toArray, List.map_cons, List.map_nil]; rfl) ?_
      with_reducible refine (hcm).mono ?_
      rintro ee w6 ⟨rfl, hb⟩
      refine ⟨_, rfl, ?_⟩
      have HX6 := Lib.hid (HX5.out.next hb)
      clear hb hcm
      obtain ⟨ad3, he3, x0, x1, x2, x3, x4, x5, x6, x7, x8, x9, x10⟩ := at_S (Kd.C_below HR.out HX6.out.bw) HGS.out
      injection he3 with he3
      subst he3
      refine hK.out _ _ ⟨x0, x1, x2, x3, x4, x5, x6, x7, x8, x9, x10, (blk_cell HX6.out.max 0).trans rfl, (blk_cell HX6.out.max 1).trans rfl, (blk_cell HX6.out.max 2).trans rfl, (blk_cell HX6.out.max 3).trans rfl, (blk_cell HX6.out.max 4).trans rfl, (blk_cell HX6.out.max 5).trans rfl, (blk_cell HX6.out.max 6).trans rfl, (blk_cell HX6.out.max 7).trans rfl, (blk_cell HX6.out.max 8).trans rfl, (blk_cell HX6.out.max 9).trans rfl, (blk_cell HX6.out.max 10).trans rfl⟩ (fun hHeld => ?_)
      clear hK K
      refine norm_ (a' := ?_) ?_ ?_
      rotate_left
      · show Act.put _ (some 26) _ = _
        simp only [Act.put, List.setIfInBounds_toArray, List.set_cons_zero, List.set_cons_succ, i64_w, i32_w]
        rfl
      refine pure_ (i := 7) (N := some 27) (v := ?_) (a' := ?_) #[true, true, true, true, true, true, true, true] rfl rfl (by kernel_rfl) (fun _ _ _ h => h) (Or.inl ⟨by rfl, ?_⟩) ?_ ?_
      rotate_left
      · intro w'
        go_simp
        with_reducible rfl
      rotate_left
      · simp only [Act.put, List.setIfInBounds_toArray, List.set_cons_zero, List.set_cons_succ, i64_w, i32_w]
        rfl
      refine done_ (by kernel_rfl) ?_
      clear HX5 HX
      by_cases hrp : 0 < r
      · have e1 : decide (0 < r) = true := decide_eq_true hrp
        have HB := Lib.hid (show best1 m s = s by
          unfold best1
          rw [if_pos]
          have := HRR.out
          unfold cmpI at this
          split at this
          · omega
          · split at this <;> omega)
        go_upto_region 8 with (fail)
        obtain ⟨f0, f1, f2, f3, f4, f5, f6, f7, f8, f9, f10⟩ := blkF HX6.out.max
        obtain ⟨y0, y1, y2, y3, y4, y5, y6, y7, y8, y9, y10⟩ := blkS (s := m) HX6.out.max
        go_upto_region 6 with (fail)
        have HX7 := Lib.hid (HX6.out.set s)
        change Hid (Mx w (((((((((((w6.setCell ⟨w.heap.size + 1, 0, none⟩ (.int .u64 s.tr)).setCell ⟨w.heap.size + 1, 1, none⟩ (.int .u64 s.id)).setCell ⟨w.heap.size + 1, 2, none⟩ (.int .u64 s.par)).setCell ⟨w.heap.size + 1, 3, none⟩ (.string s.svc)).setCell ⟨w.heap.size + 1, 4, none⟩ (.string s.op)).setCell ⟨w.heap.size + 1, 5, none⟩ (.int .i64 s.st)).setCell ⟨w.heap.size + 1, 6, none⟩ (.int .i64 s.du)).setCell ⟨w.heap.size + 1, 7, none⟩ (.int .i64 s.stt)).setCell ⟨w.heap.size + 1, 8, none⟩ (.slice s.a.1 s.a.2.1 s.a.2.2)).setCell ⟨w.heap.size + 1, 9, none⟩ (.slice s.e.1 s.e.2.1 s.e.2.2)).setCell ⟨w.heap.size + 1, 10, none⟩ (.slice s.l.1 s.l.2.1 s.l.2.2)) s) at HX7
        generalize (((((((((((w6.setCell ⟨w.heap.size + 1, 0, none⟩ (.int .u64 s.tr)).setCell ⟨w.heap.size + 1, 1, none⟩ (.int .u64 s.id)).setCell ⟨w.heap.size + 1, 2, none⟩ (.int .u64 s.par)).setCell ⟨w.heap.size + 1, 3, none⟩ (.string s.svc)).setCell ⟨w.heap.size + 1, 4, none⟩ (.string s.op)).setCell ⟨w.heap.size + 1, 5, none⟩ (.int .i64 s.st)).setCell ⟨w.heap.size + 1, 6, none⟩ (.int .i64 s.du)).setCell ⟨w.heap.size + 1, 7, none⟩ (.int .i64 s.stt)).setCell ⟨w.heap.size + 1, 8, none⟩ (.slice s.a.1 s.a.2.1 s.a.2.2)).setCell ⟨w.heap.size + 1, 9, none⟩ (.slice s.e.1 s.e.2.1 s.e.2.2)).setCell ⟨w.heap.size + 1, 10, none⟩ (.slice s.l.1 s.l.2.1 s.l.2.2)) = w7 at HX7 ⊢
        clear x0 x1 x2 x3 x4 x5 x6 x7 x8 x9 x10 y0 y1 y2 y3 y4 y5 y6 y7 y8 y9 y10 f0 f1 f2 f3 f4 f5 f6 f7 f8 f9 f10
        go_wp2
        go_roundw
        case rel => exact ⟨k + 1, s, HK.out, by rw [HW.out], Lib.hid (by omega), Lib.hid (by rw [HTk.out, HB.out]), HSM, HX7⟩
        case measure => exact meas_up HN.out HK.out
      · have e1 : decide (0 < r) = false := decide_eq_false hrp
        have HB := Lib.hid (show best1 m s = m by
          unfold best1
          rw [if_neg]
          have := HRR.out
          unfold cmpI at this
          split at this
          · omega
          · split at this <;> omega)
        have hrn : r ≤ 0 := by omega
        go_wp2
        go_roundw
        case rel => exact ⟨k + 1, m, HK.out, by rw [HW.out], Lib.hid (by omega), Lib.hid (by rw [HTk.out, HB.out]), HM, HX6⟩
        case measure => exact meas_up HN.out HK.out
    · have hkl : k = l.length := by omega
      subst hkl
      have q : decide ((l.length : Int) < (l.length : Int)) = false := decide_eq_false (by omega)
      rw [List.take_length] at HF
      clear hlt hk
      obtain ⟨x0, x1, x2, x3, x4, x5, x6, x7, x8, x9, x10⟩ := blkS (s := m) HX.out.max
      obtain ⟨y0, y1, y2, y3, y4, y5, y6, y7, y8, y9, y10⟩ := blkS (s := zS) HX.out.res
      obtain ⟨f0, f1, f2, f3, f4, f5, f6, f7, f8, f9, f10⟩ := blkF HX.out.res
      go_wp2
      have hi : (Try.prog.info? 38).map (·.size) = some 11 := by kernel_rfl
      have hb := putS_same m HX.out.res
      exact bodyPost_ret (v := .agg _) (results_cell_row rfl _ _ w.heap.size 38 _ (0, 0) _ rfl hb Try.underlying38 rfl hi) rfl ⟨m, HF.out, rfl, below_putS m HX.out.bw (Nat.le_refl _)⟩

end Go.Proofs.Ytoigebnhnkdbbaa.Tr

namespace Go.Proofs.Ytoigebnhnkdbbaa.Tr
open Go.RowKit Go.Proofs.YtoigebnhnkdbbaaW.PrintWords Go.Proofs.YtoigebnhnkdbbaaW.PrintLast Go.Proofs.YtoigebnhnkdbbaaW.PrintMore Go.Proofs.Ytoigebnhnkdbbaa.Math Go.Proofs.Ytoigebnhnkdbbaa.PAll Go.Proofs.Ytoigebnhnkdbbaa.MapG
open Go.ChangeMaps (setBlock)
set_option linter.unusedVariables false
set_option linter.unusedSimpArgs false

theorem results_row_tmp {P : Program} {fn : Func} {p u : Tmp} {ty : TypeId} (h : fn.results = #[.cell p ty, .tmp u]) (tmps : Array Value) (w : World) (g : Nat) (t : TypeId) (cs : Array Value) (fr : Nat × Nat) (d : TypeDesc)
    (hp : tmps.getD p undef = .pointer (some ⟨g, 0, none⟩)) (hg : w.heap[g]? = some (.cells cs t fr))
    (hu : P.underlying ty = some d) (hd : (match d with | .struct _ | .array _ _ => true | _ => false) = true) (hi : (P.info? ty).map (·.size) = some cs.size) :
    (results fn tmps).run P w = .ok (.tuple #[.agg cs, tmps.getD u undef]) w := by
  rw [results_cell_tmp h, hp]
  simp [asAddr, run_loadVar_row w g t ty cs fr d hg hu hd hi, Result.andThen]

set_option maxHeartbeats 2000000 in
set_option maxRecDepth 100000 in
theorem last_calls (A : Option Addr) (c : Nat) (l : List Sp) (w : World) (hr : Kd.C kS w A l.length l) (hl : l.length ≤ c) (hn : l.length ≤ 1000000) (hs : ∀ s ∈ l, Sml s) :
    Calls Try.prog 30 #[.slice A l.length c] w fun e w' => e = .returned (.tuple #[.agg (encS ((lastS l).getD zS)).toArray, .bool (lastS l).isSome]) ∧ Below w.heap.size w w' := by
  have hz := below_alloc (Below.refl w.heap.size w) (.cells (encS zS).toArray 38)
  have kz := heap_alloc_new w (.cells (encS zS).toArray 38)
  have hi : (Try.prog.info? 38).map (·.size) = some 11 := by kernel_rfl
  have HI := Lib.hid hi
  clear hi
  by_cases h0 : l = []
  · subst h0
    have HB := Lib.hid hz
    have KZ := Lib.hid kz
    rw [arr_Z] at HB KZ
    clear hz kz hr hl hn hs
    change Calls Try.prog 30 #[.slice A 0 c] w fun e w' => e = .returned (.tuple #[.agg (encS zS).toArray, .bool false]) ∧ Below w.heap.size w w'
    go_enter Try.func30, Try.ntmps30
    go_upto_region 1 with (fail)
    generalize (w.alloc (.cells #[.int .u64 0, .int .u64 0, .int .u64 0, .string ⟨#[]⟩, .string ⟨#[]⟩, .int .i64 0, .int .i64 0, .int .i64 0, .slice none 0 0, .slice none 0 0, .slice none 0 0] 38)) = w1 at HB KZ ⊢
    obtain ⟨y0, y1, y2, y3, y4, y5, y6, y7, y8, y9, y10⟩ := blkS (s := zS) KZ.out
    obtain ⟨f0, f1, f2, f3, f4, f5, f6, f7, f8, f9, f10⟩ := blkF KZ.out
    go_wp2
    exact bodyPost_ret (v := .tuple _) (results_row_tmp rfl _ _ w.heap.size 38 _ (0, 0) _ rfl (putS_same (m := zS) zS KZ.out) Try.underlying38 rfl HI.out) rfl ⟨rfl, below_putS zS HB.out (Nat.le_refl _)⟩
  · have hp : 0 < l.length := List.length_pos_iff.2 h0
    have hm := maxf_calls A c l (w.alloc (.cells (encS zS).toArray 38)) (Kd.C_below hr hz) hl hp hn hs
    have HMX := Lib.hid hm
    have HB := Lib.hid hz
    have KZ := Lib.hid kz
    rw [arr_Z] at HB KZ HMX
    have q1 : ((l.length : Int) == 0) = false := beq_eq_false_iff_ne.2 (by omega)
    clear hz kz hr hl hn hs h0 hm hp
    go_enter Try.func30, Try.ntmps30
    go_upto_region 1 with (fail)
    generalize (w.alloc (.cells #[.int .u64 0, .int .u64 0, .int .u64 0, .string ⟨#[]⟩, .string ⟨#[]⟩, .int .i64 0, .int .i64 0, .int .i64 0, .slice none 0 0, .slice none 0 0, .slice none 0 0] 38)) = w1 at HB KZ HMX ⊢
    go_wp2_with fail
    refine HMX.out.mono ?_
    rintro e w2 ⟨m, hm, rfl, hb⟩
    have KZ2 := Lib.hid (block_below KZ.out hb)
    have HB2 := Lib.hid (below_step HB.out hb)
    have HLM := Lib.hid hm
    clear hm hb
    obtain ⟨y0, y1, y2, y3, y4, y5, y6, y7, y8, y9, y10⟩ := blkS (s := zS) KZ2.out
    obtain ⟨f0, f1, f2, f3, f4, f5, f6, f7, f8, f9, f10⟩ := blkF KZ2.out
    rw [arr_S m]
    go_wp2
    exact bodyPost_ret (v := .tuple _) (results_row_tmp rfl _ _ w.heap.size 38 _ (0, 0) _ rfl (putS_same (m := zS) m KZ2.out) Try.underlying38 rfl HI.out) rfl ⟨by rw [HLM.out]; rfl, below_putS m HB2.out (Nat.le_refl _)⟩

end Go.Proofs.Ytoigebnhnkdbbaa.Tr
