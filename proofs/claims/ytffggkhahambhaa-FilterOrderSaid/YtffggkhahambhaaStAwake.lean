
import Derived.Test.YtffggkhahambhaaPAllx6
import Derived.Test.YtffggkhahambhaaSpBase
import Derived.Test.YtffggkhahambhaaSpanRef
import Derived.Test.YtffggkhahambhaaPAllx5
import Derived.Test.YtffggkhahambhaaStTop
import Derived.Lib.BytesEntry
import Derived.Laws.Externs
import Derived.Test.YtffggkhahambhaaStMatch
namespace Go.Proofs.Ytffggkhahambhaa.PAll
open Go.RowKit Go.Proofs.YtffggkhahambhaaW.PrintWords Go.Proofs.YtffggkhahambhaaW.PrintLast Go.Proofs.YtffggkhahambhaaW.PrintMore
set_option linter.unusedVariables false
set_option linter.unusedSimpArgs false
set_option maxHeartbeats 8000000 in
set_option maxRecDepth 100000 in
theorem key_Primary.callsR (k : Nat) (a0_0 : Int) (a0_1 : Int) (a0_2 : Int) (a0_3 : ByteArray) (a0_4 : ByteArray) (a0_5 : Int) (a0_6 : Int) (a0_7 : Int) (A0_8 : Option Addr) (c0_8 : Nat) (n0_8 : Nat) (A0_9 : Option Addr) (c0_9 : Nat) (n0_9 : Nat) (A0_10 : Option Addr) (c0_10 : Nat) (n0_10 : Nat) (r : List Int) (w : World) (h : key_Primary.f k a0_0 a0_1 a0_2 a0_3 a0_4 a0_5 a0_6 a0_7 [] [] [] = some r) :
  Calls Try.prog 44 #[.agg #[.int .u64 a0_0, .int .u64 a0_1, .int .u64 a0_2, .string a0_3, .string a0_4, .int .i64 a0_5, .int .i64 a0_6, .int .i64 a0_7, .slice A0_8 n0_8 c0_8, .slice A0_9 n0_9 c0_9, .slice A0_10 n0_10 c0_10]] w fun e w' => ∃ v0_ : Value, e = .returned (v0_) ∧ Kd.R (Kd.int .u8) 5 w' w.heap.size (fun _ => True) v0_ r ∧ Below w.heap.size w w' := by
 have hu34 := Try.underlying34
 have HB := Aside0.mk (Below.refl w.heap.size w)
 have H : ((num_Key.f k a0_0).bind fun t136 => ((num_Key.f k a0_1).bind fun t139 => (if t136.length + t139.length < 140737488355328 then (some (t136 ++ t139)) else (none)))) = some r := h
 clear h
 replace H := Option.bind_eq_some_iff.mp H
 obtain ⟨t136, A20, H⟩ := H
 replace H : ((num_Key.f k a0_1).bind fun t139 => (if t136.length + t139.length < 140737488355328 then (some (t136 ++ t139)) else (none))) = some r := H
 have A2 := Aside0.mk A20
 clear A20
 replace H := Option.bind_eq_some_iff.mp H
 obtain ⟨t139, A30, H⟩ := H
 replace H : (if t136.length + t139.length < 140737488355328 then (some (t136 ++ t139)) else (none)) = some r := H
 have A3 := Aside0.mk A30
 clear A30
 by_cases c4 : t136.length + t139.length < 140737488355328
 rotate_left
 ·rw [if_neg c4] at H
  exact absurd H (by simp)

 rw [if_pos c4] at H
 have LMc4 := Aside0.mk c4
 clear c4
 obtain ⟨y142, hy142⟩ : ∃ y_ : List Int, y_ = (t136 ++ t139) := ⟨_, rfl⟩
 replace H : (some y142) = some r := by first | (rw [hy142]; with_reducible exact H) | (have H2_ := (Option.bind_some _ _).symm.trans H; rw [hy142]; with_reducible exact H2_) | (have H2_ := (Option.bind_some _ _).symm.trans H; with_reducible exact H2_) | with_reducible exact H | (rw [hy142]; exact H) | exact H
 have Ny142 := Aside0.mk hy142
 clear hy142
 obtain rfl := Option.some.inj H
 go_enter Try.func44, Try.ntmps44
 try go_wp2_with (first | ((with_reducible refine gate_dst (N := 1) rfl ?_); refine box_event ?hg (N := 1) ?hd (cs := #[.int .u64 a0_0, .int .u64 a0_1, .int .u64 a0_2, .string a0_3, .string a0_4, .int .i64 a0_5, .int .i64 a0_6, .int .i64 a0_7, .slice A0_8 n0_8 c0_8, .slice A0_9 n0_9 c0_9, .slice A0_10 n0_10 c0_10]) (t := 34) ?hr ?_; (case hd => rfl); (case hg => rfl); (case hr => first | (go_simp; done) | (go_simp; rfl)); intro gb135 hg w5 hbox hb; have n0_ := Aside0.mk (below_step q6y1 hb); have n1_ := Aside0.mk (hbox); have n2_ := Aside0.mk ((by rw [hg]; exact (below_size q6y1) : w.heap.size ≤ gb135)); have n3_ := Aside0.mk ((by rw [hg]; exact (below_size q6y1) : w.heap.size ≤ gb135)); clear HB; have HB := n0_; have BK135 := n1_; have GW135 := n2_; have GE135 := n3_; clear n0_ n1_ n2_ n3_; clear hb hbox hg))
 have n0_ := Aside0.mk (blk_drew BK135.out)
 have n1_ := Aside0.mk (below_drew1 HB.out)
 clear BK135
 clear HB
 have BK135 := n0_
 have HB := n1_
 clear n0_ n1_
 refine start_ (n := 8) (S := fun w' => w'.cell? ⟨gb135, 0, none⟩ = some (.int .u64 a0_0) ∧ w'.cell? ⟨gb135, 1, none⟩ = some (.int .u64 a0_1) ∧ w'.cell? ⟨gb135, 2, none⟩ = some (.int .u64 a0_2) ∧ w'.cell? ⟨gb135, 3, none⟩ = some (.string a0_3) ∧ w'.cell? ⟨gb135, 4, none⟩ = some (.string a0_4) ∧ w'.cell? ⟨gb135, 5, none⟩ = some (.int .i64 a0_5) ∧ w'.cell? ⟨gb135, 6, none⟩ = some (.int .i64 a0_6) ∧ w'.cell? ⟨gb135, 7, none⟩ = some (.int .i64 a0_7) ∧ w'.cell? ⟨gb135, 8, none⟩ = some (.slice A0_8 n0_8 c0_8) ∧ w'.cell? ⟨gb135, 9, none⟩ = some (.slice A0_9 n0_9 c0_9) ∧ w'.cell? ⟨gb135, 10, none⟩ = some (.slice A0_10 n0_10 c0_10)) (ds := []) #[false, false, false, false, false, false, false, false] (by kernel_rfl) rfl rfl ⟨q6k BK135.out 0, q6k BK135.out 1, q6k BK135.out 2, q6k BK135.out 3, q6k BK135.out 4, q6k BK135.out 5, q6k BK135.out 6, q6k BK135.out 7, q6k BK135.out 8, q6k BK135.out 9, q6k BK135.out 10⟩ (fun hHeld => ?_); refine with_tabW key_Primary.tab1 key_Primary.bits1 (fun HT_ HW_ => ?_)
 generalize w5.drew = w6 at BK135 HB hHeld ⊢
 refine q6p (i := 0) (N := some 3) (q6m 8 1) HT_.out ?_
 refine q6p (i := 3) (N := some 6) (q6m 8 9) HT_.out ?_
 refine take_ (i := 1) (N := some 4) (v := ?_) (a' := ?_) (q6m 8 11) rfl rfl (take_ofW HT_.out HW_.out (by kernel_rfl)) (fun _ _ _ h => h) (Or.inl ⟨by rfl, ?_⟩) hHeld ?_ ?_; rotate_left; (rintro w' ⟨s0, s1, s2, s3, s4, s5, s6, s7, s8, s9, s10⟩; go_simp; with_reducible rfl); rotate_left; (simp only [Act.put, q6a, q6b, q6c, i64_w, i32_w]; rfl)
 refine take_ (i := 4) (N := some 7) (v := ?_) (a' := ?_) (q6m 8 27) rfl rfl (take_ofW HT_.out HW_.out (by kernel_rfl)) (fun _ _ _ h => h) (Or.inl ⟨by rfl, ?_⟩) hHeld ?_ ?_; rotate_left; (rintro w' ⟨s0, s1, s2, s3, s4, s5, s6, s7, s8, s9, s10⟩; go_simp; with_reducible rfl); rotate_left; (simp only [Act.put, q6a, q6b, q6c, i64_w, i32_w]; rfl)
 refine one_ (i := 2) (N := some 5) (q6m 8 31) rfl rfl (one_of HT_.out (by kernel_rfl)) (by decide) (fun K hK => ?_)
 refine goes_ Try.func45 (by kernel_rfl) rfl #[.int .u64 a0_0] (by rfl) rfl rfl q6y2 ?_
 with_reducible refine (num_Key.calls k a0_0 t136 _ A2.out).mono ?_
 rintro e w7 ⟨v137, rfl, ho0, hb⟩
 refine ⟨_, rfl, ?_⟩
 have n0_ := Aside0.mk (Kd.R_lower ho0 (below_size q6y3))
 have n1_ := Aside0.mk (blk_below (g := gb135) (o := .cells #[.int .u64 a0_0, .int .u64 a0_1, .int .u64 a0_2, .string a0_3, .string a0_4, .int .i64 a0_5, .int .i64 a0_6, .int .i64 a0_7, .slice A0_8 n0_8 c0_8, .slice A0_9 n0_9 c0_9, .slice A0_10 n0_10 c0_10] 34 (0, 0)) q6y5 hb)
 have n2_ := Aside0.mk (below_step q6y3 hb)
 clear BK135
 clear HB
 have HO138 := n0_
 have BK135 := n1_
 have HB := n2_
 clear n0_ n1_ n2_
 (try clear hb)
 (try clear hb2)
 (try clear hk)
 (try clear hi)
 (try clear ho0)
 refine hK.out _ _ ⟨q6k BK135.out 0, q6k BK135.out 1, q6k BK135.out 2, q6k BK135.out 3, q6k BK135.out 4, q6k BK135.out 5, q6k BK135.out 6, q6k BK135.out 7, q6k BK135.out 8, q6k BK135.out 9, q6k BK135.out 10⟩ (fun hHeld => ?_)
 clear hK K
 refine norm_ (a' := ?_) ?_ ?_
 rotate_left
 ·show Act.put _ (some 5) _ = _
  simp only [Act.put, q6a, q6b, q6c, i64_w, i32_w]
  rfl
 refine one_ (i := 5) (N := some 8) (q6m 8 63) rfl rfl (one_of HT_.out (by kernel_rfl)) (by decide) (fun K hK => ?_)
 refine goes_ Try.func45 (by kernel_rfl) rfl #[.int .u64 a0_1] (by rfl) rfl rfl q6y2 ?_
 with_reducible refine (num_Key.calls k a0_1 t139 _ A3.out).mono ?_
 rintro e w8 ⟨v140, rfl, ho0, hb⟩
 refine ⟨_, rfl, ?_⟩
 have n0_ := Aside0.mk (Kd.R_elder' (by (with_reducible repeat (first | apply Kd.R_alloc | apply Kd.R_drewN | apply Kd.R_drew)); exact HO138.out) (Kd.R_base ho0) hb)
 have n1_ := Aside0.mk (Kd.R_lower (Kd.R_new' ho0 (Kd.R_lt (by (with_reducible repeat (first | apply Kd.R_alloc | apply Kd.R_drewN | apply Kd.R_drew)); exact HO138.out))) (below_size q6y3))
 have n2_ := Aside0.mk (blk_below (g := gb135) (o := .cells #[.int .u64 a0_0, .int .u64 a0_1, .int .u64 a0_2, .string a0_3, .string a0_4, .int .i64 a0_5, .int .i64 a0_6, .int .i64 a0_7, .slice A0_8 n0_8 c0_8, .slice A0_9 n0_9 c0_9, .slice A0_10 n0_10 c0_10] 34 (0, 0)) q6y5 hb)
 have n3_ := Aside0.mk (below_step q6y3 hb)
 clear HO138
 clear BK135
 clear HB
 have HO138 := n0_
 have HO141 := n1_
 have BK135 := n2_
 have HB := n3_
 clear n0_ n1_ n2_ n3_
 (try clear hb)
 (try clear hb2)
 (try clear hk)
 (try clear hi)
 (try clear ho0)
 obtain ⟨Ao10, co10, eo10⟩ := Kd.R_slice HO141.out
 (first | subst eo10 | (injection eo10 with f1_ f2_ f3_; have f4_ := f1_.symm; have f5_ := f3_.symm; clear f1_ f2_ f3_; subst f4_; subst f5_))
 refine hK.out _ _ ⟨q6k BK135.out 0, q6k BK135.out 1, q6k BK135.out 2, q6k BK135.out 3, q6k BK135.out 4, q6k BK135.out 5, q6k BK135.out 6, q6k BK135.out 7, q6k BK135.out 8, q6k BK135.out 9, q6k BK135.out 10⟩ (fun hHeld => ?_)
 clear hK K
 refine norm_ (a' := ?_) ?_ ?_
 rotate_left
 ·show Act.put _ (some 8) _ = _
  simp only [Act.put, q6a, q6b, q6c, i64_w, i32_w]
  rfl
 refine one_ (i := 6) (N := some 9) (q6m 8 127) rfl rfl (one_of HT_.out (by kernel_rfl)) (by decide) (fun K hK => ?_)
 refine Kd.R_append_rows_step (Kd.int .u8) (w0 := w) w.heap.size (by rfl) (.tmp 5) (.tmp 8) 50 5 (.int .u8 0) 1 rfl Try.underlying50 info5 rfl (by decide) (by omega) v137 t136 t139 _ _ _ (fun k_ => some k_ ≠ (.slice Ao10 t139.length co10 : Value).ownBlock) (fun _ => False) rfl rfl ?aO ?aR (fun _ _ h => h) (fun _ h => h.elim) ?aF ?aB ?aS ?aL ?_
 (case aR => repeat (first | exact (Kd.R_reads' HO141.out).2.2 | (with_reducible refine Kd.C_alloc ?_ _) | (with_reducible refine Kd.C_drewN ?_ _) | (with_reducible refine Kd.C_drew ?_)))
 (case aB => exact q6y3)
 (case aF => exact (fun k_ hk => Kd.fresh' (Kd.R_lt (by (with_reducible repeat (first | apply Kd.R_alloc | apply Kd.R_drewN | apply Kd.R_drew)); exact HO141.out)) k_ hk))
 (case aO => exact (by (with_reducible repeat (first | apply Kd.R_alloc | apply Kd.R_drewN | apply Kd.R_drew)); exact Kd.R_mono HO138.out (fun _ hk => hk.2)))
 (case aS => exact (below_size q6y3))
 (case aL => have := LMc4.out; omega)
 intro v143 w9 ho hb hg hat
 rw [← Ny142.out] at ho
 have n0_ := Aside0.mk (blk_grown (g := gb135) (o := .cells #[.int .u64 a0_0, .int .u64 a0_1, .int .u64 a0_2, .string a0_3, .string a0_4, .int .i64 a0_5, .int .i64 a0_6, .int .i64 a0_7, .slice A0_8 n0_8 c0_8, .slice A0_9 n0_9 c0_9, .slice A0_10 n0_10 c0_10] 34 (0, 0)) q6y5 hg (Kd.R_ne HO138.out BK135.out (by decide)))
 have n1_ := Aside0.mk (Kd.R_after (ok := (fun _ => True)) (by (with_reducible repeat (first | apply Kd.R_alloc | apply Kd.R_drewN | apply Kd.R_drew)); exact HO141.out) hg hat)
 have n2_ := Aside0.mk (hb)
 have n3_ := Aside0.mk (ho)
 clear BK135
 clear HO141
 clear HB
 clear HO138
 have BK135 := n0_
 have HO141 := n1_
 have HB := n2_
 have HO144 := n3_
 clear n0_ n1_ n2_ n3_
 clear ho hb hg hat
 refine hK.out _ _ ⟨q6k BK135.out 0, q6k BK135.out 1, q6k BK135.out 2, q6k BK135.out 3, q6k BK135.out 4, q6k BK135.out 5, q6k BK135.out 6, q6k BK135.out 7, q6k BK135.out 8, q6k BK135.out 9, q6k BK135.out 10⟩ (fun hHeld => ?_)
 clear hK K
 refine norm_ (a' := ?_) ?_ ?_
 rotate_left
 ·show Act.put _ (some 9) _ = _
  simp only [Act.put, q6a, q6b, q6c, i64_w, i32_w]
  rfl
 refine q6p (i := 7) (N := some 2) (q6m 8 255) HT_.out ?_
 refine done_ (done_of HT_.out (by kernel_rfl)) ?_
 try go_wp2
 go_ret
 exact ⟨_, by first | rfl | (simp [errW_none, errW_some] <;> rfl) | (simp [*, errW_none, errW_some] <;> rfl), by (with_reducible repeat (first | apply Kd.R_alloc | apply Kd.R_drewN | apply Kd.R_drew)); exact Kd.R_mono HO144.out (fun _ hk => trivial), by repeat (first | (with_reducible first | exact HB.out | apply below_alloc | apply pw_below_drewN | apply below_drew1 | refine below_set ?_ GE135.out) | exact HB.out)⟩
/-! ### filter_Key: function 17 -/
set_option maxHeartbeats 8000000 in
set_option maxRecDepth 100000 in
theorem filter_Key.callsR (k : Nat) (a0 : Int) (a1_0 : Int) (a1_1 : Int) (a1_2 : Int) (a1_3 : ByteArray) (a1_4 : ByteArray) (a1_5 : Int) (a1_6 : Int) (a1_7 : Int) (A1_8 : Option Addr) (c1_8 : Nat) (n1_8 : Nat) (A1_9 : Option Addr) (c1_9 : Nat) (n1_9 : Nat) (A1_10 : Option Addr) (c1_10 : Nat) (n1_10 : Nat) (r : List Int) (w : World) (h : filter_Key.f k a0 a1_0 a1_1 a1_2 a1_3 a1_4 a1_5 a1_6 a1_7 [] [] [] = some r) :
  Calls Try.prog 17 #[.int .i64 a0, .agg #[.int .u64 a1_0, .int .u64 a1_1, .int .u64 a1_2, .string a1_3, .string a1_4, .int .i64 a1_5, .int .i64 a1_6, .int .i64 a1_7, .slice A1_8 n1_8 c1_8, .slice A1_9 n1_9 c1_9, .slice A1_10 n1_10 c1_10]] w fun e w' => ∃ v0_ : Value, e = .returned (v0_) ∧ Kd.R (Kd.int .u8) 5 w' w.heap.size (fun _ => True) v0_ r ∧ Below w.heap.size w w' := by
 have hu34 := Try.underlying34
 have HB := Aside0.mk (Below.refl w.heap.size w)
 have H : (if a0 = 0 then ((key_Primary.f k a1_0 a1_1 a1_2 a1_3 a1_4 a1_5 a1_6 a1_7 [] [] []).bind fun t146 => (some t146)) else (if a0 = 1 then ((num_Key.f k (IntKind.u64.wrap (a1_5))).bind fun t149 => ((key_Primary.f k a1_0 a1_1 a1_2 a1_3 a1_4 a1_5 a1_6 a1_7 [] [] []).bind fun t152 => (if t149.length + t152.length < 140737488355328 then (some (t149 ++ t152)) else (none)))) else (if a0 = 2 then ((num_Key.f k (IntKind.u64.wrap (a1_6))).bind fun t158 => ((key_Primary.f k a1_0 a1_1 a1_2 a1_3 a1_4 a1_5 a1_6 a1_7 [] [] []).bind fun t161 => (if t158.length + t161.length < 140737488355328 then (some (t158 ++ t161)) else (none)))) else (some ([] : List Int))))) = some r := h
 clear h
 by_cases c3 : a0 = 0
 ·rw [if_pos c3] at H
  have c3b0 : (a0 == 0) = true := beq_iff_eq.mpr c3
  have c3b1 : (a0 != 0) = false := bne_eq_false_iff_eq.mpr c3
  clear c3
  replace H := Option.bind_eq_some_iff.mp H
  obtain ⟨t146, A40, H⟩ := H
  replace H : (some t146) = some r := H
  have A4 := Aside0.mk A40
  clear A40
  obtain rfl := Option.some.inj H
  go_enter Try.func17, Try.ntmps17
  go_wp2_with (first | ((with_reducible refine gate_dst (N := 3) rfl ?_); refine box_event ?hg (N := 3) ?hd (cs := #[.int .u64 a1_0, .int .u64 a1_1, .int .u64 a1_2, .string a1_3, .string a1_4, .int .i64 a1_5, .int .i64 a1_6, .int .i64 a1_7, .slice A1_8 n1_8 c1_8, .slice A1_9 n1_9 c1_9, .slice A1_10 n1_10 c1_10]) (t := 34) ?hr ?_; (case hd => rfl); (case hg => rfl); (case hr => first | (go_simp; done) | (go_simp; rfl)); intro gb145 hg w5 hbox hb; have n0_ := Aside0.mk (below_step q6y1 hb); have n1_ := Aside0.mk (hbox); have n2_ := Aside0.mk ((by rw [hg]; exact (below_size q6y1) : w.heap.size ≤ gb145)); have n3_ := Aside0.mk ((by rw [hg]; exact (below_size q6y1) : w.heap.size ≤ gb145)); clear HB; have HB := n0_; have BK145 := n1_; have GW145 := n2_; have GE145 := n3_; clear n0_ n1_ n2_ n3_; clear hb hbox hg; have hcz6_0 : w5.cell? ⟨gb145, 0, none⟩ = some (.int .u64 a1_0) := (blk_cell BK145.out 0).trans rfl; have hcz6_1 : w5.cell? ⟨gb145, 1, none⟩ = some (.int .u64 a1_1) := (blk_cell BK145.out 1).trans rfl; have hcz6_2 : w5.cell? ⟨gb145, 2, none⟩ = some (.int .u64 a1_2) := (blk_cell BK145.out 2).trans rfl; have hcz6_3 : w5.cell? ⟨gb145, 3, none⟩ = some (.string a1_3) := (blk_cell BK145.out 3).trans rfl; have hcz6_4 : w5.cell? ⟨gb145, 4, none⟩ = some (.string a1_4) := (blk_cell BK145.out 4).trans rfl; have hcz6_5 : w5.cell? ⟨gb145, 5, none⟩ = some (.int .i64 a1_5) := (blk_cell BK145.out 5).trans rfl; have hcz6_6 : w5.cell? ⟨gb145, 6, none⟩ = some (.int .i64 a1_6) := (blk_cell BK145.out 6).trans rfl; have hcz6_7 : w5.cell? ⟨gb145, 7, none⟩ = some (.int .i64 a1_7) := (blk_cell BK145.out 7).trans rfl; have hcz6_8 : w5.cell? ⟨gb145, 8, none⟩ = some (.slice A1_8 n1_8 c1_8) := (blk_cell BK145.out 8).trans rfl; have hcz6_9 : w5.cell? ⟨gb145, 9, none⟩ = some (.slice A1_9 n1_9 c1_9) := (blk_cell BK145.out 9).trans rfl; have hcz6_10 : w5.cell? ⟨gb145, 10, none⟩ = some (.slice A1_10 n1_10 c1_10) := (blk_cell BK145.out 10).trans rfl; have hfz6_0 := blk_frozen BK145.out 0; have hfz6_1 := blk_frozen BK145.out 1; have hfz6_2 := blk_frozen BK145.out 2; have hfz6_3 := blk_frozen BK145.out 3; have hfz6_4 := blk_frozen BK145.out 4; have hfz6_5 := blk_frozen BK145.out 5; have hfz6_6 := blk_frozen BK145.out 6; have hfz6_7 := blk_frozen BK145.out 7; have hfz6_8 := blk_frozen BK145.out 8; have hfz6_9 := blk_frozen BK145.out 9; have hfz6_10 := blk_frozen BK145.out 10) | ((with_reducible refine gate_callee (f := 44) rfl ?_); refine goesL_ (some 9) rfl rfl Try.func44 (by kernel_rfl) rfl #[.agg #[.int .u64 a1_0, .int .u64 a1_1, .int .u64 a1_2, .string a1_3, .string a1_4, .int .i64 a1_5, .int .i64 a1_6, .int .i64 a1_7, .slice A1_8 n1_8 c1_8, .slice A1_9 n1_9 c1_9, .slice A1_10 n1_10 c1_10]] rfl q6y2 ?_; (with_reducible refine (key_Primary.callsR k a1_0 a1_1 a1_2 a1_3 a1_4 a1_5 a1_6 a1_7 _ _ n1_8 _ _ n1_9 _ _ n1_10 t146 _ A4.out).mono ?_); rintro e w7 ⟨v147, rfl, ho0, hb⟩; refine ⟨_, rfl, ?_⟩; have n0_ := Aside0.mk (Kd.R_lower ho0 (below_size q6y0)); have n1_ := Aside0.mk (blk_below (g := gb145) (o := .cells #[.int .u64 a1_0, .int .u64 a1_1, .int .u64 a1_2, .string a1_3, .string a1_4, .int .i64 a1_5, .int .i64 a1_6, .int .i64 a1_7, .slice A1_8 n1_8 c1_8, .slice A1_9 n1_9 c1_9, .slice A1_10 n1_10 c1_10] 34 (0, 0)) q6y4 hb); have n2_ := Aside0.mk (below_step q6y0 hb); clear BK145; clear HB; have HO148 := n0_; have BK145 := n1_; have HB := n2_; clear n0_ n1_ n2_; (try clear hb); (try clear hb2); (try clear hk); (try clear hi); (try clear ho0)))
  go_ret
  exact ⟨_, by first | rfl | (simp [errW_none, errW_some] <;> rfl) | (simp [*, errW_none, errW_some] <;> rfl), by (with_reducible repeat (first | apply Kd.R_alloc | apply Kd.R_drewN | apply Kd.R_drew)); exact HO148.out, by repeat (first | (with_reducible first | exact HB.out | apply below_alloc | apply pw_below_drewN | apply below_drew1 | refine below_set ?_ GE145.out) | exact HB.out)⟩
 rw [if_neg c3] at H
 have c3b0 : (a0 == 0) = false := beq_eq_false_iff_ne.mpr c3
 have c3b1 : (a0 != 0) = true := bne_iff_ne.mpr c3
 by_cases c8 : a0 = 1
 ·rw [if_pos c8] at H
  have c8b0 : (a0 == 1) = true := beq_iff_eq.mpr c8
  have c8b1 : (a0 != 1) = false := bne_eq_false_iff_eq.mpr c8
  clear c8
  replace H := Option.bind_eq_some_iff.mp H
  obtain ⟨t149, A90, H⟩ := H
  replace H : ((key_Primary.f k a1_0 a1_1 a1_2 a1_3 a1_4 a1_5 a1_6 a1_7 [] [] []).bind fun t152 => (if t149.length + t152.length < 140737488355328 then (some (t149 ++ t152)) else (none))) = some r := H
  have A9 := Aside0.mk A90
  clear A90
  replace H := Option.bind_eq_some_iff.mp H
  obtain ⟨t152, A100, H⟩ := H
  replace H : (if t149.length + t152.length < 140737488355328 then (some (t149 ++ t152)) else (none)) = some r := H
  have A10 := Aside0.mk A100
  clear A100
  by_cases c11 : t149.length + t152.length < 140737488355328
  rotate_left
  ·rw [if_neg c11] at H
   exact absurd H (by simp)
  rw [if_pos c11] at H
  have LMc11 := Aside0.mk c11
  clear c11
  obtain ⟨y155, hy155⟩ : ∃ y_ : List Int, y_ = (t149 ++ t152) := ⟨_, rfl⟩
  replace H : (some y155) = some r := by first | (rw [hy155]; with_reducible exact H) | (have H2_ := (Option.bind_some _ _).symm.trans H; rw [hy155]; with_reducible exact H2_) | (have H2_ := (Option.bind_some _ _).symm.trans H; with_reducible exact H2_) | with_reducible exact H | (rw [hy155]; exact H) | exact H
  have Ny155 := Aside0.mk hy155
  clear hy155
  obtain rfl := Option.some.inj H
  go_enter Try.func17, Try.ntmps17
  try go_wp2_with (first | ((with_reducible refine gate_dst (N := 3) rfl ?_); refine box_event ?hg (N := 3) ?hd (cs := #[.int .u64 a1_0, .int .u64 a1_1, .int .u64 a1_2, .string a1_3, .string a1_4, .int .i64 a1_5, .int .i64 a1_6, .int .i64 a1_7, .slice A1_8 n1_8 c1_8, .slice A1_9 n1_9 c1_9, .slice A1_10 n1_10 c1_10]) (t := 34) ?hr ?_; (case hd => rfl); (case hg => rfl); (case hr => first | (go_simp; done) | (go_simp; rfl)); intro gb145 hg w12 hbox hb; have n0_ := Aside0.mk (below_step q6y1 hb); have n1_ := Aside0.mk (hbox); have n2_ := Aside0.mk ((by rw [hg]; exact (below_size q6y1) : w.heap.size ≤ gb145)); have n3_ := Aside0.mk ((by rw [hg]; exact (below_size q6y1) : w.heap.size ≤ gb145)); clear HB; have HB := n0_; have BK145 := n1_; have GW145 := n2_; have GE145 := n3_; clear n0_ n1_ n2_ n3_; clear hb hbox hg))
  have n0_ := Aside0.mk (blk_drew BK145.out)
  have n1_ := Aside0.mk (below_drew1 HB.out)
  clear BK145
  clear HB
  have BK145 := n0_
  have HB := n1_
  clear n0_ n1_
  refine start_ (n := 8) (S := fun w' => w'.cell? ⟨gb145, 0, none⟩ = some (.int .u64 a1_0) ∧ w'.cell? ⟨gb145, 1, none⟩ = some (.int .u64 a1_1) ∧ w'.cell? ⟨gb145, 2, none⟩ = some (.int .u64 a1_2) ∧ w'.cell? ⟨gb145, 3, none⟩ = some (.string a1_3) ∧ w'.cell? ⟨gb145, 4, none⟩ = some (.string a1_4) ∧ w'.cell? ⟨gb145, 5, none⟩ = some (.int .i64 a1_5) ∧ w'.cell? ⟨gb145, 6, none⟩ = some (.int .i64 a1_6) ∧ w'.cell? ⟨gb145, 7, none⟩ = some (.int .i64 a1_7) ∧ w'.cell? ⟨gb145, 8, none⟩ = some (.slice A1_8 n1_8 c1_8) ∧ w'.cell? ⟨gb145, 9, none⟩ = some (.slice A1_9 n1_9 c1_9) ∧ w'.cell? ⟨gb145, 10, none⟩ = some (.slice A1_10 n1_10 c1_10)) (ds := []) #[false, false, false, false, false, false, false, false] (by kernel_rfl) rfl rfl ⟨q6k BK145.out 0, q6k BK145.out 1, q6k BK145.out 2, q6k BK145.out 3, q6k BK145.out 4, q6k BK145.out 5, q6k BK145.out 6, q6k BK145.out 7, q6k BK145.out 8, q6k BK145.out 9, q6k BK145.out 10⟩ (fun hHeld => ?_); refine with_tabW filter_Key.tab5 filter_Key.bits5 (fun HT_ HW_ => ?_)
  generalize w12.drew = w13 at BK145 HB hHeld ⊢
  refine q6p (i := 0) (N := some 12) (q6m 8 1) HT_.out ?_
  refine take_ (i := 1) (N := some 13) (v := ?_) (a' := ?_) (q6m 8 3) rfl rfl (take_ofW HT_.out HW_.out (by kernel_rfl)) (fun _ _ _ h => h) (Or.inl ⟨by rfl, ?_⟩) hHeld ?_ ?_; rotate_left; (rintro w' ⟨s0, s1, s2, s3, s4, s5, s6, s7, s8, s9, s10⟩; go_simp; with_reducible rfl); rotate_left; (simp only [Act.put, q6a, q6b, q6c, i64_w, i32_w]; rfl)
  refine q6p (i := 2) (N := some 14) (q6m 8 7) HT_.out ?_
  refine take_ (i := 4) (N := some 16) (v := ?_) (a' := ?_) (q6m 8 23) rfl rfl (take_ofW HT_.out HW_.out (by kernel_rfl)) (fun _ _ _ h => h) (Or.inl ⟨by rfl, ?_⟩) hHeld ?_ ?_; rotate_left; (rintro w' ⟨s0, s1, s2, s3, s4, s5, s6, s7, s8, s9, s10⟩; go_simp; with_reducible rfl); rotate_left; (simp only [Act.put, q6a, q6b, q6c, i64_w, i32_w]; rfl)
  refine one_ (i := 3) (N := some 15) (q6m 8 31) rfl rfl (one_of HT_.out (by kernel_rfl)) (by decide) (fun K hK => ?_)
  refine goes_ Try.func45 (by kernel_rfl) rfl #[.int .u64 (IntKind.u64.wrap (a1_5))] (by rfl) rfl rfl q6y2 ?_
  with_reducible refine (num_Key.calls k (IntKind.u64.wrap (a1_5)) t149 _ A9.out).mono ?_
  rintro e w14 ⟨v150, rfl, ho0, hb⟩
  refine ⟨_, rfl, ?_⟩
  have n0_ := Aside0.mk (Kd.R_lower ho0 (below_size q6y0))
  have n1_ := Aside0.mk (blk_below (g := gb145) (o := .cells #[.int .u64 a1_0, .int .u64 a1_1, .int .u64 a1_2, .string a1_3, .string a1_4, .int .i64 a1_5, .int .i64 a1_6, .int .i64 a1_7, .slice A1_8 n1_8 c1_8, .slice A1_9 n1_9 c1_9, .slice A1_10 n1_10 c1_10] 34 (0, 0)) q6y4 hb)
  have n2_ := Aside0.mk (below_step q6y0 hb)
  clear BK145
  clear HB
  have HO151 := n0_
  have BK145 := n1_
  have HB := n2_
  clear n0_ n1_ n2_
  (try clear hb)
  (try clear hb2)
  (try clear hk)
  (try clear hi)
  (try clear ho0)
  refine hK.out _ _ ⟨q6k BK145.out 0, q6k BK145.out 1, q6k BK145.out 2, q6k BK145.out 3, q6k BK145.out 4, q6k BK145.out 5, q6k BK145.out 6, q6k BK145.out 7, q6k BK145.out 8, q6k BK145.out 9, q6k BK145.out 10⟩ (fun hHeld => ?_)
  clear hK K
  refine norm_ (a' := ?_) ?_ ?_
  rotate_left
  ·show Act.put _ (some 15) _ = _
   simp only [Act.put, q6a, q6b, q6c, i64_w, i32_w]
   rfl
  refine one_ (i := 5) (N := some 17) (q6m 8 63) rfl rfl (one_of HT_.out (by kernel_rfl)) (by decide) (fun K hK => ?_)
  refine goes_ Try.func44 (by kernel_rfl) rfl #[.agg #[.int .u64 a1_0, .int .u64 a1_1, .int .u64 a1_2, .string a1_3, .string a1_4, .int .i64 a1_5, .int .i64 a1_6, .int .i64 a1_7, .slice A1_8 n1_8 c1_8, .slice A1_9 n1_9 c1_9, .slice A1_10 n1_10 c1_10]] (by rfl) rfl rfl q6y2 ?_
  with_reducible refine (key_Primary.callsR k a1_0 a1_1 a1_2 a1_3 a1_4 a1_5 a1_6 a1_7 _ _ n1_8 _ _ n1_9 _ _ n1_10 t152 _ A10.out).mono ?_
  rintro e w15 ⟨v153, rfl, ho0, hb⟩
  refine ⟨_, rfl, ?_⟩
  have n0_ := Aside0.mk (Kd.R_elder' (by (with_reducible repeat (first | apply Kd.R_alloc | apply Kd.R_drewN | apply Kd.R_drew)); exact HO151.out) (Kd.R_base ho0) hb)
  have n1_ := Aside0.mk (Kd.R_lower (Kd.R_new' ho0 (Kd.R_lt (by (with_reducible repeat (first | apply Kd.R_alloc | apply Kd.R_drewN | apply Kd.R_drew)); exact HO151.out))) (below_size q6y0))
  have n2_ := Aside0.mk (blk_below (g := gb145) (o := .cells #[.int .u64 a1_0, .int .u64 a1_1, .int .u64 a1_2, .string a1_3, .string a1_4, .int .i64 a1_5, .int .i64 a1_6, .int .i64 a1_7, .slice A1_8 n1_8 c1_8, .slice A1_9 n1_9 c1_9, .slice A1_10 n1_10 c1_10] 34 (0, 0)) q6y4 hb)
  have n3_ := Aside0.mk (below_step q6y0 hb)
  clear HO151
  clear BK145
  clear HB
  have HO151 := n0_
  have HO154 := n1_
  have BK145 := n2_
  have HB := n3_
  clear n0_ n1_ n2_ n3_
  (try clear hb)
  (try clear hb2)
  (try clear hk)
  (try clear hi)
  (try clear ho0)
  obtain ⟨Ao17, co17, eo17⟩ := Kd.R_slice HO154.out
  (first | subst eo17 | (injection eo17 with f1_ f2_ f3_; have f4_ := f1_.symm; have f5_ := f3_.symm; clear f1_ f2_ f3_; subst f4_; subst f5_))
  refine hK.out _ _ ⟨q6k BK145.out 0, q6k BK145.out 1, q6k BK145.out 2, q6k BK145.out 3, q6k BK145.out 4, q6k BK145.out 5, q6k BK145.out 6, q6k BK145.out 7, q6k BK145.out 8, q6k BK145.out 9, q6k BK145.out 10⟩ (fun hHeld => ?_)
  clear hK K
  refine norm_ (a' := ?_) ?_ ?_
  rotate_left
  ·show Act.put _ (some 17) _ = _
   simp only [Act.put, q6a, q6b, q6c, i64_w, i32_w]
   rfl
  refine one_ (i := 6) (N := some 18) (q6m 8 127) rfl rfl (one_of HT_.out (by kernel_rfl)) (by decide) (fun K hK => ?_)
  refine Kd.R_append_rows_step (Kd.int .u8) (w0 := w) w.heap.size (by rfl) (.tmp 15) (.tmp 17) 50 5 (.int .u8 0) 1 rfl Try.underlying50 info5 rfl (by decide) (by omega) v150 t149 t152 _ _ _ (fun k_ => some k_ ≠ (.slice Ao17 t152.length co17 : Value).ownBlock) (fun _ => False) rfl rfl ?aO ?aR (fun _ _ h => h) (fun _ h => h.elim) ?aF ?aB ?aS ?aL ?_
  (case aR => repeat (first | exact (Kd.R_reads' HO154.out).2.2 | (with_reducible refine Kd.C_alloc ?_ _) | (with_reducible refine Kd.C_drewN ?_ _) | (with_reducible refine Kd.C_drew ?_)))
  (case aB => exact q6y0)
  (case aF => exact (fun k_ hk => Kd.fresh' (Kd.R_lt (by (with_reducible repeat (first | apply Kd.R_alloc | apply Kd.R_drewN | apply Kd.R_drew)); exact HO154.out)) k_ hk))
  (case aO => exact (by (with_reducible repeat (first | apply Kd.R_alloc | apply Kd.R_drewN | apply Kd.R_drew)); exact Kd.R_mono HO151.out (fun _ hk => hk.2)))
  (case aS => exact (below_size q6y0))
  (case aL => have := LMc11.out; omega)
  intro v156 w16 ho hb hg hat
  rw [← Ny155.out] at ho
  have n0_ := Aside0.mk (blk_grown (g := gb145) (o := .cells #[.int .u64 a1_0, .int .u64 a1_1, .int .u64 a1_2, .string a1_3, .string a1_4, .int .i64 a1_5, .int .i64 a1_6, .int .i64 a1_7, .slice A1_8 n1_8 c1_8, .slice A1_9 n1_9 c1_9, .slice A1_10 n1_10 c1_10] 34 (0, 0)) q6y4 hg (Kd.R_ne HO151.out BK145.out (by decide)))
  have n1_ := Aside0.mk (Kd.R_after (ok := (fun _ => True)) (by (with_reducible repeat (first | apply Kd.R_alloc | apply Kd.R_drewN | apply Kd.R_drew)); exact HO154.out) hg hat)
  have n2_ := Aside0.mk (hb)
  have n3_ := Aside0.mk (ho)
  clear BK145
  clear HO154
  clear HB
  clear HO151
  have BK145 := n0_
  have HO154 := n1_
  have HB := n2_
  have HO157 := n3_
  clear n0_ n1_ n2_ n3_
  clear ho hb hg hat
  refine hK.out _ _ ⟨q6k BK145.out 0, q6k BK145.out 1, q6k BK145.out 2, q6k BK145.out 3, q6k BK145.out 4, q6k BK145.out 5, q6k BK145.out 6, q6k BK145.out 7, q6k BK145.out 8, q6k BK145.out 9, q6k BK145.out 10⟩ (fun hHeld => ?_)
  clear hK K
  refine norm_ (a' := ?_) ?_ ?_
  rotate_left
  ·show Act.put _ (some 18) _ = _
   simp only [Act.put, q6a, q6b, q6c, i64_w, i32_w]
   rfl
  refine q6p (i := 7) (N := some 4) (q6m 8 255) HT_.out ?_
  refine done_ (done_of HT_.out (by kernel_rfl)) ?_
  try go_wp2
  go_ret
  exact ⟨_, by first | rfl | (simp [errW_none, errW_some] <;> rfl) | (simp [*, errW_none, errW_some] <;> rfl), by (with_reducible repeat (first | apply Kd.R_alloc | apply Kd.R_drewN | apply Kd.R_drew)); exact Kd.R_mono HO157.out (fun _ hk => trivial), by repeat (first | (with_reducible first | exact HB.out | apply below_alloc | apply pw_below_drewN | apply below_drew1 | refine below_set ?_ GE145.out) | exact HB.out)⟩
 rw [if_neg c8] at H
 have c8b0 : (a0 == 1) = false := beq_eq_false_iff_ne.mpr c8
 have c8b1 : (a0 != 1) = true := bne_iff_ne.mpr c8
 by_cases c18 : a0 = 2
 rotate_left
 ·rw [if_neg c18] at H
  have c18b0 : (a0 == 2) = false := beq_eq_false_iff_ne.mpr c18
  have c18b1 : (a0 != 2) = true := bne_iff_ne.mpr c18
  obtain rfl := Option.some.inj H
  go_enter Try.func17, Try.ntmps17
  go_wp2_with (first | ((with_reducible refine gate_dst (N := 3) rfl ?_); refine box_event ?hg (N := 3) ?hd (cs := #[.int .u64 a1_0, .int .u64 a1_1, .int .u64 a1_2, .string a1_3, .string a1_4, .int .i64 a1_5, .int .i64 a1_6, .int .i64 a1_7, .slice A1_8 n1_8 c1_8, .slice A1_9 n1_9 c1_9, .slice A1_10 n1_10 c1_10]) (t := 34) ?hr ?_; (case hd => rfl); (case hg => rfl); (case hr => first | (go_simp; done) | (go_simp; rfl)); intro gb145 hg w28 hbox hb; have n0_ := Aside0.mk (below_step q6y1 hb); have n1_ := Aside0.mk (hbox); have n2_ := Aside0.mk ((by rw [hg]; exact (below_size q6y1) : w.heap.size ≤ gb145)); have n3_ := Aside0.mk ((by rw [hg]; exact (below_size q6y1) : w.heap.size ≤ gb145)); clear HB; have HB := n0_; have BK145 := n1_; have GW145 := n2_; have GE145 := n3_; clear n0_ n1_ n2_ n3_; clear hb hbox hg))
  go_ret
  exact ⟨_, by first | rfl | (simp [errW_none, errW_some] <;> rfl) | (simp [*, errW_none, errW_some] <;> rfl), by first | exact Kd.R_nil _ _ _ _ _ | exact Kd.N_nil _ _ _ _ _ | exact Kd.V_nil _ _ _ _ _ | exact Kd.Q_nil _ _ _ _ _ | exact Kd.S_nil _ _ _ _ _, by repeat (first | (with_reducible first | exact HB.out | apply below_alloc | apply pw_below_drewN | apply below_drew1 | refine below_set ?_ GE145.out) | exact HB.out)⟩

 rw [if_pos c18] at H
 have c18b0 : (a0 == 2) = true := beq_iff_eq.mpr c18
 have c18b1 : (a0 != 2) = false := bne_eq_false_iff_eq.mpr c18
 clear c18
 replace H := Option.bind_eq_some_iff.mp H
 obtain ⟨t158, A190, H⟩ := H
 replace H : ((key_Primary.f k a1_0 a1_1 a1_2 a1_3 a1_4 a1_5 a1_6 a1_7 [] [] []).bind fun t161 => (if t158.length + t161.length < 140737488355328 then (some (t158 ++ t161)) else (none))) = some r := H
 have A19 := Aside0.mk A190
 clear A190
 replace H := Option.bind_eq_some_iff.mp H
 obtain ⟨t161, A200, H⟩ := H
 replace H : (if t158.length + t161.length < 140737488355328 then (some (t158 ++ t161)) else (none)) = some r := H
 have A20 := Aside0.mk A200
 clear A200
 by_cases c21 : t158.length + t161.length < 140737488355328
 rotate_left
 ·rw [if_neg c21] at H
  exact absurd H (by simp)
 rw [if_pos c21] at H
 have LMc21 := Aside0.mk c21
 clear c21
 obtain ⟨y164, hy164⟩ : ∃ y_ : List Int, y_ = (t158 ++ t161) := ⟨_, rfl⟩
 replace H : (some y164) = some r := by first | (rw [hy164]; with_reducible exact H) | (have H2_ := (Option.bind_some _ _).symm.trans H; rw [hy164]; with_reducible exact H2_) | (have H2_ := (Option.bind_some _ _).symm.trans H; with_reducible exact H2_) | with_reducible exact H | (rw [hy164]; exact H) | exact H
 have Ny164 := Aside0.mk hy164
 clear hy164
 obtain rfl := Option.some.inj H
 go_enter Try.func17, Try.ntmps17
 try go_wp2_with (first | ((with_reducible refine gate_dst (N := 3) rfl ?_); refine box_event ?hg (N := 3) ?hd (cs := #[.int .u64 a1_0, .int .u64 a1_1, .int .u64 a1_2, .string a1_3, .string a1_4, .int .i64 a1_5, .int .i64 a1_6, .int .i64 a1_7, .slice A1_8 n1_8 c1_8, .slice A1_9 n1_9 c1_9, .slice A1_10 n1_10 c1_10]) (t := 34) ?hr ?_; (case hd => rfl); (case hg => rfl); (case hr => first | (go_simp; done) | (go_simp; rfl)); intro gb145 hg w22 hbox hb; have n0_ := Aside0.mk (below_step q6y1 hb); have n1_ := Aside0.mk (hbox); have n2_ := Aside0.mk ((by rw [hg]; exact (below_size q6y1) : w.heap.size ≤ gb145)); have n3_ := Aside0.mk ((by rw [hg]; exact (below_size q6y1) : w.heap.size ≤ gb145)); clear HB; have HB := n0_; have BK145 := n1_; have GW145 := n2_; have GE145 := n3_; clear n0_ n1_ n2_ n3_; clear hb hbox hg))
 have n0_ := Aside0.mk (blk_drew BK145.out)
 have n1_ := Aside0.mk (below_drew1 HB.out)
 clear BK145
 clear HB
 have BK145 := n0_
 have HB := n1_
 clear n0_ n1_
 refine start_ (n := 8) (S := fun w' => w'.cell? ⟨gb145, 0, none⟩ = some (.int .u64 a1_0) ∧ w'.cell? ⟨gb145, 1, none⟩ = some (.int .u64 a1_1) ∧ w'.cell? ⟨gb145, 2, none⟩ = some (.int .u64 a1_2) ∧ w'.cell? ⟨gb145, 3, none⟩ = some (.string a1_3) ∧ w'.cell? ⟨gb145, 4, none⟩ = some (.string a1_4) ∧ w'.cell? ⟨gb145, 5, none⟩ = some (.int .i64 a1_5) ∧ w'.cell? ⟨gb145, 6, none⟩ = some (.int .i64 a1_6) ∧ w'.cell? ⟨gb145, 7, none⟩ = some (.int .i64 a1_7) ∧ w'.cell? ⟨gb145, 8, none⟩ = some (.slice A1_8 n1_8 c1_8) ∧ w'.cell? ⟨gb145, 9, none⟩ = some (.slice A1_9 n1_9 c1_9) ∧ w'.cell? ⟨gb145, 10, none⟩ = some (.slice A1_10 n1_10 c1_10)) (ds := []) #[false, false, false, false, false, false, false, false] (by kernel_rfl) rfl rfl ⟨q6k BK145.out 0, q6k BK145.out 1, q6k BK145.out 2, q6k BK145.out 3, q6k BK145.out 4, q6k BK145.out 5, q6k BK145.out 6, q6k BK145.out 7, q6k BK145.out 8, q6k BK145.out 9, q6k BK145.out 10⟩ (fun hHeld => ?_); refine with_tabW filter_Key.tab7 filter_Key.bits7 (fun HT_ HW_ => ?_)
 generalize w22.drew = w23 at BK145 HB hHeld ⊢
 refine q6p (i := 0) (N := some 21) (q6m 8 1) HT_.out ?_
 refine take_ (i := 1) (N := some 22) (v := ?_) (a' := ?_) (q6m 8 3) rfl rfl (take_ofW HT_.out HW_.out (by kernel_rfl)) (fun _ _ _ h => h) (Or.inl ⟨by rfl, ?_⟩) hHeld ?_ ?_; rotate_left; (rintro w' ⟨s0, s1, s2, s3, s4, s5, s6, s7, s8, s9, s10⟩; go_simp; with_reducible rfl); rotate_left; (simp only [Act.put, q6a, q6b, q6c, i64_w, i32_w]; rfl)
 refine q6p (i := 2) (N := some 23) (q6m 8 7) HT_.out ?_
 refine take_ (i := 4) (N := some 25) (v := ?_) (a' := ?_) (q6m 8 23) rfl rfl (take_ofW HT_.out HW_.out (by kernel_rfl)) (fun _ _ _ h => h) (Or.inl ⟨by rfl, ?_⟩) hHeld ?_ ?_; rotate_left; (rintro w' ⟨s0, s1, s2, s3, s4, s5, s6, s7, s8, s9, s10⟩; go_simp; with_reducible rfl); rotate_left; (simp only [Act.put, q6a, q6b, q6c, i64_w, i32_w]; rfl)
 refine one_ (i := 3) (N := some 24) (q6m 8 31) rfl rfl (one_of HT_.out (by kernel_rfl)) (by decide) (fun K hK => ?_)
 refine goes_ Try.func45 (by kernel_rfl) rfl #[.int .u64 (IntKind.u64.wrap (a1_6))] (by rfl) rfl rfl q6y2 ?_
 with_reducible refine (num_Key.calls k (IntKind.u64.wrap (a1_6)) t158 _ A19.out).mono ?_
 rintro e w24 ⟨v159, rfl, ho0, hb⟩
 refine ⟨_, rfl, ?_⟩
 have n0_ := Aside0.mk (Kd.R_lower ho0 (below_size q6y0))
 have n1_ := Aside0.mk (blk_below (g := gb145) (o := .cells #[.int .u64 a1_0, .int .u64 a1_1, .int .u64 a1_2, .string a1_3, .string a1_4, .int .i64 a1_5, .int .i64 a1_6, .int .i64 a1_7, .slice A1_8 n1_8 c1_8, .slice A1_9 n1_9 c1_9, .slice A1_10 n1_10 c1_10] 34 (0, 0)) q6y4 hb)
 have n2_ := Aside0.mk (below_step q6y0 hb)
 clear BK145
 clear HB
 have HO160 := n0_
 have BK145 := n1_
 have HB := n2_
 clear n0_ n1_ n2_
 (try clear hb)
 (try clear hb2)
 (try clear hk)
 (try clear hi)
 (try clear ho0)
 refine hK.out _ _ ⟨q6k BK145.out 0, q6k BK145.out 1, q6k BK145.out 2, q6k BK145.out 3, q6k BK145.out 4, q6k BK145.out 5, q6k BK145.out 6, q6k BK145.out 7, q6k BK145.out 8, q6k BK145.out 9, q6k BK145.out 10⟩ (fun hHeld => ?_)
 clear hK K
 refine norm_ (a' := ?_) ?_ ?_
 rotate_left
 ·show Act.put _ (some 24) _ = _
  simp only [Act.put, q6a, q6b, q6c, i64_w, i32_w]
  rfl
 refine one_ (i := 5) (N := some 26) (q6m 8 63) rfl rfl (one_of HT_.out (by kernel_rfl)) (by decide) (fun K hK => ?_)
 refine goes_ Try.func44 (by kernel_rfl) rfl #[.agg #[.int .u64 a1_0, .int .u64 a1_1, .int .u64 a1_2, .string a1_3, .string a1_4, .int .i64 a1_5, .int .i64 a1_6, .int .i64 a1_7, .slice A1_8 n1_8 c1_8, .slice A1_9 n1_9 c1_9, .slice A1_10 n1_10 c1_10]] (by rfl) rfl rfl q6y2 ?_
 with_reducible refine (key_Primary.callsR k a1_0 a1_1 a1_2 a1_3 a1_4 a1_5 a1_6 a1_7 _ _ n1_8 _ _ n1_9 _ _ n1_10 t161 _ A20.out).mono ?_
 rintro e w25 ⟨v162, rfl, ho0, hb⟩
 refine ⟨_, rfl, ?_⟩
 have n0_ := Aside0.mk (Kd.R_elder' (by (with_reducible repeat (first | apply Kd.R_alloc | apply Kd.R_drewN | apply Kd.R_drew)); exact HO160.out) (Kd.R_base ho0) hb)
 have n1_ := Aside0.mk (Kd.R_lower (Kd.R_new' ho0 (Kd.R_lt (by (with_reducible repeat (first | apply Kd.R_alloc | apply Kd.R_drewN | apply Kd.R_drew)); exact HO160.out))) (below_size q6y0))
 have n2_ := Aside0.mk (blk_below (g := gb145) (o := .cells #[.int .u64 a1_0, .int .u64 a1_1, .int .u64 a1_2, .string a1_3, .string a1_4, .int .i64 a1_5, .int .i64 a1_6, .int .i64 a1_7, .slice A1_8 n1_8 c1_8, .slice A1_9 n1_9 c1_9, .slice A1_10 n1_10 c1_10] 34 (0, 0)) q6y4 hb)
 have n3_ := Aside0.mk (below_step q6y0 hb)
 clear HO160
 clear BK145
 clear HB
 have HO160 := n0_
 have HO163 := n1_
 have BK145 := n2_
 have HB := n3_
 clear n0_ n1_ n2_ n3_
 (try clear hb)
 (try clear hb2)
 (try clear hk)
 (try clear hi)
 (try clear ho0)
 obtain ⟨Ao27, co27, eo27⟩ := Kd.R_slice HO163.out
 (first | subst eo27 | (injection eo27 with f1_ f2_ f3_; have f4_ := f1_.symm; have f5_ := f3_.symm; clear f1_ f2_ f3_; subst f4_; subst f5_))
 refine hK.out _ _ ⟨q6k BK145.out 0, q6k BK145.out 1, q6k BK145.out 2, q6k BK145.out 3, q6k BK145.out 4, q6k BK145.out 5, q6k BK145.out 6, q6k BK145.out 7, q6k BK145.out 8, q6k BK145.out 9, q6k BK145.out 10⟩ (fun hHeld => ?_)
 clear hK K
 refine norm_ (a' := ?_) ?_ ?_
 rotate_left
 ·show Act.put _ (some 26) _ = _
  simp only [Act.put, q6a, q6b, q6c, i64_w, i32_w]
  rfl
 refine one_ (i := 6) (N := some 27) (q6m 8 127) rfl rfl (one_of HT_.out (by kernel_rfl)) (by decide) (fun K hK => ?_)
 refine Kd.R_append_rows_step (Kd.int .u8) (w0 := w) w.heap.size (by rfl) (.tmp 24) (.tmp 26) 50 5 (.int .u8 0) 1 rfl Try.underlying50 info5 rfl (by decide) (by omega) v159 t158 t161 _ _ _ (fun k_ => some k_ ≠ (.slice Ao27 t161.length co27 : Value).ownBlock) (fun _ => False) rfl rfl ?aO ?aR (fun _ _ h => h) (fun _ h => h.elim) ?aF ?aB ?aS ?aL ?_
 (case aR => repeat (first | exact (Kd.R_reads' HO163.out).2.2 | (with_reducible refine Kd.C_alloc ?_ _) | (with_reducible refine Kd.C_drewN ?_ _) | (with_reducible refine Kd.C_drew ?_)))
 (case aB => exact q6y0)
 (case aF => exact (fun k_ hk => Kd.fresh' (Kd.R_lt (by (with_reducible repeat (first | apply Kd.R_alloc | apply Kd.R_drewN | apply Kd.R_drew)); exact HO163.out)) k_ hk))
 (case aO => exact (by (with_reducible repeat (first | apply Kd.R_alloc | apply Kd.R_drewN | apply Kd.R_drew)); exact Kd.R_mono HO160.out (fun _ hk => hk.2)))
 (case aS => exact (below_size q6y0))
 (case aL => have := LMc21.out; omega)
 intro v165 w26 ho hb hg hat
 rw [← Ny164.out] at ho
 have n0_ := Aside0.mk (blk_grown (g := gb145) (o := .cells #[.int .u64 a1_0, .int .u64 a1_1, .int .u64 a1_2, .string a1_3, .string a1_4, .int .i64 a1_5, .int .i64 a1_6, .int .i64 a1_7, .slice A1_8 n1_8 c1_8, .slice A1_9 n1_9 c1_9, .slice A1_10 n1_10 c1_10] 34 (0, 0)) q6y4 hg (Kd.R_ne HO160.out BK145.out (by decide)))
 have n1_ := Aside0.mk (Kd.R_after (ok := (fun _ => True)) (by (with_reducible repeat (first | apply Kd.R_alloc | apply Kd.R_drewN | apply Kd.R_drew)); exact HO163.out) hg hat)
 have n2_ := Aside0.mk (hb)
 have n3_ := Aside0.mk (ho)
 clear BK145
 clear HO163
 clear HB
 clear HO160
 have BK145 := n0_
 have HO163 := n1_
 have HB := n2_
 have HO166 := n3_
 clear n0_ n1_ n2_ n3_
 clear ho hb hg hat
 refine hK.out _ _ ⟨q6k BK145.out 0, q6k BK145.out 1, q6k BK145.out 2, q6k BK145.out 3, q6k BK145.out 4, q6k BK145.out 5, q6k BK145.out 6, q6k BK145.out 7, q6k BK145.out 8, q6k BK145.out 9, q6k BK145.out 10⟩ (fun hHeld => ?_)
 clear hK K
 refine norm_ (a' := ?_) ?_ ?_
 rotate_left
 ·show Act.put _ (some 27) _ = _
  simp only [Act.put, q6a, q6b, q6c, i64_w, i32_w]
  rfl
 refine q6p (i := 7) (N := some 4) (q6m 8 255) HT_.out ?_
 refine done_ (done_of HT_.out (by kernel_rfl)) ?_
 try go_wp2
 go_ret
 exact ⟨_, by first | rfl | (simp [errW_none, errW_some] <;> rfl) | (simp [*, errW_none, errW_some] <;> rfl), by (with_reducible repeat (first | apply Kd.R_alloc | apply Kd.R_drewN | apply Kd.R_drew)); exact Kd.R_mono HO166.out (fun _ hk => trivial), by repeat (first | (with_reducible first | exact HB.out | apply below_alloc | apply pw_below_drewN | apply below_drew1 | refine below_set ?_ GE145.out) | exact HB.out)⟩
-- NOT PRINTED: function 7 (cambiumlaw22_awake)

end Go.Proofs.Ytffggkhahambhaa.PAll

namespace Go.Proofs.Ytffggkhahambhaa.NumFacts
set_option linter.unusedVariables false
open Go.RowKit Go.Proofs.Ytffggkhahambhaa.PAll Go.Proofs.YtffggkhahambhaaW.PrintWords Go.Proofs.YtffggkhahambhaaW.PrintLast Go.Proofs.YtffggkhahambhaaW.PrintMore Go.Proofs.Ytffggkhahambhaa.Math

/-- A number's eight bytes, the greatest first. -/
def key8 (v : Int) : List Int := [v / 72057594037927936 % 256, v / 281474976710656 % 256, v / 1099511627776 % 256, v / 4294967296 % 256, v / 16777216 % 256, v / 65536 % 256, v / 256 % 256, v % 256]
theorem key8_len (v : Int) : (key8 v).length = 8 := rfl
theorem key8_isB (v : Int) : IsB (key8 v) := by
  intro x hx
  simp only [key8, List.mem_cons, List.not_mem_nil, or_false] at hx
  omega
theorem key_step (k : Nat) (v : Int) (l : List Int) (hl : l.length = 8) (i : Nat) (hi : i < 8) :
    num_Key.l0 (k + 1) v l 8 (i : Int) = num_Key.l0 k v (l.set (7 - i) (v / 256 ^ i % 256)) 8 ((i + 1 : Nat) : Int) := by
  rw [num_Key.l0, if_pos (by omega)]
  have e1 : wrap64 (8 * (i : Int)) = 8 * (i : Int) := wrap_id (by omega) (by omega)
  have e2 : wrap64 (7 - (i : Int)) = 7 - (i : Int) := wrap_id (by omega) (by omega)
  have e3 : wrap64 ((i : Int) + 1) = (i : Int) + 1 := wrap_id (by omega) (by omega)
  rw [e1, e2, e3]
  clear e1 e2 e3
  rw [if_pos (by omega), if_pos (by omega), if_pos (by omega)]
  have e4 : (7 - (i : Int)).toNat = 7 - i := by omega
  have e5 : shr .u64 v (8 * (i : Int)) = v / 256 ^ i := by
    unfold shr
    have : min (8 * (i : Int)).toNat (IntKind.bits .u64) = 8 * i := by
      show min (8 * (i : Int)).toNat 64 = 8 * i
      omega
    rw [this, Int.pow_mul]; rfl
  rw [e4, e5]; rfl

theorem key_eq (k : Nat) (v : Int) (hk : 9 ≤ k) : num_Key.f k v = some (key8 v) := by
  obtain ⟨k, rfl⟩ : ∃ m, k = m + 9 := ⟨k - 9, by omega⟩
  unfold num_Key.f
  rw [if_pos (by omega), Option.bind_some]
  show num_Key.l0 (k + 9) v [0, 0, 0, 0, 0, 0, 0, 0] 8 ((0 : Nat) : Int) = _
  rw [key_step _ _ _ rfl 0 (by omega), key_step _ _ _ rfl 1 (by omega), key_step _ _ _ rfl 2 (by omega), key_step _ _ _ rfl 3 (by omega), key_step _ _ _ rfl 4 (by omega), key_step _ _ _ rfl 5 (by omega), key_step _ _ _ rfl 6 (by omega), key_step _ _ _ rfl 7 (by omega), num_Key.l0, if_neg (by omega)]
  simp [key8]

end Go.Proofs.Ytffggkhahambhaa.NumFacts

namespace Go.Proofs.Ytffggkhahambhaa.Tr
open Go.RowKit Go.Proofs.YtffggkhahambhaaW.PrintWords Go.Proofs.YtffggkhahambhaaW.PrintLast Go.Proofs.YtffggkhahambhaaW.PrintMore Go.Proofs.Ytffggkhahambhaa.Math Go.Proofs.Ytffggkhahambhaa.PAll Go.Proofs.Ytffggkhahambhaa.Stab Go.Proofs.Ytffggkhahambhaa.NumFacts
set_option linter.unusedVariables false
set_option linter.unusedSimpArgs false

theorem cells_u8 {w : World} {A : Option Addr} {n : Nat} {xs : List Int} (h : Kd.C (Kd.int .u8) w A n xs) (hp : 0 < n) : ∃ ad, A = some ad ∧ ∀ (j : Nat) x, xs[j]? = some x → w.cell? (ad.add j) = some (.int .u8 x) := by
  obtain ⟨ad, rfl, hc⟩ := h.2.2 hp
  refine ⟨ad, rfl, fun j x hj => ?_⟩
  obtain ⟨c, hcl, hK, hce⟩ := hc j x hj
  have hK : c = [.int .u8 x] := hK
  subst hK
  have h2 : w.cell? (ad.add (j * 1 + 0)) = some (.int .u8 x) := hce 0 _ rfl
  rwa [Nat.mul_one, Nat.add_zero] at h2
theorem run_bytes {P : Program} {w : World} {A : Option Addr} {n : Nat} {xs : List Int} (c : Nat) (h : Kd.C (Kd.int .u8) w A n xs) (hn : xs.length = n) :
    (Extern.Bytes.bytesOf (.slice A n c)).run P w = .ok ⟨(Lib.bytesOf xs).toArray⟩ w := by
  subst hn
  rcases Nat.eq_zero_or_pos xs.length with h0 | h0
  · have hx : xs = [] := List.length_eq_zero_iff.1 h0
    subst hx
    cases A <;> rfl
  · obtain ⟨ad, rfl, hc⟩ := cells_u8 h h0
    have := Lib.run_loadBytesX (P := P) w xs ad .empty hc
    have he : (⟨ByteArray.empty.data ++ (Lib.bytesOf xs).toArray⟩ : ByteArray) = ⟨(Lib.bytesOf xs).toArray⟩ := by
      apply ByteArray.ext
      show (#[] : Array UInt8) ++ (Lib.bytesOf xs).toArray = (Lib.bytesOf xs).toArray
      simp
    rw [he] at this
    exact this
/-- How two rows of bytes stand. -/
def cmpB (xs ys : List Int) : Int := Lib.compareBytes (Lib.bytesOf xs) (Lib.bytesOf ys)
theorem run_cmp {P : Program} {w : World} {A B : Option Addr} {n m c d : Nat} {xs ys : List Int} (h1 : Kd.C (Kd.int .u8) w A n xs) (e1 : xs.length = n) (h2 : Kd.C (Kd.int .u8) w B m ys) (e2 : ys.length = m) :
    (Extern.BytealgCompare.compare #[.slice A n c, .slice B m d]).run P w = .ok (.int .i64 (cmpB xs ys)) w := by
  change Sem.run P (do pure (goInt (Extern.BytealgCompare.cmp (← Extern.Bytes.bytesOf (.slice A n c)) (← Extern.Bytes.bytesOf (.slice B m d))))) w = _
  simp only [Sem.run_bind, Sem.run_pure, run_bytes c h1 e1, run_bytes d h2 e2, Result.andThen]
  rw [Lib.cmp_eq]
  rfl
set_option maxHeartbeats 2000000 in
theorem bcmp_calls {w : World} {A B : Option Addr} {n m c d : Nat} {xs ys : List Int} (h1 : Kd.C (Kd.int .u8) w A n xs) (e1 : xs.length = n) (h2 : Kd.C (Kd.int .u8) w B m ys) (e2 : ys.length = m) :
    Calls Try.prog 28 #[.slice A n c, .slice B m d] w fun e w' => e = .returned (.int .i64 (cmpB xs ys)) ∧ w = w' := by
  have hr := run_cmp (P := Try.prog) (c := c) (d := d) h1 e1 h2 e2
  have HR := Lib.hid hr
  clear hr h1 h2 e1 e2
  go_enter Try.func28, Try.ntmps28
  go_wp2_with fail
  rw [run_callFunc_extern Try.func49 (by kernel_rfl) (by kernel_rfl) (by kernel_rfl) (e := Extern.BytealgCompare.compare) (by kernel_rfl), HR.out]
  simp only [Result.andThen]
  rw [Oper.upon_value]
  go_wp2
  go_ret
  exact ⟨rfl, rfl⟩

/-- The order's key of a span. -/
def keyI (o : Int) (x : Sp) : List Int := if o = 0 then key8 x.tr ++ key8 x.id else if o = 1 then key8 (IntKind.u64.wrap x.st) ++ (key8 x.tr ++ key8 x.id) else if o = 2 then key8 (IntKind.u64.wrap x.du) ++ (key8 x.tr ++ key8 x.id) else []
theorem keyI_eq (o : Int) (x : Sp) : filter_Key.f 9 o x.tr x.id x.par x.svc x.op x.st x.du x.stt [] [] [] = some (keyI o x) := by
  unfold filter_Key.f key_Primary.f keyI
  have hk : ∀ v, num_Key.f 9 v = some (key8 v) := fun v => key_eq 9 v (by omega)
  simp only [hk, Option.bind_some, List.length_append, key8_len, show 8 + 8 < 140737488355328 by decide, show 8 + (8 + 8) < 140737488355328 by decide, if_true]
  by_cases h0 : o = 0
  · rw [if_pos h0, if_pos h0]
  · rw [if_neg h0, if_neg h0]
    by_cases h1 : o = 1
    · rw [if_pos h1, if_pos h1]
    · rw [if_neg h1, if_neg h1]
      by_cases h2 : o = 2
      · rw [if_pos h2, if_pos h2]
      · rw [if_neg h2, if_neg h2]
theorem keyI_isB (o : Int) (x : Sp) : IsB (keyI o x) := by
  have happ : ∀ a b : List Int, IsB a → IsB b → IsB (a ++ b) := by
    intro a b ha hb y hy
    rcases List.mem_append.1 hy with h | h
    · exact ha y h
    · exact hb y h
  unfold keyI
  have h8 := fun v => key8_isB v
  split
  · exact happ _ _ (h8 _) (h8 _)
  · split
    · exact happ _ _ (h8 _) (happ _ _ (h8 _) (h8 _))
    · split
      · exact happ _ _ (h8 _) (happ _ _ (h8 _) (h8 _))
      · intro y hy; cases hy
/-- Rows of bytes stand as their signs. -/
theorem cmpB_lt : ∀ {a b : List Int}, IsB a → IsB b → decide (cmpB a b < 0) = lexLt a b
  | [], [], _, _ => rfl
  | [], y :: b, _, _ => rfl
  | x :: a, [], _, _ => rfl
  | x :: a, y :: b, ha, hb => by
    have hx := ha x (by simp)
    have hy := hb y (by simp)
    have ih := cmpB_lt (a := a) (b := b) (fun z hz => ha z (by simp [hz])) (fun z hz => hb z (by simp [hz]))
    have hlt : (x.toNat.toUInt8 < y.toNat.toUInt8) ↔ x < y := by
      rw [UInt8.lt_iff_toNat_lt]
      simp only [Nat.toUInt8_eq, UInt8.toNat_ofNat']
      rw [Nat.mod_eq_of_lt (by omega), Nat.mod_eq_of_lt (by omega)]
      omega
    have hgt : (y.toNat.toUInt8 < x.toNat.toUInt8) ↔ y < x := by
      rw [UInt8.lt_iff_toNat_lt]
      simp only [Nat.toUInt8_eq, UInt8.toNat_ofNat']
      rw [Nat.mod_eq_of_lt (by omega), Nat.mod_eq_of_lt (by omega)]
      omega
    have e : cmpB (x :: a) (y :: b) = if x < y then -1 else if y < x then 1 else cmpB a b := by
      show (if x.toNat.toUInt8 < y.toNat.toUInt8 then (-1 : Int) else if y.toNat.toUInt8 < x.toNat.toUInt8 then 1 else Lib.compareBytes (Lib.bytesOf a) (Lib.bytesOf b)) = _
      simp only [hlt, hgt]
      rfl
    rw [e]
    show _ = lexLt (x :: a) (y :: b)
    unfold lexLt
    by_cases h1 : x < y
    · rw [if_pos h1, if_neg (show ¬ x = y by omega)]; simp [h1]
    · by_cases h2 : y < x
      · rw [if_neg h1, if_pos h2, if_neg (show ¬ x = y by omega)]; simp; omega
      · rw [if_neg h1, if_neg h2, if_pos (show x = y by omega)]; exact ih
theorem swo_key (f : Sp → List Int) (hf : ∀ x, IsB (f x)) : Swo (ltC fun x y => cmpB (f x) (f y)) := by
  have e : ∀ x y, ltC (fun x y => cmpB (f x) (f y)) x y = lexLt (f x) (f y) := fun x y => cmpB_lt (hf x) (hf y)
  refine ⟨fun x => ?_, fun x y h => ?_, fun x y z h1 h2 => ?_⟩
  · rw [e]; exact lexLt_irrefl _
  · rw [e] at h ⊢; exact lexLt_asymm _ _ h
  · rw [e] at h1 h2 ⊢
    cases h3 : lexLt (f x) (f z) with
    | false => rfl
    | true =>
      rcases lexLt_tri (f y) (f z) with h | h | h
      · rw [h] at h2; cases h2
      · rw [h, h3] at h1; cases h1
      · rw [lexLt_trans _ _ _ h3 h] at h1; cases h1
end Go.Proofs.Ytffggkhahambhaa.Tr

namespace Go.Proofs.Ytffggkhahambhaa.Tr
open Go.RowKit Go.Proofs.YtffggkhahambhaaW.PrintWords Go.Proofs.YtffggkhahambhaaW.PrintLast Go.Proofs.YtffggkhahambhaaW.PrintMore Go.Proofs.Ytffggkhahambhaa.Math Go.Proofs.Ytffggkhahambhaa.PAll Go.Proofs.Ytffggkhahambhaa.Stab Go.Proofs.Ytffggkhahambhaa.NumFacts
set_option linter.unusedVariables false
set_option linter.unusedSimpArgs false
set_option maxHeartbeats 8000000 in
set_option maxRecDepth 1000000 in
theorem all2_calls (x y : Sp) {bq : Nat} {o : Int} (w : World) (hq : w.cell? ⟨bq, 1, none⟩ = some (.int .i64 o)) : Calls Try.prog 27 #[.agg (encS x).toArray, .agg (encS y).toArray, .pointer (some ⟨bq, 0, none⟩)] w fun e w' => e = .returned (.int .i64 (cmpB (keyI o x) (keyI o y))) ∧ Below w.heap.size w w' := by
  have hgr := below_alloc (below_alloc (Below.refl w.heap.size w) (.cells (encS x).toArray 34)) (.cells (encS y).toArray 34)
  have k1 : ((w.alloc (.cells (encS x).toArray 34)).alloc (.cells (encS y).toArray 34)).heap[w.heap.size]? = some (.cells (encS x).toArray 34 (0, 0)) := block_below (heap_alloc_new w _) (below_alloc (Below.refl _ _) _)
  have k2 : ((w.alloc (.cells (encS x).toArray 34)).alloc (.cells (encS y).toArray 34)).heap[(w.alloc (.cells (encS x).toArray 34)).heap.size]? = some (.cells (encS y).toArray 34 (0, 0)) := heap_alloc_new _ _
  rw [show (w.alloc (.cells (encS x).toArray 34)).heap.size = w.heap.size + 1 by simp] at k2
  have HG := Lib.hid hgr
  have K1 := Lib.hid k1
  have K2 := Lib.hid k2
  have HQ := Lib.hid hq
  clear hgr k1 k2 hq
  obtain ⟨r, hr⟩ : ∃ r, cmpB (keyI o x) (keyI o y) = r := ⟨_, rfl⟩
  rw [hr]
  have HR := Lib.hid hr
  clear hr
  rw [arr_S, arr_S] at HG K1 K2 ⊢
  go_enter Try.func27, Try.ntmps27
  go_wp2
  have k1 := blk_drew K1.out
  have k2 := blk_drew K2.out
  have hg := below_drew1 HG.out
  have hq : ((w.alloc (.cells #[.int .u64 x.tr, .int .u64 x.id, .int .u64 x.par, .string x.svc, .string x.op, .int .i64 x.st, .int .i64 x.du, .int .i64 x.stt, .slice x.a.1 x.a.2.1 x.a.2.2, .slice x.e.1 x.e.2.1 x.e.2.2, .slice x.l.1 x.l.2.1 x.l.2.2] 34)).alloc (.cells #[.int .u64 y.tr, .int .u64 y.id, .int .u64 y.par, .string y.svc, .string y.op, .int .i64 y.st, .int .i64 y.du, .int .i64 y.stt, .slice y.a.1 y.a.2.1 y.a.2.2, .slice y.e.1 y.e.2.1 y.e.2.2, .slice y.l.1 y.l.2.1 y.l.2.2] 34)).drew.cell? ⟨bq, 1, none⟩ = some (.int .i64 o) := pw_cell_below hg HQ.out
  refine start_ (n := 10) (S := fun w' => w'.cell? ⟨w.heap.size, 0, none⟩ = some (.int .u64 x.tr) ∧ w'.cell? ⟨w.heap.size, 1, none⟩ = some (.int .u64 x.id) ∧ w'.cell? ⟨w.heap.size, 2, none⟩ = some (.int .u64 x.par) ∧ w'.cell? ⟨w.heap.size, 3, none⟩ = some (.string x.svc) ∧ w'.cell? ⟨w.heap.size, 4, none⟩ = some (.string x.op) ∧ w'.cell? ⟨w.heap.size, 5, none⟩ = some (.int .i64 x.st) ∧ w'.cell? ⟨w.heap.size, 6, none⟩ = some (.int .i64 x.du) ∧ w'.cell? ⟨w.heap.size, 7, none⟩ = some (.int .i64 x.stt) ∧ w'.cell? ⟨w.heap.size, 8, none⟩ = some (.slice x.a.1 x.a.2.1 x.a.2.2) ∧ w'.cell? ⟨w.heap.size, 9, none⟩ = some (.slice x.e.1 x.e.2.1 x.e.2.2) ∧ w'.cell? ⟨w.heap.size, 10, none⟩ = some (.slice x.l.1 x.l.2.1 x.l.2.2) ∧ w'.cell? ⟨w.heap.size + 1, 0, none⟩ = some (.int .u64 y.tr) ∧ w'.cell? ⟨w.heap.size + 1, 1, none⟩ = some (.int .u64 y.id) ∧ w'.cell? ⟨w.heap.size + 1, 2, none⟩ = some (.int .u64 y.par) ∧ w'.cell? ⟨w.heap.size + 1, 3, none⟩ = some (.string y.svc) ∧ w'.cell? ⟨w.heap.size + 1, 4, none⟩ = some (.string y.op) ∧ w'.cell? ⟨w.heap.size + 1, 5, none⟩ = some (.int .i64 y.st) ∧ w'.cell? ⟨w.heap.size + 1, 6, none⟩ = some (.int .i64 y.du) ∧ w'.cell? ⟨w.heap.size + 1, 7, none⟩ = some (.int .i64 y.stt) ∧ w'.cell? ⟨w.heap.size + 1, 8, none⟩ = some (.slice y.a.1 y.a.2.1 y.a.2.2) ∧ w'.cell? ⟨w.heap.size + 1, 9, none⟩ = some (.slice y.e.1 y.e.2.1 y.e.2.2) ∧ w'.cell? ⟨w.heap.size + 1, 10, none⟩ = some (.slice y.l.1 y.l.2.1 y.l.2.2) ∧ w'.cell? ⟨bq, 1, none⟩ = some (.int .i64 o)) (ds := []) #[false, false, false, false, false, false, false, false, false, false] (by kernel_rfl) rfl rfl ⟨(blk_cell k1 0).trans rfl, (blk_cell k1 1).trans rfl, (blk_cell k1 2).trans rfl, (blk_cell k1 3).trans rfl, (blk_cell k1 4).trans rfl, (blk_cell k1 5).trans rfl, (blk_cell k1 6).trans rfl, (blk_cell k1 7).trans rfl, (blk_cell k1 8).trans rfl, (blk_cell k1 9).trans rfl, (blk_cell k1 10).trans rfl, (blk_cell k2 0).trans rfl, (blk_cell k2 1).trans rfl, (blk_cell k2 2).trans rfl, (blk_cell k2 3).trans rfl, (blk_cell k2 4).trans rfl, (blk_cell k2 5).trans rfl, (blk_cell k2 6).trans rfl, (blk_cell k2 7).trans rfl, (blk_cell k2 8).trans rfl, (blk_cell k2 9).trans rfl, (blk_cell k2 10).trans rfl, hq⟩ (fun hHeld => ?_)
  generalize ((w.alloc (.cells #[.int .u64 x.tr, .int .u64 x.id, .int .u64 x.par, .string x.svc, .string x.op, .int .i64 x.st, .int .i64 x.du, .int .i64 x.stt, .slice x.a.1 x.a.2.1 x.a.2.2, .slice x.e.1 x.e.2.1 x.e.2.2, .slice x.l.1 x.l.2.1 x.l.2.2] 34)).alloc (.cells #[.int .u64 y.tr, .int .u64 y.id, .int .u64 y.par, .string y.svc, .string y.op, .int .i64 y.st, .int .i64 y.du, .int .i64 y.stt, .slice y.a.1 y.a.2.1 y.a.2.2, .slice y.e.1 y.e.2.1 y.e.2.2, .slice y.l.1 y.l.2.1 y.l.2.2] 34)).drew = w5 at k1 k2 hg hq hHeld ⊢
  have K15 := Lib.hid k1
  have K25 := Lib.hid k2
  have HG5 := Lib.hid hg
  have HQ5 := Lib.hid hq
  clear k1 k2 hg hq
  refine pure_ (i := 0) (N := some 6) (v := ?_) (a' := ?_) #[true, false, false, false, false, false, false, false, false, false] rfl rfl (by kernel_rfl) (fun _ _ _ h => h) (Or.inl ⟨by rfl, ?_⟩) ?_ ?_
  rotate_left
  · intro w'
    go_simp
    with_reducible rfl
  rotate_left
  · simp only [Act.put, List.setIfInBounds_toArray, List.set_cons_zero, List.set_cons_succ, i64_w, i32_w]
    rfl
  refine pure_ (i := 4) (N := some 10) (v := ?_) (a' := ?_) #[true, false, false, false, true, false, false, false, false, false] rfl rfl (by kernel_rfl) (fun _ _ _ h => h) (Or.inl ⟨by rfl, ?_⟩) ?_ ?_
  rotate_left
  · intro w'
    go_simp
    with_reducible rfl
  rotate_left
  · simp only [Act.put, List.setIfInBounds_toArray, List.set_cons_zero, List.set_cons_succ, i64_w, i32_w]
    rfl
  refine take_ (i := 1) (N := some 7) (v := ?_) (a' := ?_) #[true, true, false, false, true, false, false, false, false, false] rfl rfl (by kernel_rfl) (fun _ _ _ h => h) (Or.inl ⟨by rfl, ?_⟩) hHeld ?_ ?_
  rotate_left
  · rintro w' ⟨s0, s1, s2, s3, s4, s5, s6, s7, s8, s9, s10, s11, s12, s13, s14, s15, s16, s17, s18, s19, s20, s21, s22⟩
    go_simp
    with_reducible rfl
  rotate_left
  · simp only [Act.put, List.setIfInBounds_toArray, List.set_cons_zero, List.set_cons_succ, i64_w, i32_w]
    rfl
  refine take_ (i := 2) (N := some 8) (v := ?_) (a' := ?_) #[true, true, true, false, true, false, false, false, false, false] rfl rfl (by kernel_rfl) (fun _ _ _ h => h) (Or.inl ⟨by rfl, ?_⟩) hHeld ?_ ?_
  rotate_left
  · rintro w' ⟨s0, s1, s2, s3, s4, s5, s6, s7, s8, s9, s10, s11, s12, s13, s14, s15, s16, s17, s18, s19, s20, s21, s22⟩
    go_simp
    with_reducible rfl
  rotate_left
  · simp only [Act.put, List.setIfInBounds_toArray, List.set_cons_zero, List.set_cons_succ, i64_w, i32_w]
    rfl
  refine take_ (i := 5) (N := some 11) (v := ?_) (a' := ?_) #[true, true, true, false, true, true, false, false, false, false] rfl rfl (by kernel_rfl) (fun _ _ _ h => h) (Or.inl ⟨by rfl, ?_⟩) hHeld ?_ ?_
  rotate_left
  · rintro w' ⟨s0, s1, s2, s3, s4, s5, s6, s7, s8, s9, s10, s11, s12, s13, s14, s15, s16, s17, s18, s19, s20, s21, s22⟩
    go_simp
    with_reducible rfl
  rotate_left
  · simp only [Act.put, List.setIfInBounds_toArray, List.set_cons_zero, List.set_cons_succ, i64_w, i32_w]
    rfl
  refine take_ (i := 6) (N := some 12) (v := ?_) (a' := ?_) #[true, true, true, false, true, true, true, false, false, false] rfl rfl (by kernel_rfl) (fun _ _ _ h => h) (Or.inl ⟨by rfl, ?_⟩) hHeld ?_ ?_
  rotate_left
  · rintro w' ⟨s0, s1, s2, s3, s4, s5, s6, s7, s8, s9, s10, s11, s12, s13, s14, s15, s16, s17, s18, s19, s20, s21, s22⟩
    go_simp
    with_reducible rfl
  rotate_left
  · simp only [Act.put, List.setIfInBounds_toArray, List.set_cons_zero, List.set_cons_succ, i64_w, i32_w]
    rfl
  refine one_ (i := 3) (N := some 9) #[true, true, true, true, true, true, true, false, false, false] rfl rfl (by kernel_rfl) (by decide) (fun K hK => ?_)
  refine goes_ Try.func17 (by kernel_rfl) rfl #[.int .i64 o, .agg #[.int .u64 x.tr, .int .u64 x.id, .int .u64 x.par, .string x.svc, .string x.op, .int .i64 x.st, .int .i64 x.du, .int .i64 x.stt, .slice x.a.1 x.a.2.1 x.a.2.2, .slice x.e.1 x.e.2.1 x.e.2.2, .slice x.l.1 x.l.2.1 x.l.2.2]] (by rfl) rfl rfl (by simp only [List.map_toArray, List.map_cons, List.map_nil]; rfl) ?_
  with_reducible refine (filter_Key.callsR 9 o x.tr x.id x.par x.svc x.op x.st x.du x.stt x.a.1 x.a.2.2 x.a.2.1 x.e.1 x.e.2.2 x.e.2.1 x.l.1 x.l.2.2 x.l.2.1 (keyI o x) w5 (keyI_eq o x)).mono ?_
  rintro e w6 ⟨v3, rfl, h3, hb6⟩
  refine ⟨_, rfl, ?_⟩
  have K16 := Lib.hid (block_below K15.out hb6)
  have K26 := Lib.hid (block_below K25.out hb6)
  have HG6 := Lib.hid (below_step HG5.out hb6)
  have HQ6 := Lib.hid (pw_cell_below hb6 HQ5.out)
  have H36 := Lib.hid h3
  clear h3 hb6
  refine hK.out _ _ ⟨(blk_cell K16.out 0).trans rfl, (blk_cell K16.out 1).trans rfl, (blk_cell K16.out 2).trans rfl, (blk_cell K16.out 3).trans rfl, (blk_cell K16.out 4).trans rfl, (blk_cell K16.out 5).trans rfl, (blk_cell K16.out 6).trans rfl, (blk_cell K16.out 7).trans rfl, (blk_cell K16.out 8).trans rfl, (blk_cell K16.out 9).trans rfl, (blk_cell K16.out 10).trans rfl, (blk_cell K26.out 0).trans rfl, (blk_cell K26.out 1).trans rfl, (blk_cell K26.out 2).trans rfl, (blk_cell K26.out 3).trans rfl, (blk_cell K26.out 4).trans rfl, (blk_cell K26.out 5).trans rfl, (blk_cell K26.out 6).trans rfl, (blk_cell K26.out 7).trans rfl, (blk_cell K26.out 8).trans rfl, (blk_cell K26.out 9).trans rfl, (blk_cell K26.out 10).trans rfl, HQ6.out⟩ (fun hHeld => ?_)
  clear hK K
  refine norm_ (a' := ?_) ?_ ?_
  rotate_left
  · show Act.put _ (some 9) _ = _
    simp only [Act.put, List.setIfInBounds_toArray, List.set_cons_zero, List.set_cons_succ, i64_w, i32_w]
    rfl
  refine one_ (i := 7) (N := some 13) #[true, true, true, true, true, true, true, true, false, false] rfl rfl (by kernel_rfl) (by decide) (fun K hK => ?_)
  refine goes_ Try.func17 (by kernel_rfl) rfl #[.int .i64 o, .agg #[.int .u64 y.tr, .int .u64 y.id, .int .u64 y.par, .string y.svc, .string y.op, .int .i64 y.st, .int .i64 y.du, .int .i64 y.stt, .slice y.a.1 y.a.2.1 y.a.2.2, .slice y.e.1 y.e.2.1 y.e.2.2, .slice y.l.1 y.l.2.1 y.l.2.2]] (by rfl) rfl rfl (by simp only [List.map_toArray, List.map_cons, List.map_nil]; rfl) ?_
  with_reducible refine (filter_Key.callsR 9 o y.tr y.id y.par y.svc y.op y.st y.du y.stt y.a.1 y.a.2.2 y.a.2.1 y.e.1 y.e.2.2 y.e.2.1 y.l.1 y.l.2.2 y.l.2.1 (keyI o y) w6 (keyI_eq o y)).mono ?_
  rintro e w7 ⟨v7, rfl, h7, hb7⟩
  refine ⟨_, rfl, ?_⟩
  have K17 := Lib.hid (block_below K16.out hb7)
  have K27 := Lib.hid (block_below K26.out hb7)
  have HG7 := Lib.hid (below_step HG6.out hb7)
  have HQ7 := Lib.hid (pw_cell_below hb7 HQ6.out)
  have H37 := Lib.hid (Kd.R_below H36.out hb7)
  have H77 := Lib.hid h7
  clear h7 hb7
  refine hK.out _ _ ⟨(blk_cell K17.out 0).trans rfl, (blk_cell K17.out 1).trans rfl, (blk_cell K17.out 2).trans rfl, (blk_cell K17.out 3).trans rfl, (blk_cell K17.out 4).trans rfl, (blk_cell K17.out 5).trans rfl, (blk_cell K17.out 6).trans rfl, (blk_cell K17.out 7).trans rfl, (blk_cell K17.out 8).trans rfl, (blk_cell K17.out 9).trans rfl, (blk_cell K17.out 10).trans rfl, (blk_cell K27.out 0).trans rfl, (blk_cell K27.out 1).trans rfl, (blk_cell K27.out 2).trans rfl, (blk_cell K27.out 3).trans rfl, (blk_cell K27.out 4).trans rfl, (blk_cell K27.out 5).trans rfl, (blk_cell K27.out 6).trans rfl, (blk_cell K27.out 7).trans rfl, (blk_cell K27.out 8).trans rfl, (blk_cell K27.out 9).trans rfl, (blk_cell K27.out 10).trans rfl, HQ7.out⟩ (fun hHeld => ?_)
  clear hK K
  refine norm_ (a' := ?_) ?_ ?_
  rotate_left
  · show Act.put _ (some 13) _ = _
    simp only [Act.put, List.setIfInBounds_toArray, List.set_cons_zero, List.set_cons_succ, i64_w, i32_w]
    rfl
  refine one_ (i := 8) (N := some 14) #[true, true, true, true, true, true, true, true, true, false] rfl rfl (by kernel_rfl) (by decide) (fun K hK => ?_)
  obtain ⟨A8, c8, rfl⟩ := Kd.R_slice H37.out
  obtain ⟨A9, c9, rfl⟩ := Kd.R_slice H77.out
  have hcm := bcmp_calls (c := c8) (d := c9) (Kd.R_reads' H37.out).2.2 rfl (Kd.R_reads' H77.out).2.2 rfl
  rw [HR.out] at hcm
  refine goes_ Try.func28 (by kernel_rfl) rfl #[.slice A8 (keyI o x).length c8, .slice A9 (keyI o y).length c9] (by rfl) rfl rfl (by simp only [List.map_toArray, List.map_cons, List.map_nil]; rfl) ?_
  with_reducible refine (hcm).mono ?_
  rintro e w8 ⟨rfl, rfl⟩
  refine ⟨_, rfl, ?_⟩
  refine hK.out _ _ ⟨(blk_cell K17.out 0).trans rfl, (blk_cell K17.out 1).trans rfl, (blk_cell K17.out 2).trans rfl, (blk_cell K17.out 3).trans rfl, (blk_cell K17.out 4).trans rfl, (blk_cell K17.out 5).trans rfl, (blk_cell K17.out 6).trans rfl, (blk_cell K17.out 7).trans rfl, (blk_cell K17.out 8).trans rfl, (blk_cell K17.out 9).trans rfl, (blk_cell K17.out 10).trans rfl, (blk_cell K27.out 0).trans rfl, (blk_cell K27.out 1).trans rfl, (blk_cell K27.out 2).trans rfl, (blk_cell K27.out 3).trans rfl, (blk_cell K27.out 4).trans rfl, (blk_cell K27.out 5).trans rfl, (blk_cell K27.out 6).trans rfl, (blk_cell K27.out 7).trans rfl, (blk_cell K27.out 8).trans rfl, (blk_cell K27.out 9).trans rfl, (blk_cell K27.out 10).trans rfl, HQ7.out⟩ (fun hHeld => ?_)
  clear hK K
  refine norm_ (a' := ?_) ?_ ?_
  rotate_left
  · show Act.put _ (some 14) _ = _
    simp only [Act.put, List.setIfInBounds_toArray, List.set_cons_zero, List.set_cons_succ, i64_w, i32_w]
    rfl
  refine pure_ (i := 9) (N := some 5) (v := ?_) (a' := ?_) #[true, true, true, true, true, true, true, true, true, true] rfl rfl (by kernel_rfl) (fun _ _ _ h => h) (Or.inl ⟨by rfl, ?_⟩) ?_ ?_
  rotate_left
  · intro w'
    go_simp
    with_reducible rfl
  rotate_left
  · simp only [Act.put, List.setIfInBounds_toArray, List.set_cons_zero, List.set_cons_succ, i64_w, i32_w]
    rfl
  refine done_ (by kernel_rfl) ?_
  go_wp2
  go_ret
  exact ⟨rfl, HG7.out⟩
end Go.Proofs.Ytffggkhahambhaa.Tr

namespace Go.Proofs.Ytffggkhahambhaa.Tr
open Go.RowKit Go.Proofs.YtffggkhahambhaaW.PrintWords Go.Proofs.YtffggkhahambhaaW.PrintLast Go.Proofs.YtffggkhahambhaaW.PrintMore Go.Proofs.Ytffggkhahambhaa.Math Go.Proofs.Ytffggkhahambhaa.PAll Go.Proofs.Ytffggkhahambhaa.Stab
set_option linter.unusedVariables false
set_option linter.unusedSimpArgs false
/-- How filter.All sets two spans. -/
def cfK (o : Int) (x y : Sp) : Int := cmpB (keyI o x) (keyI o y)
theorem swo_cfK (o : Int) : Swo (ltC (cfK o)) := swo_key (keyI o) (keyI_isB o)
theorem ltC_cfK (o : Int) (x y : Sp) : ltC (cfK o) x y = lexLt (keyI o x) (keyI o y) := cmpB_lt (keyI_isB o x) (keyI_isB o y)
/-- Of these spans a query's terms all hold just where m tells so. -/
def Holding (w : World) (ts : List S41) (m : Sp → Bool) (l : List Sp) : Prop := ∀ s ∈ l, ∃ x, Is w s x ∧ ∃ pt : S41 → Bool, (∀ t ∈ ts, ∃ k, holdF k t x = some (pt t)) ∧ ts.all pt = m s
theorem cmp_holds {w : World} {g bq : Nat} {o : Int} (hq : w.cell? ⟨bq, 1, none⟩ = some (.int .i64 o)) (hne : bq ≠ g) : Cmp w g bq (cfK o) := by
  intro x y w' hg
  refine (all2_calls x y w' ?_).mono fun e w2 h => h
  have hlt := World.block_lt_of_cell? w _ hq
  have hb := hg.block bq hlt (fun e => hne (Option.some.inj e))
  rw [World.cell?_of_block (w := w) (w' := w') hb]
  exact hq
set_option maxHeartbeats 4000000 in
set_option maxRecDepth 100000 in
theorem all_calls {A : Option Addr} {c : Nat} {l : List Sp} {Aq : Option Addr} {cq : Nat} {ts : List S41} {o : Int} {m : Sp → Bool} {w : World} (hH : Holding w ts m l) (hq : Kd.C k41 w Aq ts.length ts) (hlq : ts.length ≤ cq) (hnq : ts.length ≤ 1000000) (hr : Kd.C kS w A l.length l) (hl : l.length ≤ c) (hn : l.length ≤ 1000000) :
    Calls Try.prog 12 #[.agg #[.slice Aq ts.length cq, .int .i64 o], .slice A l.length c] w fun e w' => ∃ v ys, e = .returned v ∧ Kd.R kS 34 w' w.heap.size (fun _ => True) v ys ∧ Stb (ltC (cfK o)) (l.filter m) ys ∧ ys.length = (l.filter m).length ∧ Below w.heap.size w w' := by
  have hal := below_alloc (Below.refl w.heap.size w) (.cells #[.slice Aq ts.length cq, .int .i64 o] 24)
  have k1 := heap_alloc_new w (.cells #[.slice Aq ts.length cq, .int .i64 o] 24)
  have hsz : (w.alloc (.cells #[.slice Aq ts.length cq, .int .i64 o] 24)).heap.size = w.heap.size + 1 := by simp
  obtain ⟨w1, hw1⟩ : ∃ w1, w.alloc (.cells #[.slice Aq ts.length cq, .int .i64 o] 24) = w1 := ⟨_, rfl⟩
  have HCL := Lib.hid (clone_calls A c l _ (Kd.C_below hr hal) hl hn)
  rw [hw1] at hal k1 hsz HCL
  have HW1 := Lib.hid hw1
  have HAL := Lib.hid hal
  have HK1 := Lib.hid k1
  have HSZ := Lib.hid hsz
  have HH := Lib.hid hH
  have HQ := Lib.hid hq
  have HLQ := Lib.hid hlq
  have HNQ := Lib.hid hnq
  have HN := Lib.hid hn
  clear hal k1 hsz hH hq hlq hnq hr hl hn
  go_enter Try.func12, Try.ntmps12
  go_wp2_with fail
  clear hw1
  refine HCL.out.mono ?_
  rintro e w2 ⟨v2, rfl, hR2, hb2⟩
  obtain ⟨A2, c2, rfl⟩ := Kd.R_slice hR2
  have HR2 := Lib.hid hR2
  have HB2 := Lib.hid hb2
  have hkeep : Keeps w1.heap.size w2 w.heap.size m l := by
    intro s hs w' hb'
    obtain ⟨x, hx, pt, hpt, hm⟩ := HH.out s hs
    have hbw : Below w1.heap.size w1 w' := HB2.out.trans hb'
    have hbw0 : Below w.heap.size w w' := HAL.out.trans (hbw.mono (by rw [HSZ.out]; omega))
    have hq' := (hbw.block w.heap.size (by rw [HSZ.out]; omega)).trans HK1.out
    refine (all1_calls hq' hpt (hx.below hbw0) (Kd.C_below HQ.out hbw0) HLQ.out HNQ.out).mono ?_
    rintro e w5 ⟨rfl, hb5⟩
    exact ⟨by rw [hm], hb5⟩
  have HD := Lib.hid (delf_calls A2 c2 l hkeep (Below.refl _ _) HB2.out.size hR2 HN.out)
  clear hkeep hR2 hb2 HCL
  go_wp2_with fail
  refine HD.out.mono ?_
  rintro e w3 ⟨v3, rfl, hR3, hb3⟩
  obtain ⟨A3, c3, rfl⟩ := Kd.R_slice hR3
  have hq3 : w3.cell? ⟨w.heap.size, 1, none⟩ = some (.int .i64 o) := (blk_cell (((HB2.out.trans hb3).block w.heap.size (by rw [HSZ.out]; omega)).trans HK1.out) 1).trans rfl
  have hrl := row_lt hR3
  have HS := Lib.hid (sortStable_calls (swo_cfK o) hR3 (Nat.le_trans (List.length_filter_le _ _) HN.out) (bq := w.heap.size) (fun g hg => cmp_holds hq3 (fun e => by
    subst hg
    have := (hrl g rfl).1
    rw [HSZ.out] at this
    omega)))
  have HR3 := Lib.hid hR3
  have HB3 := Lib.hid hb3
  have HRL := Lib.hid hrl
  clear hR3 hb3 HD hq3 hrl
  go_wp2_with fail
  refine HS.out.mono ?_
  rintro e w4 ⟨rfl, ys, hlen, hst, hR4, hg⟩
  have HR4 := Lib.hid hR4
  have HST := Lib.hid hst
  have HB4 := Lib.hid (Below.grown (HB2.out.trans HB3.out) hg (Nat.le_trans HB2.out.size HB3.out.size) (fun k hk => (HRL.out k hk).1))
  have HLN := Lib.hid hlen
  clear hR4 hst hg hlen HS
  go_wp2
  go_ret
  exact ⟨_, ys, rfl, Kd.R_lower HR4.out (by rw [HSZ.out]; omega), HST.out, HLN.out, HAL.out.trans (HB4.out.mono (by rw [HSZ.out]; omega))⟩
end Go.Proofs.Ytffggkhahambhaa.Tr

namespace Go.Proofs.Ytffggkhahambhaa.Tr
open Go.RowKit Go.Proofs.YtffggkhahambhaaW.PrintWords Go.Proofs.YtffggkhahambhaaW.PrintLast Go.Proofs.YtffggkhahambhaaW.PrintMore Go.Proofs.Ytffggkhahambhaa.Math Go.Proofs.Ytffggkhahambhaa.PAll Go.Proofs.Ytffggkhahambhaa.Stab
set_option linter.unusedVariables false
set_option linter.unusedSimpArgs false
def sA : S34 := ⟨1, 2, 0, ⟨#[97, 112, 105]⟩, ⟨#[103, 101, 116]⟩, 5, 7, 0, [], [], []⟩
def spA : Sp := ⟨1, 2, 0, ⟨#[97, 112, 105]⟩, ⟨#[103, 101, 116]⟩, 5, 7, 0, (none, 0, 0), (none, 0, 0), (none, 0, 0)⟩
def tA : S41 := ⟨⟨#[100, 117, 114]⟩, 5, ⟨1, ⟨#[]⟩, 7, false⟩⟩
def uA : S41 := ⟨⟨#[64, 99, 111, 100, 101]⟩, 2, ⟨1, ⟨#[]⟩, 500, false⟩⟩
theorem isA (w : World) : Is w spA sA := k34_mk w sA (A8 := none) (c8 := 0) (Nat.le_refl _) ⟨rfl, by simp [sA], fun h => absurd h (by decide)⟩ (A9 := none) (c9 := 0) (Nat.le_refl _) ⟨rfl, by simp [sA], fun h => absurd h (by decide)⟩ (A10 := none) (c10 := 0) (Nat.le_refl _) ⟨rfl, by simp [sA], fun h => absurd h (by decide)⟩
theorem hold_tA : holdF 5 tA sA = some true := by kernel_rfl
theorem hold_uA : holdF 5 uA sA = some false := by kernel_rfl
theorem add_at0 (g j : Nat) : (⟨g, 0, none⟩ : Addr).add j = ⟨g, j, none⟩ := by
  unfold Addr.add
  split
  · subst_vars; rfl
  · simp
theorem row_tA {w : World} {g : Nat} (h : w.heap[g]? = some (.cells (encT tA).toArray 41 (0, 0))) : Kd.C k41 w (some ⟨g, 0, none⟩) [tA].length [tA] := by
  refine ⟨rfl, by simp, fun _ => ⟨_, rfl, fun j p hj => ?_⟩⟩
  rcases j with _ | j
  · injection hj with hj
    subst hj
    refine ⟨encT tA, rfl, k41_mk w tA, fun i u hu => ?_⟩
    have hc := blk_cell h (0 * 6 + i)
    have e : (⟨g, 0, none⟩ : Addr).add (0 * 6 + i) = ⟨g, 0 * 6 + i, none⟩ := add_at0 g _
    show w.cell? ((⟨g, 0, none⟩ : Addr).add (0 * 6 + i)) = some u
    rw [e, hc, Nat.zero_mul, Nat.zero_add]
    simpa using hu
  · cases hj
theorem row_sA {w : World} {g : Nat} (h : w.heap[g]? = some (.cells (encS spA).toArray 34 (0, 0))) : Kd.C kS w (some ⟨g, 0, none⟩) [spA].length [spA] := by
  refine ⟨rfl, by simp, fun _ => ⟨_, rfl, fun j p hj => ?_⟩⟩
  rcases j with _ | j
  · injection hj with hj
    subst hj
    refine ⟨encS spA, rfl, rfl, fun i u hu => ?_⟩
    have hc := blk_cell h (0 * 11 + i)
    have e : (⟨g, 0, none⟩ : Addr).add (0 * 11 + i) = ⟨g, 0 * 11 + i, none⟩ := add_at0 g _
    show w.cell? ((⟨g, 0, none⟩ : Addr).add (0 * 11 + i)) = some u
    rw [e, hc, Nat.zero_mul, Nat.zero_add]
    simpa using hu
  · cases hj
set_option maxHeartbeats 8000000 in
set_option maxRecDepth 1000000 in
theorem awake_calls (w : World) : Calls Try.prog 7 #[] w fun e w' => e = .returned (.bool true) ∧ Below w.heap.size w w' := by
  obtain ⟨n, hn⟩ : ∃ n, w.heap.size = n := ⟨_, rfl⟩
  have sz : ∀ (W : World) (o : Obj), (W.alloc o).heap.size = W.heap.size + 1 := fun W o => by simp
  have hb : Below w.heap.size w (((w.alloc (.cells #[.int .u64 1, .int .u64 2, .int .u64 0, .string ⟨#[97, 112, 105]⟩, .string ⟨#[103, 101, 116]⟩, .int .i64 5, .int .i64 7, .int .i64 0, .slice none 0 0, .slice none 0 0, .slice none 0 0] 34)).alloc (.cells #[.string ⟨#[100, 117, 114]⟩, .int .i64 5, .int .i64 1, .string ⟨#[]⟩, .int .i64 7, .bool false] 41)).alloc (.cells #[.string ⟨#[64, 99, 111, 100, 101]⟩, .int .i64 2, .int .i64 1, .string ⟨#[]⟩, .int .i64 500, .bool false] 41)) := below_alloc (below_alloc (below_alloc (Below.refl _ _) _) _) _
  have h1 := block_below (block_below (heap_alloc_new w (.cells #[.int .u64 1, .int .u64 2, .int .u64 0, .string ⟨#[97, 112, 105]⟩, .string ⟨#[103, 101, 116]⟩, .int .i64 5, .int .i64 7, .int .i64 0, .slice none 0 0, .slice none 0 0, .slice none 0 0] 34)) (below_alloc (Below.refl _ _) (.cells #[.string ⟨#[100, 117, 114]⟩, .int .i64 5, .int .i64 1, .string ⟨#[]⟩, .int .i64 7, .bool false] 41))) (below_alloc (Below.refl _ _) (.cells #[.string ⟨#[64, 99, 111, 100, 101]⟩, .int .i64 2, .int .i64 1, .string ⟨#[]⟩, .int .i64 500, .bool false] 41))
  have h2 := block_below (heap_alloc_new (w.alloc (.cells #[.int .u64 1, .int .u64 2, .int .u64 0, .string ⟨#[97, 112, 105]⟩, .string ⟨#[103, 101, 116]⟩, .int .i64 5, .int .i64 7, .int .i64 0, .slice none 0 0, .slice none 0 0, .slice none 0 0] 34)) (.cells #[.string ⟨#[100, 117, 114]⟩, .int .i64 5, .int .i64 1, .string ⟨#[]⟩, .int .i64 7, .bool false] 41)) (below_alloc (Below.refl _ _) (.cells #[.string ⟨#[64, 99, 111, 100, 101]⟩, .int .i64 2, .int .i64 1, .string ⟨#[]⟩, .int .i64 500, .bool false] 41))
  have h3 := heap_alloc_new ((w.alloc (.cells #[.int .u64 1, .int .u64 2, .int .u64 0, .string ⟨#[97, 112, 105]⟩, .string ⟨#[103, 101, 116]⟩, .int .i64 5, .int .i64 7, .int .i64 0, .slice none 0 0, .slice none 0 0, .slice none 0 0] 34)).alloc (.cells #[.string ⟨#[100, 117, 114]⟩, .int .i64 5, .int .i64 1, .string ⟨#[]⟩, .int .i64 7, .bool false] 41)) (.cells #[.string ⟨#[64, 99, 111, 100, 101]⟩, .int .i64 2, .int .i64 1, .string ⟨#[]⟩, .int .i64 500, .bool false] 41)
  simp only [sz] at h2 h3
  have H1 := Lib.hid h1
  have H2 := Lib.hid h2
  have H3 := Lib.hid h3
  have HB := Lib.hid hb
  clear h1 h2 h3 hb sz hn

  have x0 : (((w.alloc (.cells #[.int .u64 1, .int .u64 2, .int .u64 0, .string ⟨#[97, 112, 105]⟩, .string ⟨#[103, 101, 116]⟩, .int .i64 5, .int .i64 7, .int .i64 0, .slice none 0 0, .slice none 0 0, .slice none 0 0] 34)).alloc (.cells #[.string ⟨#[100, 117, 114]⟩, .int .i64 5, .int .i64 1, .string ⟨#[]⟩, .int .i64 7, .bool false] 41)).alloc (.cells #[.string ⟨#[64, 99, 111, 100, 101]⟩, .int .i64 2, .int .i64 1, .string ⟨#[]⟩, .int .i64 500, .bool false] 41)).cell? ⟨w.heap.size, 0, none⟩ = some (.int .u64 1) := (blk_cell H1.out 0).trans rfl
  have x1 : (((w.alloc (.cells #[.int .u64 1, .int .u64 2, .int .u64 0, .string ⟨#[97, 112, 105]⟩, .string ⟨#[103, 101, 116]⟩, .int .i64 5, .int .i64 7, .int .i64 0, .slice none 0 0, .slice none 0 0, .slice none 0 0] 34)).alloc (.cells #[.string ⟨#[100, 117, 114]⟩, .int .i64 5, .int .i64 1, .string ⟨#[]⟩, .int .i64 7, .bool false] 41)).alloc (.cells #[.string ⟨#[64, 99, 111, 100, 101]⟩, .int .i64 2, .int .i64 1, .string ⟨#[]⟩, .int .i64 500, .bool false] 41)).cell? ⟨w.heap.size, 1, none⟩ = some (.int .u64 2) := (blk_cell H1.out 1).trans rfl
  have x2 : (((w.alloc (.cells #[.int .u64 1, .int .u64 2, .int .u64 0, .string ⟨#[97, 112, 105]⟩, .string ⟨#[103, 101, 116]⟩, .int .i64 5, .int .i64 7, .int .i64 0, .slice none 0 0, .slice none 0 0, .slice none 0 0] 34)).alloc (.cells #[.string ⟨#[100, 117, 114]⟩, .int .i64 5, .int .i64 1, .string ⟨#[]⟩, .int .i64 7, .bool false] 41)).alloc (.cells #[.string ⟨#[64, 99, 111, 100, 101]⟩, .int .i64 2, .int .i64 1, .string ⟨#[]⟩, .int .i64 500, .bool false] 41)).cell? ⟨w.heap.size, 2, none⟩ = some (.int .u64 0) := (blk_cell H1.out 2).trans rfl
  have x3 : (((w.alloc (.cells #[.int .u64 1, .int .u64 2, .int .u64 0, .string ⟨#[97, 112, 105]⟩, .string ⟨#[103, 101, 116]⟩, .int .i64 5, .int .i64 7, .int .i64 0, .slice none 0 0, .slice none 0 0, .slice none 0 0] 34)).alloc (.cells #[.string ⟨#[100, 117, 114]⟩, .int .i64 5, .int .i64 1, .string ⟨#[]⟩, .int .i64 7, .bool false] 41)).alloc (.cells #[.string ⟨#[64, 99, 111, 100, 101]⟩, .int .i64 2, .int .i64 1, .string ⟨#[]⟩, .int .i64 500, .bool false] 41)).cell? ⟨w.heap.size, 3, none⟩ = some (.string ⟨#[97, 112, 105]⟩) := (blk_cell H1.out 3).trans rfl
  have x4 : (((w.alloc (.cells #[.int .u64 1, .int .u64 2, .int .u64 0, .string ⟨#[97, 112, 105]⟩, .string ⟨#[103, 101, 116]⟩, .int .i64 5, .int .i64 7, .int .i64 0, .slice none 0 0, .slice none 0 0, .slice none 0 0] 34)).alloc (.cells #[.string ⟨#[100, 117, 114]⟩, .int .i64 5, .int .i64 1, .string ⟨#[]⟩, .int .i64 7, .bool false] 41)).alloc (.cells #[.string ⟨#[64, 99, 111, 100, 101]⟩, .int .i64 2, .int .i64 1, .string ⟨#[]⟩, .int .i64 500, .bool false] 41)).cell? ⟨w.heap.size, 4, none⟩ = some (.string ⟨#[103, 101, 116]⟩) := (blk_cell H1.out 4).trans rfl
  have x5 : (((w.alloc (.cells #[.int .u64 1, .int .u64 2, .int .u64 0, .string ⟨#[97, 112, 105]⟩, .string ⟨#[103, 101, 116]⟩, .int .i64 5, .int .i64 7, .int .i64 0, .slice none 0 0, .slice none 0 0, .slice none 0 0] 34)).alloc (.cells #[.string ⟨#[100, 117, 114]⟩, .int .i64 5, .int .i64 1, .string ⟨#[]⟩, .int .i64 7, .bool false] 41)).alloc (.cells #[.string ⟨#[64, 99, 111, 100, 101]⟩, .int .i64 2, .int .i64 1, .string ⟨#[]⟩, .int .i64 500, .bool false] 41)).cell? ⟨w.heap.size, 5, none⟩ = some (.int .i64 5) := (blk_cell H1.out 5).trans rfl
  have x6 : (((w.alloc (.cells #[.int .u64 1, .int .u64 2, .int .u64 0, .string ⟨#[97, 112, 105]⟩, .string ⟨#[103, 101, 116]⟩, .int .i64 5, .int .i64 7, .int .i64 0, .slice none 0 0, .slice none 0 0, .slice none 0 0] 34)).alloc (.cells #[.string ⟨#[100, 117, 114]⟩, .int .i64 5, .int .i64 1, .string ⟨#[]⟩, .int .i64 7, .bool false] 41)).alloc (.cells #[.string ⟨#[64, 99, 111, 100, 101]⟩, .int .i64 2, .int .i64 1, .string ⟨#[]⟩, .int .i64 500, .bool false] 41)).cell? ⟨w.heap.size, 6, none⟩ = some (.int .i64 7) := (blk_cell H1.out 6).trans rfl
  have x7 : (((w.alloc (.cells #[.int .u64 1, .int .u64 2, .int .u64 0, .string ⟨#[97, 112, 105]⟩, .string ⟨#[103, 101, 116]⟩, .int .i64 5, .int .i64 7, .int .i64 0, .slice none 0 0, .slice none 0 0, .slice none 0 0] 34)).alloc (.cells #[.string ⟨#[100, 117, 114]⟩, .int .i64 5, .int .i64 1, .string ⟨#[]⟩, .int .i64 7, .bool false] 41)).alloc (.cells #[.string ⟨#[64, 99, 111, 100, 101]⟩, .int .i64 2, .int .i64 1, .string ⟨#[]⟩, .int .i64 500, .bool false] 41)).cell? ⟨w.heap.size, 7, none⟩ = some (.int .i64 0) := (blk_cell H1.out 7).trans rfl
  have x8 : (((w.alloc (.cells #[.int .u64 1, .int .u64 2, .int .u64 0, .string ⟨#[97, 112, 105]⟩, .string ⟨#[103, 101, 116]⟩, .int .i64 5, .int .i64 7, .int .i64 0, .slice none 0 0, .slice none 0 0, .slice none 0 0] 34)).alloc (.cells #[.string ⟨#[100, 117, 114]⟩, .int .i64 5, .int .i64 1, .string ⟨#[]⟩, .int .i64 7, .bool false] 41)).alloc (.cells #[.string ⟨#[64, 99, 111, 100, 101]⟩, .int .i64 2, .int .i64 1, .string ⟨#[]⟩, .int .i64 500, .bool false] 41)).cell? ⟨w.heap.size, 8, none⟩ = some (.slice none 0 0) := (blk_cell H1.out 8).trans rfl
  have x9 : (((w.alloc (.cells #[.int .u64 1, .int .u64 2, .int .u64 0, .string ⟨#[97, 112, 105]⟩, .string ⟨#[103, 101, 116]⟩, .int .i64 5, .int .i64 7, .int .i64 0, .slice none 0 0, .slice none 0 0, .slice none 0 0] 34)).alloc (.cells #[.string ⟨#[100, 117, 114]⟩, .int .i64 5, .int .i64 1, .string ⟨#[]⟩, .int .i64 7, .bool false] 41)).alloc (.cells #[.string ⟨#[64, 99, 111, 100, 101]⟩, .int .i64 2, .int .i64 1, .string ⟨#[]⟩, .int .i64 500, .bool false] 41)).cell? ⟨w.heap.size, 9, none⟩ = some (.slice none 0 0) := (blk_cell H1.out 9).trans rfl
  have x10 : (((w.alloc (.cells #[.int .u64 1, .int .u64 2, .int .u64 0, .string ⟨#[97, 112, 105]⟩, .string ⟨#[103, 101, 116]⟩, .int .i64 5, .int .i64 7, .int .i64 0, .slice none 0 0, .slice none 0 0, .slice none 0 0] 34)).alloc (.cells #[.string ⟨#[100, 117, 114]⟩, .int .i64 5, .int .i64 1, .string ⟨#[]⟩, .int .i64 7, .bool false] 41)).alloc (.cells #[.string ⟨#[64, 99, 111, 100, 101]⟩, .int .i64 2, .int .i64 1, .string ⟨#[]⟩, .int .i64 500, .bool false] 41)).cell? ⟨w.heap.size, 10, none⟩ = some (.slice none 0 0) := (blk_cell H1.out 10).trans rfl
  have y0 : (((w.alloc (.cells #[.int .u64 1, .int .u64 2, .int .u64 0, .string ⟨#[97, 112, 105]⟩, .string ⟨#[103, 101, 116]⟩, .int .i64 5, .int .i64 7, .int .i64 0, .slice none 0 0, .slice none 0 0, .slice none 0 0] 34)).alloc (.cells #[.string ⟨#[100, 117, 114]⟩, .int .i64 5, .int .i64 1, .string ⟨#[]⟩, .int .i64 7, .bool false] 41)).alloc (.cells #[.string ⟨#[64, 99, 111, 100, 101]⟩, .int .i64 2, .int .i64 1, .string ⟨#[]⟩, .int .i64 500, .bool false] 41)).cell? ⟨w.heap.size + 1, 0, none⟩ = some (.string ⟨#[100, 117, 114]⟩) := (blk_cell H2.out 0).trans rfl
  have y1 : (((w.alloc (.cells #[.int .u64 1, .int .u64 2, .int .u64 0, .string ⟨#[97, 112, 105]⟩, .string ⟨#[103, 101, 116]⟩, .int .i64 5, .int .i64 7, .int .i64 0, .slice none 0 0, .slice none 0 0, .slice none 0 0] 34)).alloc (.cells #[.string ⟨#[100, 117, 114]⟩, .int .i64 5, .int .i64 1, .string ⟨#[]⟩, .int .i64 7, .bool false] 41)).alloc (.cells #[.string ⟨#[64, 99, 111, 100, 101]⟩, .int .i64 2, .int .i64 1, .string ⟨#[]⟩, .int .i64 500, .bool false] 41)).cell? ⟨w.heap.size + 1, 1, none⟩ = some (.int .i64 5) := (blk_cell H2.out 1).trans rfl
  have y2 : (((w.alloc (.cells #[.int .u64 1, .int .u64 2, .int .u64 0, .string ⟨#[97, 112, 105]⟩, .string ⟨#[103, 101, 116]⟩, .int .i64 5, .int .i64 7, .int .i64 0, .slice none 0 0, .slice none 0 0, .slice none 0 0] 34)).alloc (.cells #[.string ⟨#[100, 117, 114]⟩, .int .i64 5, .int .i64 1, .string ⟨#[]⟩, .int .i64 7, .bool false] 41)).alloc (.cells #[.string ⟨#[64, 99, 111, 100, 101]⟩, .int .i64 2, .int .i64 1, .string ⟨#[]⟩, .int .i64 500, .bool false] 41)).cell? ⟨w.heap.size + 1, 2, none⟩ = some (.int .i64 1) := (blk_cell H2.out 2).trans rfl
  have y3 : (((w.alloc (.cells #[.int .u64 1, .int .u64 2, .int .u64 0, .string ⟨#[97, 112, 105]⟩, .string ⟨#[103, 101, 116]⟩, .int .i64 5, .int .i64 7, .int .i64 0, .slice none 0 0, .slice none 0 0, .slice none 0 0] 34)).alloc (.cells #[.string ⟨#[100, 117, 114]⟩, .int .i64 5, .int .i64 1, .string ⟨#[]⟩, .int .i64 7, .bool false] 41)).alloc (.cells #[.string ⟨#[64, 99, 111, 100, 101]⟩, .int .i64 2, .int .i64 1, .string ⟨#[]⟩, .int .i64 500, .bool false] 41)).cell? ⟨w.heap.size + 1, 3, none⟩ = some (.string ⟨#[]⟩) := (blk_cell H2.out 3).trans rfl
  have y4 : (((w.alloc (.cells #[.int .u64 1, .int .u64 2, .int .u64 0, .string ⟨#[97, 112, 105]⟩, .string ⟨#[103, 101, 116]⟩, .int .i64 5, .int .i64 7, .int .i64 0, .slice none 0 0, .slice none 0 0, .slice none 0 0] 34)).alloc (.cells #[.string ⟨#[100, 117, 114]⟩, .int .i64 5, .int .i64 1, .string ⟨#[]⟩, .int .i64 7, .bool false] 41)).alloc (.cells #[.string ⟨#[64, 99, 111, 100, 101]⟩, .int .i64 2, .int .i64 1, .string ⟨#[]⟩, .int .i64 500, .bool false] 41)).cell? ⟨w.heap.size + 1, 4, none⟩ = some (.int .i64 7) := (blk_cell H2.out 4).trans rfl
  have y5 : (((w.alloc (.cells #[.int .u64 1, .int .u64 2, .int .u64 0, .string ⟨#[97, 112, 105]⟩, .string ⟨#[103, 101, 116]⟩, .int .i64 5, .int .i64 7, .int .i64 0, .slice none 0 0, .slice none 0 0, .slice none 0 0] 34)).alloc (.cells #[.string ⟨#[100, 117, 114]⟩, .int .i64 5, .int .i64 1, .string ⟨#[]⟩, .int .i64 7, .bool false] 41)).alloc (.cells #[.string ⟨#[64, 99, 111, 100, 101]⟩, .int .i64 2, .int .i64 1, .string ⟨#[]⟩, .int .i64 500, .bool false] 41)).cell? ⟨w.heap.size + 1, 5, none⟩ = some (.bool false) := (blk_cell H2.out 5).trans rfl
  have z0 : (((w.alloc (.cells #[.int .u64 1, .int .u64 2, .int .u64 0, .string ⟨#[97, 112, 105]⟩, .string ⟨#[103, 101, 116]⟩, .int .i64 5, .int .i64 7, .int .i64 0, .slice none 0 0, .slice none 0 0, .slice none 0 0] 34)).alloc (.cells #[.string ⟨#[100, 117, 114]⟩, .int .i64 5, .int .i64 1, .string ⟨#[]⟩, .int .i64 7, .bool false] 41)).alloc (.cells #[.string ⟨#[64, 99, 111, 100, 101]⟩, .int .i64 2, .int .i64 1, .string ⟨#[]⟩, .int .i64 500, .bool false] 41)).cell? ⟨w.heap.size + 1 + 1, 0, none⟩ = some (.string ⟨#[64, 99, 111, 100, 101]⟩) := (blk_cell H3.out 0).trans rfl
  have z1 : (((w.alloc (.cells #[.int .u64 1, .int .u64 2, .int .u64 0, .string ⟨#[97, 112, 105]⟩, .string ⟨#[103, 101, 116]⟩, .int .i64 5, .int .i64 7, .int .i64 0, .slice none 0 0, .slice none 0 0, .slice none 0 0] 34)).alloc (.cells #[.string ⟨#[100, 117, 114]⟩, .int .i64 5, .int .i64 1, .string ⟨#[]⟩, .int .i64 7, .bool false] 41)).alloc (.cells #[.string ⟨#[64, 99, 111, 100, 101]⟩, .int .i64 2, .int .i64 1, .string ⟨#[]⟩, .int .i64 500, .bool false] 41)).cell? ⟨w.heap.size + 1 + 1, 1, none⟩ = some (.int .i64 2) := (blk_cell H3.out 1).trans rfl
  have z2 : (((w.alloc (.cells #[.int .u64 1, .int .u64 2, .int .u64 0, .string ⟨#[97, 112, 105]⟩, .string ⟨#[103, 101, 116]⟩, .int .i64 5, .int .i64 7, .int .i64 0, .slice none 0 0, .slice none 0 0, .slice none 0 0] 34)).alloc (.cells #[.string ⟨#[100, 117, 114]⟩, .int .i64 5, .int .i64 1, .string ⟨#[]⟩, .int .i64 7, .bool false] 41)).alloc (.cells #[.string ⟨#[64, 99, 111, 100, 101]⟩, .int .i64 2, .int .i64 1, .string ⟨#[]⟩, .int .i64 500, .bool false] 41)).cell? ⟨w.heap.size + 1 + 1, 2, none⟩ = some (.int .i64 1) := (blk_cell H3.out 2).trans rfl
  have z3 : (((w.alloc (.cells #[.int .u64 1, .int .u64 2, .int .u64 0, .string ⟨#[97, 112, 105]⟩, .string ⟨#[103, 101, 116]⟩, .int .i64 5, .int .i64 7, .int .i64 0, .slice none 0 0, .slice none 0 0, .slice none 0 0] 34)).alloc (.cells #[.string ⟨#[100, 117, 114]⟩, .int .i64 5, .int .i64 1, .string ⟨#[]⟩, .int .i64 7, .bool false] 41)).alloc (.cells #[.string ⟨#[64, 99, 111, 100, 101]⟩, .int .i64 2, .int .i64 1, .string ⟨#[]⟩, .int .i64 500, .bool false] 41)).cell? ⟨w.heap.size + 1 + 1, 3, none⟩ = some (.string ⟨#[]⟩) := (blk_cell H3.out 3).trans rfl
  have z4 : (((w.alloc (.cells #[.int .u64 1, .int .u64 2, .int .u64 0, .string ⟨#[97, 112, 105]⟩, .string ⟨#[103, 101, 116]⟩, .int .i64 5, .int .i64 7, .int .i64 0, .slice none 0 0, .slice none 0 0, .slice none 0 0] 34)).alloc (.cells #[.string ⟨#[100, 117, 114]⟩, .int .i64 5, .int .i64 1, .string ⟨#[]⟩, .int .i64 7, .bool false] 41)).alloc (.cells #[.string ⟨#[64, 99, 111, 100, 101]⟩, .int .i64 2, .int .i64 1, .string ⟨#[]⟩, .int .i64 500, .bool false] 41)).cell? ⟨w.heap.size + 1 + 1, 4, none⟩ = some (.int .i64 500) := (blk_cell H3.out 4).trans rfl
  have z5 : (((w.alloc (.cells #[.int .u64 1, .int .u64 2, .int .u64 0, .string ⟨#[97, 112, 105]⟩, .string ⟨#[103, 101, 116]⟩, .int .i64 5, .int .i64 7, .int .i64 0, .slice none 0 0, .slice none 0 0, .slice none 0 0] 34)).alloc (.cells #[.string ⟨#[100, 117, 114]⟩, .int .i64 5, .int .i64 1, .string ⟨#[]⟩, .int .i64 7, .bool false] 41)).alloc (.cells #[.string ⟨#[64, 99, 111, 100, 101]⟩, .int .i64 2, .int .i64 1, .string ⟨#[]⟩, .int .i64 500, .bool false] 41)).cell? ⟨w.heap.size + 1 + 1, 5, none⟩ = some (.bool false) := (blk_cell H3.out 5).trans rfl
  go_enter Try.func7, Try.ntmps7
  go_wp2_with fail
  refine (holds_calls (isA _) hold_tA).mono ?_
  rintro e w4 ⟨rfl, hb4⟩
  have H1a := Lib.hid (block_below H1.out hb4)
  have H2a := Lib.hid (block_below H2.out hb4)
  have H3a := Lib.hid (block_below H3.out hb4)
  have HBa := Lib.hid (below_step HB.out hb4)
  clear x0 x1 x2 x3 x4 x5 x6 x7 x8 x9 x10 y0 y1 y2 y3 y4 y5 z0 z1 z2 z3 z4 z5
  clear hb4
  have x0 : w4.cell? ⟨w.heap.size, 0, none⟩ = some (.int .u64 1) := (blk_cell H1a.out 0).trans rfl
  have x1 : w4.cell? ⟨w.heap.size, 1, none⟩ = some (.int .u64 2) := (blk_cell H1a.out 1).trans rfl
  have x2 : w4.cell? ⟨w.heap.size, 2, none⟩ = some (.int .u64 0) := (blk_cell H1a.out 2).trans rfl
  have x3 : w4.cell? ⟨w.heap.size, 3, none⟩ = some (.string ⟨#[97, 112, 105]⟩) := (blk_cell H1a.out 3).trans rfl
  have x4 : w4.cell? ⟨w.heap.size, 4, none⟩ = some (.string ⟨#[103, 101, 116]⟩) := (blk_cell H1a.out 4).trans rfl
  have x5 : w4.cell? ⟨w.heap.size, 5, none⟩ = some (.int .i64 5) := (blk_cell H1a.out 5).trans rfl
  have x6 : w4.cell? ⟨w.heap.size, 6, none⟩ = some (.int .i64 7) := (blk_cell H1a.out 6).trans rfl
  have x7 : w4.cell? ⟨w.heap.size, 7, none⟩ = some (.int .i64 0) := (blk_cell H1a.out 7).trans rfl
  have x8 : w4.cell? ⟨w.heap.size, 8, none⟩ = some (.slice none 0 0) := (blk_cell H1a.out 8).trans rfl
  have x9 : w4.cell? ⟨w.heap.size, 9, none⟩ = some (.slice none 0 0) := (blk_cell H1a.out 9).trans rfl
  have x10 : w4.cell? ⟨w.heap.size, 10, none⟩ = some (.slice none 0 0) := (blk_cell H1a.out 10).trans rfl
  have y0 : w4.cell? ⟨w.heap.size + 1, 0, none⟩ = some (.string ⟨#[100, 117, 114]⟩) := (blk_cell H2a.out 0).trans rfl
  have y1 : w4.cell? ⟨w.heap.size + 1, 1, none⟩ = some (.int .i64 5) := (blk_cell H2a.out 1).trans rfl
  have y2 : w4.cell? ⟨w.heap.size + 1, 2, none⟩ = some (.int .i64 1) := (blk_cell H2a.out 2).trans rfl
  have y3 : w4.cell? ⟨w.heap.size + 1, 3, none⟩ = some (.string ⟨#[]⟩) := (blk_cell H2a.out 3).trans rfl
  have y4 : w4.cell? ⟨w.heap.size + 1, 4, none⟩ = some (.int .i64 7) := (blk_cell H2a.out 4).trans rfl
  have y5 : w4.cell? ⟨w.heap.size + 1, 5, none⟩ = some (.bool false) := (blk_cell H2a.out 5).trans rfl
  have z0 : w4.cell? ⟨w.heap.size + 1 + 1, 0, none⟩ = some (.string ⟨#[64, 99, 111, 100, 101]⟩) := (blk_cell H3a.out 0).trans rfl
  have z1 : w4.cell? ⟨w.heap.size + 1 + 1, 1, none⟩ = some (.int .i64 2) := (blk_cell H3a.out 1).trans rfl
  have z2 : w4.cell? ⟨w.heap.size + 1 + 1, 2, none⟩ = some (.int .i64 1) := (blk_cell H3a.out 2).trans rfl
  have z3 : w4.cell? ⟨w.heap.size + 1 + 1, 3, none⟩ = some (.string ⟨#[]⟩) := (blk_cell H3a.out 3).trans rfl
  have z4 : w4.cell? ⟨w.heap.size + 1 + 1, 4, none⟩ = some (.int .i64 500) := (blk_cell H3a.out 4).trans rfl
  have z5 : w4.cell? ⟨w.heap.size + 1 + 1, 5, none⟩ = some (.bool false) := (blk_cell H3a.out 5).trans rfl
  go_wp2_with fail
  refine (holds_calls (isA _) hold_uA).mono ?_
  rintro e w5 ⟨rfl, hb5⟩
  have H1b := Lib.hid (block_below H1a.out hb5)
  have H2b := Lib.hid (block_below H2a.out hb5)
  have H3b := Lib.hid (block_below H3a.out hb5)
  have HBb := Lib.hid (below_step HBa.out hb5)
  clear x0 x1 x2 x3 x4 x5 x6 x7 x8 x9 x10 y0 y1 y2 y3 y4 y5 z0 z1 z2 z3 z4 z5
  clear hb5
  have x0 : w5.cell? ⟨w.heap.size, 0, none⟩ = some (.int .u64 1) := (blk_cell H1b.out 0).trans rfl
  have x1 : w5.cell? ⟨w.heap.size, 1, none⟩ = some (.int .u64 2) := (blk_cell H1b.out 1).trans rfl
  have x2 : w5.cell? ⟨w.heap.size, 2, none⟩ = some (.int .u64 0) := (blk_cell H1b.out 2).trans rfl
  have x3 : w5.cell? ⟨w.heap.size, 3, none⟩ = some (.string ⟨#[97, 112, 105]⟩) := (blk_cell H1b.out 3).trans rfl
  have x4 : w5.cell? ⟨w.heap.size, 4, none⟩ = some (.string ⟨#[103, 101, 116]⟩) := (blk_cell H1b.out 4).trans rfl
  have x5 : w5.cell? ⟨w.heap.size, 5, none⟩ = some (.int .i64 5) := (blk_cell H1b.out 5).trans rfl
  have x6 : w5.cell? ⟨w.heap.size, 6, none⟩ = some (.int .i64 7) := (blk_cell H1b.out 6).trans rfl
  have x7 : w5.cell? ⟨w.heap.size, 7, none⟩ = some (.int .i64 0) := (blk_cell H1b.out 7).trans rfl
  have x8 : w5.cell? ⟨w.heap.size, 8, none⟩ = some (.slice none 0 0) := (blk_cell H1b.out 8).trans rfl
  have x9 : w5.cell? ⟨w.heap.size, 9, none⟩ = some (.slice none 0 0) := (blk_cell H1b.out 9).trans rfl
  have x10 : w5.cell? ⟨w.heap.size, 10, none⟩ = some (.slice none 0 0) := (blk_cell H1b.out 10).trans rfl
  have y0 : w5.cell? ⟨w.heap.size + 1, 0, none⟩ = some (.string ⟨#[100, 117, 114]⟩) := (blk_cell H2b.out 0).trans rfl
  have y1 : w5.cell? ⟨w.heap.size + 1, 1, none⟩ = some (.int .i64 5) := (blk_cell H2b.out 1).trans rfl
  have y2 : w5.cell? ⟨w.heap.size + 1, 2, none⟩ = some (.int .i64 1) := (blk_cell H2b.out 2).trans rfl
  have y3 : w5.cell? ⟨w.heap.size + 1, 3, none⟩ = some (.string ⟨#[]⟩) := (blk_cell H2b.out 3).trans rfl
  have y4 : w5.cell? ⟨w.heap.size + 1, 4, none⟩ = some (.int .i64 7) := (blk_cell H2b.out 4).trans rfl
  have y5 : w5.cell? ⟨w.heap.size + 1, 5, none⟩ = some (.bool false) := (blk_cell H2b.out 5).trans rfl
  have z0 : w5.cell? ⟨w.heap.size + 1 + 1, 0, none⟩ = some (.string ⟨#[64, 99, 111, 100, 101]⟩) := (blk_cell H3b.out 0).trans rfl
  have z1 : w5.cell? ⟨w.heap.size + 1 + 1, 1, none⟩ = some (.int .i64 2) := (blk_cell H3b.out 1).trans rfl
  have z2 : w5.cell? ⟨w.heap.size + 1 + 1, 2, none⟩ = some (.int .i64 1) := (blk_cell H3b.out 2).trans rfl
  have z3 : w5.cell? ⟨w.heap.size + 1 + 1, 3, none⟩ = some (.string ⟨#[]⟩) := (blk_cell H3b.out 3).trans rfl
  have z4 : w5.cell? ⟨w.heap.size + 1 + 1, 4, none⟩ = some (.int .i64 500) := (blk_cell H3b.out 4).trans rfl
  have z5 : w5.cell? ⟨w.heap.size + 1 + 1, 5, none⟩ = some (.bool false) := (blk_cell H3b.out 5).trans rfl
  go_wp2_with fail
  refine (filter_Key.callsR 9 1 1 2 0 ⟨#[97, 112, 105]⟩ ⟨#[103, 101, 116]⟩ 5 7 0 none 0 0 none 0 0 none 0 0 (keyI 1 spA) w5 (keyI_eq 1 spA)).mono ?_
  rintro e w6 ⟨v6, rfl, hR6, hb6⟩
  obtain ⟨A6, c6, rfl⟩ := Kd.R_slice hR6
  have hlen : (keyI 1 spA).length = 24 := by kernel_rfl
  rw [hlen]
  clear hR6 hlen
  have H1c := Lib.hid (block_below H1b.out hb6)
  have H2c := Lib.hid (block_below H2b.out hb6)
  have H3c := Lib.hid (block_below H3b.out hb6)
  have HBc := Lib.hid (below_step HBb.out hb6)
  clear x0 x1 x2 x3 x4 x5 x6 x7 x8 x9 x10 y0 y1 y2 y3 y4 y5 z0 z1 z2 z3 z4 z5
  clear hb6
  have x0 : w6.cell? ⟨w.heap.size, 0, none⟩ = some (.int .u64 1) := (blk_cell H1c.out 0).trans rfl
  have x1 : w6.cell? ⟨w.heap.size, 1, none⟩ = some (.int .u64 2) := (blk_cell H1c.out 1).trans rfl
  have x2 : w6.cell? ⟨w.heap.size, 2, none⟩ = some (.int .u64 0) := (blk_cell H1c.out 2).trans rfl
  have x3 : w6.cell? ⟨w.heap.size, 3, none⟩ = some (.string ⟨#[97, 112, 105]⟩) := (blk_cell H1c.out 3).trans rfl
  have x4 : w6.cell? ⟨w.heap.size, 4, none⟩ = some (.string ⟨#[103, 101, 116]⟩) := (blk_cell H1c.out 4).trans rfl
  have x5 : w6.cell? ⟨w.heap.size, 5, none⟩ = some (.int .i64 5) := (blk_cell H1c.out 5).trans rfl
  have x6 : w6.cell? ⟨w.heap.size, 6, none⟩ = some (.int .i64 7) := (blk_cell H1c.out 6).trans rfl
  have x7 : w6.cell? ⟨w.heap.size, 7, none⟩ = some (.int .i64 0) := (blk_cell H1c.out 7).trans rfl
  have x8 : w6.cell? ⟨w.heap.size, 8, none⟩ = some (.slice none 0 0) := (blk_cell H1c.out 8).trans rfl
  have x9 : w6.cell? ⟨w.heap.size, 9, none⟩ = some (.slice none 0 0) := (blk_cell H1c.out 9).trans rfl
  have x10 : w6.cell? ⟨w.heap.size, 10, none⟩ = some (.slice none 0 0) := (blk_cell H1c.out 10).trans rfl
  have y0 : w6.cell? ⟨w.heap.size + 1, 0, none⟩ = some (.string ⟨#[100, 117, 114]⟩) := (blk_cell H2c.out 0).trans rfl
  have y1 : w6.cell? ⟨w.heap.size + 1, 1, none⟩ = some (.int .i64 5) := (blk_cell H2c.out 1).trans rfl
  have y2 : w6.cell? ⟨w.heap.size + 1, 2, none⟩ = some (.int .i64 1) := (blk_cell H2c.out 2).trans rfl
  have y3 : w6.cell? ⟨w.heap.size + 1, 3, none⟩ = some (.string ⟨#[]⟩) := (blk_cell H2c.out 3).trans rfl
  have y4 : w6.cell? ⟨w.heap.size + 1, 4, none⟩ = some (.int .i64 7) := (blk_cell H2c.out 4).trans rfl
  have y5 : w6.cell? ⟨w.heap.size + 1, 5, none⟩ = some (.bool false) := (blk_cell H2c.out 5).trans rfl
  have z0 : w6.cell? ⟨w.heap.size + 1 + 1, 0, none⟩ = some (.string ⟨#[64, 99, 111, 100, 101]⟩) := (blk_cell H3c.out 0).trans rfl
  have z1 : w6.cell? ⟨w.heap.size + 1 + 1, 1, none⟩ = some (.int .i64 2) := (blk_cell H3c.out 1).trans rfl
  have z2 : w6.cell? ⟨w.heap.size + 1 + 1, 2, none⟩ = some (.int .i64 1) := (blk_cell H3c.out 2).trans rfl
  have z3 : w6.cell? ⟨w.heap.size + 1 + 1, 3, none⟩ = some (.string ⟨#[]⟩) := (blk_cell H3c.out 3).trans rfl
  have z4 : w6.cell? ⟨w.heap.size + 1 + 1, 4, none⟩ = some (.int .i64 500) := (blk_cell H3c.out 4).trans rfl
  have z5 : w6.cell? ⟨w.heap.size + 1 + 1, 5, none⟩ = some (.bool false) := (blk_cell H3c.out 5).trans rfl
  have hbt := below_alloc (Below.refl w6.heap.size w6) (.cells #[.string ⟨#[100, 117, 114]⟩, .int .i64 5, .int .i64 1, .string ⟨#[]⟩, .int .i64 7, .bool false] 41)
  have hbs := below_alloc (Below.refl (w6.alloc (.cells #[.string ⟨#[100, 117, 114]⟩, .int .i64 5, .int .i64 1, .string ⟨#[]⟩, .int .i64 7, .bool false] 41)).heap.size (w6.alloc (.cells #[.string ⟨#[100, 117, 114]⟩, .int .i64 5, .int .i64 1, .string ⟨#[]⟩, .int .i64 7, .bool false] 41))) (.cells #[.int .u64 1, .int .u64 2, .int .u64 0, .string ⟨#[97, 112, 105]⟩, .string ⟨#[103, 101, 116]⟩, .int .i64 5, .int .i64 7, .int .i64 0, .slice none 0 0, .slice none 0 0, .slice none 0 0] 34)
  have kt := block_below (heap_alloc_new w6 (.cells #[.string ⟨#[100, 117, 114]⟩, .int .i64 5, .int .i64 1, .string ⟨#[]⟩, .int .i64 7, .bool false] 41)) hbs
  have ks := heap_alloc_new (w6.alloc (.cells #[.string ⟨#[100, 117, 114]⟩, .int .i64 5, .int .i64 1, .string ⟨#[]⟩, .int .i64 7, .bool false] 41)) (.cells #[.int .u64 1, .int .u64 2, .int .u64 0, .string ⟨#[97, 112, 105]⟩, .string ⟨#[103, 101, 116]⟩, .int .i64 5, .int .i64 7, .int .i64 0, .slice none 0 0, .slice none 0 0, .slice none 0 0] 34)
  rw [show (w6.alloc (.cells #[.string ⟨#[100, 117, 114]⟩, .int .i64 5, .int .i64 1, .string ⟨#[]⟩, .int .i64 7, .bool false] 41)).heap.size = w6.heap.size + 1 by simp] at ks
  have H1d := Lib.hid (block_below H1c.out hbt)
  have HT := Lib.hid (row_tA kt)
  have HS := Lib.hid (row_sA ks)
  have HBd := Lib.hid (below_step HBc.out (below_step hbt hbs))
  clear hbt hbs kt ks
  have u0 : (w6.alloc (.cells #[.string ⟨#[100, 117, 114]⟩, .int .i64 5, .int .i64 1, .string ⟨#[]⟩, .int .i64 7, .bool false] 41)).cell? ⟨w.heap.size, 0, none⟩ = some (.int .u64 1) := (blk_cell H1d.out 0).trans rfl
  have u1 : (w6.alloc (.cells #[.string ⟨#[100, 117, 114]⟩, .int .i64 5, .int .i64 1, .string ⟨#[]⟩, .int .i64 7, .bool false] 41)).cell? ⟨w.heap.size, 1, none⟩ = some (.int .u64 2) := (blk_cell H1d.out 1).trans rfl
  have u2 : (w6.alloc (.cells #[.string ⟨#[100, 117, 114]⟩, .int .i64 5, .int .i64 1, .string ⟨#[]⟩, .int .i64 7, .bool false] 41)).cell? ⟨w.heap.size, 2, none⟩ = some (.int .u64 0) := (blk_cell H1d.out 2).trans rfl
  have u3 : (w6.alloc (.cells #[.string ⟨#[100, 117, 114]⟩, .int .i64 5, .int .i64 1, .string ⟨#[]⟩, .int .i64 7, .bool false] 41)).cell? ⟨w.heap.size, 3, none⟩ = some (.string ⟨#[97, 112, 105]⟩) := (blk_cell H1d.out 3).trans rfl
  have u4 : (w6.alloc (.cells #[.string ⟨#[100, 117, 114]⟩, .int .i64 5, .int .i64 1, .string ⟨#[]⟩, .int .i64 7, .bool false] 41)).cell? ⟨w.heap.size, 4, none⟩ = some (.string ⟨#[103, 101, 116]⟩) := (blk_cell H1d.out 4).trans rfl
  have u5 : (w6.alloc (.cells #[.string ⟨#[100, 117, 114]⟩, .int .i64 5, .int .i64 1, .string ⟨#[]⟩, .int .i64 7, .bool false] 41)).cell? ⟨w.heap.size, 5, none⟩ = some (.int .i64 5) := (blk_cell H1d.out 5).trans rfl
  have u6 : (w6.alloc (.cells #[.string ⟨#[100, 117, 114]⟩, .int .i64 5, .int .i64 1, .string ⟨#[]⟩, .int .i64 7, .bool false] 41)).cell? ⟨w.heap.size, 6, none⟩ = some (.int .i64 7) := (blk_cell H1d.out 6).trans rfl
  have u7 : (w6.alloc (.cells #[.string ⟨#[100, 117, 114]⟩, .int .i64 5, .int .i64 1, .string ⟨#[]⟩, .int .i64 7, .bool false] 41)).cell? ⟨w.heap.size, 7, none⟩ = some (.int .i64 0) := (blk_cell H1d.out 7).trans rfl
  have u8 : (w6.alloc (.cells #[.string ⟨#[100, 117, 114]⟩, .int .i64 5, .int .i64 1, .string ⟨#[]⟩, .int .i64 7, .bool false] 41)).cell? ⟨w.heap.size, 8, none⟩ = some (.slice none 0 0) := (blk_cell H1d.out 8).trans rfl
  have u9 : (w6.alloc (.cells #[.string ⟨#[100, 117, 114]⟩, .int .i64 5, .int .i64 1, .string ⟨#[]⟩, .int .i64 7, .bool false] 41)).cell? ⟨w.heap.size, 9, none⟩ = some (.slice none 0 0) := (blk_cell H1d.out 9).trans rfl
  have u10 : (w6.alloc (.cells #[.string ⟨#[100, 117, 114]⟩, .int .i64 5, .int .i64 1, .string ⟨#[]⟩, .int .i64 7, .bool false] 41)).cell? ⟨w.heap.size, 10, none⟩ = some (.slice none 0 0) := (blk_cell H1d.out 10).trans rfl
  go_wp2_with fail
  refine (all_calls (l := [spA]) (ts := [tA]) (m := fun _ => true) (fun s hs => ?_) HT.out (by decide) (by decide) HS.out (by decide) (by decide)).mono ?_
  · rw [List.mem_singleton] at hs
    subst hs
    refine ⟨sA, isA _, fun _ => true, fun t ht => ?_, rfl⟩
    rw [List.mem_singleton] at ht
    subst ht
    exact ⟨5, hold_tA⟩
  rintro e w7 ⟨v7, ys, rfl, hR7, hst, hln7, hb7⟩
  obtain ⟨A7, c7, rfl⟩ := Kd.R_slice hR7
  have hl : ys = [spA] := Stb.unique (swo_cfK 0) hst ⟨List.pairwise_singleton _ _, Kp.refl _ _⟩
  subst hl
  have HB7 := Lib.hid (below_step HBd.out hb7)
  clear hR7 hb7 hln7
  go_wp2
  go_ret
  exact ⟨rfl, HB7.out⟩
end Go.Proofs.Ytffggkhahambhaa.Tr
