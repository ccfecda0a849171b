/- key.Index, Service, Operation in the print's form, by hand. -/
import Derived.Test.YtenmjbcedadcbaaPAllx8
import Derived.Test.YtenmjbcedadcbaaExtEnded
import Derived.Test.YtenmjbcedadcbaaExtConcat
namespace Go.Proofs.Ytenmjbcedadcbaa.PAll
open Go.RowKit Go.Proofs.YtenmjbcedadcbaaW.PrintWords Go.Proofs.YtenmjbcedadcbaaW.PrintLast Go.Proofs.YtenmjbcedadcbaaW.PrintMore Go.Proofs.Ytenmjbcedadcbaa.Math
set_option linter.unusedVariables false
set_option linter.unusedSimpArgs false
set_option maxHeartbeats 4000000 in
set_option maxRecDepth 100000 in
theorem index4 (k : Nat) (a b c : Int) (s o : ByteArray) (d e f : Int) (A8 : Option Addr) (c8 : Nat) (l8 : List (S51)) (A9 : Option Addr) (c9 : Nat) (l9 : List (S53)) (A10 : Option Addr) (c10 : Nat) (l10 : List (S58)) (w : World) (hr8 : Kd.C k51 w A8 l8.length l8) (hc8 : l8.length ≤ c8) (hr9 : Kd.C k53 w A9 l9.length l9) (hc9 : l9.length ≤ c9) (hr10 : Kd.C k58 w A10 l10.length l10) (hc10 : l10.length ≤ c10) (p rS rD : List Int) (hP : key_Primary.f k a b c s o d e f l8 l9 l10 = some p) (hS : num_Key.f k (IntKind.u64.wrap d) = some rS) (hD : num_Key.f k (IntKind.u64.wrap e) = some rD)
    (hp0 : 0 < p.length) (hp1 : p.length ≤ 1000000) (hS0 : 0 < rS.length) (hS1 : rS.length ≤ 1000000) (hD0 : 0 < rD.length) (hD1 : rD.length ≤ 1000000) (hs : s.size ≤ 1000000) (ho : o.size ≤ 1000000) :
    Calls Try.prog 14 #[.int .i64 4, .agg #[.int .u64 a, .int .u64 b, .int .u64 c, .string s, .string o, .int .i64 d, .int .i64 e, .int .i64 f, .slice A8 l8.length c8, .slice A9 l9.length c9, .slice A10 l10.length c10]] w fun e w' => ∃ v, e = .returned v ∧ Kd.R (Kd.int .u8) 5 w' w.heap.size (fun _ => True) v (rS ++ p) ∧ Below w.heap.size w w' := by
  have H8 := Lib.hid hr8
  have H9 := Lib.hid hr9
  have H10 := Lib.hid hr10
  have HP := Lib.hid hP
  have HS := Lib.hid hS
  have HL1 := Lib.hid (show rS.length ≤ 35184372088832 by omega)
  have HL2 := Lib.hid (show p.length ≤ 35184372088832 by omega)
  have HL3 := Lib.hid hS0
  have HL4 := Lib.hid hp0
  have HB0 := Lib.hid (below_alloc (Below.refl w.heap.size w) (.cells #[.int .u64 a, .int .u64 b, .int .u64 c, .string s, .string o, .int .i64 d, .int .i64 e, .int .i64 f, .slice A8 l8.length c8, .slice A9 l9.length c9, .slice A10 l10.length c10] 34))
  have KB0 := Lib.hid (heap_alloc_new w (.cells #[.int .u64 a, .int .u64 b, .int .u64 c, .string s, .string o, .int .i64 d, .int .i64 e, .int .i64 f, .slice A8 l8.length c8, .slice A9 l9.length c9, .slice A10 l10.length c10] 34))
  clear hr8 hr9 hr10 hP hS hD hp0 hp1 hS0 hS1 hD0 hD1 hs ho
  go_enter Try.func14, Try.ntmps14
  go_wp2_with fail
  refine (num_Key.calls k _ rS _ HS.out).mono ?_
  rintro ee w1 ⟨v1, rfl, hv1, hb1⟩
  obtain ⟨Ah, ch, rfl⟩ := Kd.R_slice hv1
  have HB := Lib.hid (below_step HB0.out hb1)
  have KB := Lib.hid (block_below KB0.out hb1)
  have HCH := Lib.hid (Kd.R_reads' hv1).2.2
  clear hv1 hb1 HB0 KB0
  have y0 : w1.cell? ⟨w.heap.size, 0, none⟩ = some (.int .u64 a) := (blk_cell KB.out 0).trans rfl
  have y1 : w1.cell? ⟨w.heap.size, 1, none⟩ = some (.int .u64 b) := (blk_cell KB.out 1).trans rfl
  have y2 : w1.cell? ⟨w.heap.size, 2, none⟩ = some (.int .u64 c) := (blk_cell KB.out 2).trans rfl
  have y3 : w1.cell? ⟨w.heap.size, 3, none⟩ = some (.string s) := (blk_cell KB.out 3).trans rfl
  have y4 : w1.cell? ⟨w.heap.size, 4, none⟩ = some (.string o) := (blk_cell KB.out 4).trans rfl
  have y5 : w1.cell? ⟨w.heap.size, 5, none⟩ = some (.int .i64 d) := (blk_cell KB.out 5).trans rfl
  have y6 : w1.cell? ⟨w.heap.size, 6, none⟩ = some (.int .i64 e) := (blk_cell KB.out 6).trans rfl
  have y7 : w1.cell? ⟨w.heap.size, 7, none⟩ = some (.int .i64 f) := (blk_cell KB.out 7).trans rfl
  have y8 : w1.cell? ⟨w.heap.size, 8, none⟩ = some (.slice A8 l8.length c8) := (blk_cell KB.out 8).trans rfl
  have y9 : w1.cell? ⟨w.heap.size, 9, none⟩ = some (.slice A9 l9.length c9) := (blk_cell KB.out 9).trans rfl
  have y10 : w1.cell? ⟨w.heap.size, 10, none⟩ = some (.slice A10 l10.length c10) := (blk_cell KB.out 10).trans rfl
  go_wp2_with fail
  refine (key_Primary.calls k a b c s o d e f A8 c8 l8 A9 c9 l9 A10 c10 l10 p w1 (Kd.C_below H8.out HB.out) hc8 (Kd.C_below H9.out HB.out) hc9 (Kd.C_below H10.out HB.out) hc10 HP.out).mono ?_
  rintro ee wp ⟨vp, rfl, hvp, hbp⟩
  obtain ⟨Ap, cp, rfl⟩ := Kd.R_slice hvp
  have HPB := Lib.hid (below_step HB.out hbp)
  have HPC := Lib.hid (Kd.R_reads' hvp).2.2
  have HHC := Lib.hid (Kd.C_below HCH.out hbp)
  clear hvp hbp y0 y1 y2 y3 y4 y5 y6 y7 y8 y9 y10
  go_wp2_with fail
  refine (concat2_calls wp.heap.size Ah Ap ch cp _ p _ (heap_alloc_new wp _) (Kd.C_below HHC.out (below_alloc (Below.refl _ _) _)) (Kd.C_below HPC.out (below_alloc (Below.refl _ _) _)) HL1.out HL2.out HL3.out HL4.out).mono ?_
  rintro ee wq ⟨vq, rfl, hvq, hbq⟩
  have HQ := Lib.hid (Kd.R_lower hvq (Nat.le_trans HPB.out.size (below_alloc (Below.refl wp.heap.size wp) _).size))
  have HQB := Lib.hid (below_step (below_alloc HPB.out _) hbq)
  clear hvq hbq
  go_wp2
  go_ret
  exact ⟨_, rfl, HQ.out, HQB.out⟩
set_option maxHeartbeats 4000000 in
set_option maxRecDepth 100000 in
theorem index3 (k : Nat) (a b c : Int) (s o : ByteArray) (d e f : Int) (A8 : Option Addr) (c8 : Nat) (l8 : List (S51)) (A9 : Option Addr) (c9 : Nat) (l9 : List (S53)) (A10 : Option Addr) (c10 : Nat) (l10 : List (S58)) (w : World) (hr8 : Kd.C k51 w A8 l8.length l8) (hc8 : l8.length ≤ c8) (hr9 : Kd.C k53 w A9 l9.length l9) (hc9 : l9.length ≤ c9) (hr10 : Kd.C k58 w A10 l10.length l10) (hc10 : l10.length ≤ c10) (p rS rD : List Int) (hP : key_Primary.f k a b c s o d e f l8 l9 l10 = some p) (hS : num_Key.f k (IntKind.u64.wrap d) = some rS) (hD : num_Key.f k (IntKind.u64.wrap e) = some rD)
    (hp0 : 0 < p.length) (hp1 : p.length ≤ 1000000) (hS0 : 0 < rS.length) (hS1 : rS.length ≤ 1000000) (hD0 : 0 < rD.length) (hD1 : rD.length ≤ 1000000) (hs : s.size ≤ 1000000) (ho : o.size ≤ 1000000) :
    Calls Try.prog 14 #[.int .i64 3, .agg #[.int .u64 a, .int .u64 b, .int .u64 c, .string s, .string o, .int .i64 d, .int .i64 e, .int .i64 f, .slice A8 l8.length c8, .slice A9 l9.length c9, .slice A10 l10.length c10]] w fun e w' => ∃ v, e = .returned v ∧ Kd.R (Kd.int .u8) 5 w' w.heap.size (fun _ => True) v (rD ++ p) ∧ Below w.heap.size w w' := by
  have H8 := Lib.hid hr8
  have H9 := Lib.hid hr9
  have H10 := Lib.hid hr10
  have HP := Lib.hid hP
  have HS := Lib.hid hD
  have HL1 := Lib.hid (show rD.length ≤ 35184372088832 by omega)
  have HL2 := Lib.hid (show p.length ≤ 35184372088832 by omega)
  have HL3 := Lib.hid hD0
  have HL4 := Lib.hid hp0
  have HB0 := Lib.hid (below_alloc (Below.refl w.heap.size w) (.cells #[.int .u64 a, .int .u64 b, .int .u64 c, .string s, .string o, .int .i64 d, .int .i64 e, .int .i64 f, .slice A8 l8.length c8, .slice A9 l9.length c9, .slice A10 l10.length c10] 34))
  have KB0 := Lib.hid (heap_alloc_new w (.cells #[.int .u64 a, .int .u64 b, .int .u64 c, .string s, .string o, .int .i64 d, .int .i64 e, .int .i64 f, .slice A8 l8.length c8, .slice A9 l9.length c9, .slice A10 l10.length c10] 34))
  clear hr8 hr9 hr10 hP hS hD hp0 hp1 hS0 hS1 hD0 hD1 hs ho
  go_enter Try.func14, Try.ntmps14
  go_wp2_with fail
  refine (num_Key.calls k _ rD _ HS.out).mono ?_
  rintro ee w1 ⟨v1, rfl, hv1, hb1⟩
  obtain ⟨Ah, ch, rfl⟩ := Kd.R_slice hv1
  have HB := Lib.hid (below_step HB0.out hb1)
  have KB := Lib.hid (block_below KB0.out hb1)
  have HCH := Lib.hid (Kd.R_reads' hv1).2.2
  clear hv1 hb1 HB0 KB0
  have y0 : w1.cell? ⟨w.heap.size, 0, none⟩ = some (.int .u64 a) := (blk_cell KB.out 0).trans rfl
  have y1 : w1.cell? ⟨w.heap.size, 1, none⟩ = some (.int .u64 b) := (blk_cell KB.out 1).trans rfl
  have y2 : w1.cell? ⟨w.heap.size, 2, none⟩ = some (.int .u64 c) := (blk_cell KB.out 2).trans rfl
  have y3 : w1.cell? ⟨w.heap.size, 3, none⟩ = some (.string s) := (blk_cell KB.out 3).trans rfl
  have y4 : w1.cell? ⟨w.heap.size, 4, none⟩ = some (.string o) := (blk_cell KB.out 4).trans rfl
  have y5 : w1.cell? ⟨w.heap.size, 5, none⟩ = some (.int .i64 d) := (blk_cell KB.out 5).trans rfl
  have y6 : w1.cell? ⟨w.heap.size, 6, none⟩ = some (.int .i64 e) := (blk_cell KB.out 6).trans rfl
  have y7 : w1.cell? ⟨w.heap.size, 7, none⟩ = some (.int .i64 f) := (blk_cell KB.out 7).trans rfl
  have y8 : w1.cell? ⟨w.heap.size, 8, none⟩ = some (.slice A8 l8.length c8) := (blk_cell KB.out 8).trans rfl
  have y9 : w1.cell? ⟨w.heap.size, 9, none⟩ = some (.slice A9 l9.length c9) := (blk_cell KB.out 9).trans rfl
  have y10 : w1.cell? ⟨w.heap.size, 10, none⟩ = some (.slice A10 l10.length c10) := (blk_cell KB.out 10).trans rfl
  go_wp2_with fail
  refine (key_Primary.calls k a b c s o d e f A8 c8 l8 A9 c9 l9 A10 c10 l10 p w1 (Kd.C_below H8.out HB.out) hc8 (Kd.C_below H9.out HB.out) hc9 (Kd.C_below H10.out HB.out) hc10 HP.out).mono ?_
  rintro ee wp ⟨vp, rfl, hvp, hbp⟩
  obtain ⟨Ap, cp, rfl⟩ := Kd.R_slice hvp
  have HPB := Lib.hid (below_step HB.out hbp)
  have HPC := Lib.hid (Kd.R_reads' hvp).2.2
  have HHC := Lib.hid (Kd.C_below HCH.out hbp)
  clear hvp hbp y0 y1 y2 y3 y4 y5 y6 y7 y8 y9 y10
  go_wp2_with fail
  refine (concat2_calls wp.heap.size Ah Ap ch cp _ p _ (heap_alloc_new wp _) (Kd.C_below HHC.out (below_alloc (Below.refl _ _) _)) (Kd.C_below HPC.out (below_alloc (Below.refl _ _) _)) HL1.out HL2.out HL3.out HL4.out).mono ?_
  rintro ee wq ⟨vq, rfl, hvq, hbq⟩
  have HQ := Lib.hid (Kd.R_lower hvq (Nat.le_trans HPB.out.size (below_alloc (Below.refl wp.heap.size wp) _).size))
  have HQB := Lib.hid (below_step (below_alloc HPB.out _) hbq)
  clear hvq hbq
  go_wp2
  go_ret
  exact ⟨_, rfl, HQ.out, HQB.out⟩
set_option maxHeartbeats 4000000 in
set_option maxRecDepth 100000 in
theorem index1 (k : Nat) (a b c : Int) (s o : ByteArray) (d e f : Int) (A8 : Option Addr) (c8 : Nat) (l8 : List (S51)) (A9 : Option Addr) (c9 : Nat) (l9 : List (S53)) (A10 : Option Addr) (c10 : Nat) (l10 : List (S58)) (w : World) (hr8 : Kd.C k51 w A8 l8.length l8) (hc8 : l8.length ≤ c8) (hr9 : Kd.C k53 w A9 l9.length l9) (hc9 : l9.length ≤ c9) (hr10 : Kd.C k58 w A10 l10.length l10) (hc10 : l10.length ≤ c10) (p rS rD : List Int) (hP : key_Primary.f k a b c s o d e f l8 l9 l10 = some p) (hS : num_Key.f k (IntKind.u64.wrap d) = some rS) (hD : num_Key.f k (IntKind.u64.wrap e) = some rD)
    (hp0 : 0 < p.length) (hp1 : p.length ≤ 1000000) (hS0 : 0 < rS.length) (hS1 : rS.length ≤ 1000000) (hD0 : 0 < rD.length) (hD1 : rD.length ≤ 1000000) (hs : s.size ≤ 1000000) (ho : o.size ≤ 1000000) :
    Calls Try.prog 14 #[.int .i64 1, .agg #[.int .u64 a, .int .u64 b, .int .u64 c, .string s, .string o, .int .i64 d, .int .i64 e, .int .i64 f, .slice A8 l8.length c8, .slice A9 l9.length c9, .slice A10 l10.length c10]] w fun e w' => ∃ v, e = .returned v ∧ Kd.R (Kd.int .u8) 5 w' w.heap.size (fun _ => True) v ((bytesOf s ++ [0] ++ rS) ++ p) ∧ Below w.heap.size w w' := by
  have H8 := Lib.hid hr8
  have H9 := Lib.hid hr9
  have H10 := Lib.hid hr10
  have HP := Lib.hid hP
  have HS := Lib.hid hS
  have HSZ := Lib.hid hs
  have HOZ := Lib.hid ho
  have LS := Lib.hid (bytesOf_length s)
  have LO := Lib.hid (bytesOf_length o)
  obtain ⟨hd, hhd⟩ : ∃ hd, hd = bytesOf s ++ [0] := ⟨_, rfl⟩
  have hdl : hd.length ≤ 2000002 := by rw [hhd]; simp only [List.length_append, bytesOf_length, List.length_singleton]; omega
  have hhl : (hd ++ rS).length = hd.length + rS.length := List.length_append
  have HHD := Lib.hid hhd
  have HDL := Lib.hid hdl
  obtain ⟨row, hrow⟩ : ∃ row, row = hd ++ rS := ⟨_, rfl⟩
  rw [← hrow] at hhl
  have HROW := Lib.hid hrow
  have HL1 := Lib.hid (show row.length ≤ 35184372088832 by omega)
  have HL2 := Lib.hid (show p.length ≤ 35184372088832 by omega)
  have HL3 := Lib.hid (show 0 < row.length by omega)
  have HL4 := Lib.hid hp0
  have HR0 := Lib.hid hS0
  have HR1 := Lib.hid hS1
  rw [← hhd, ← hrow]
  clear hhd hdl hhl hrow
  have HB0 := Lib.hid (below_alloc (Below.refl w.heap.size w) (.cells #[.int .u64 a, .int .u64 b, .int .u64 c, .string s, .string o, .int .i64 d, .int .i64 e, .int .i64 f, .slice A8 l8.length c8, .slice A9 l9.length c9, .slice A10 l10.length c10] 34))
  have KB0 := Lib.hid (heap_alloc_new w (.cells #[.int .u64 a, .int .u64 b, .int .u64 c, .string s, .string o, .int .i64 d, .int .i64 e, .int .i64 f, .slice A8 l8.length c8, .slice A9 l9.length c9, .slice A10 l10.length c10] 34))
  clear hr8 hr9 hr10 hP hS hD hp0 hp1 hS0 hS1 hD0 hD1 hs ho
  obtain ⟨u, hu⟩ : ∃ u, IntKind.u64.wrap d = u := ⟨_, rfl⟩
  rw [hu] at HS
  go_enter Try.func14, Try.ntmps14
  go_wp2
  have kb := blk_drew KB0.out
  have hbd := HB0.out.drew
  clear HB0 KB0
  refine start_ (n := 9) (S := fun w' => w'.cell? ⟨w.heap.size, 3, none⟩ = some (.string s) ∧ w'.cell? ⟨w.heap.size, 5, none⟩ = some (.int .i64 d)) (ds := []) #[false, false, false, false, false, false, false, false, false] (by kernel_rfl) rfl rfl ⟨(blk_cell kb 3).trans rfl, (blk_cell kb 5).trans rfl⟩ (fun hHeld => ?_)
  generalize (w.alloc (.cells #[.int .u64 a, .int .u64 b, .int .u64 c, .string s, .string o, .int .i64 d, .int .i64 e, .int .i64 f, .slice A8 l8.length c8, .slice A9 l9.length c9, .slice A10 l10.length c10] 34)).drew = w5 at kb hbd hHeld ⊢
  have KB5 := Lib.hid kb
  have HB5 := Lib.hid hbd
  clear kb hbd
  refine pure_ (i := 0) (N := some 9) (v := ?_) (a' := ?_) #[true, false, false, false, false, false, false, false, false] rfl rfl (by kernel_rfl) (fun _ _ _ h => h) (Or.inl ⟨by rfl, ?_⟩) ?_ ?_
  rotate_left
  · intro w'
    go_simp
    with_reducible rfl
  rotate_left
  · simp only [Act.put, List.setIfInBounds_toArray, List.set_cons_zero, List.set_cons_succ, i64_w, i32_w]
    rfl
  refine pure_ (i := 3) (N := some 12) (v := ?_) (a' := ?_) #[true, false, false, true, false, false, false, false, false] rfl rfl (by kernel_rfl) (fun _ _ _ h => h) (Or.inl ⟨by rfl, ?_⟩) ?_ ?_
  rotate_left
  · intro w'
    go_simp
    with_reducible rfl
  rotate_left
  · simp only [Act.put, List.setIfInBounds_toArray, List.set_cons_zero, List.set_cons_succ, i64_w, i32_w]
    rfl
  refine take_ (i := 1) (N := some 10) (v := ?_) (a' := ?_) #[true, true, false, true, false, false, false, false, false] rfl rfl (by kernel_rfl) (fun _ _ _ h => h) (Or.inl ⟨by rfl, ?_⟩) hHeld ?_ ?_
  rotate_left
  · rintro w' ⟨s0, s1⟩
    go_simp
    with_reducible rfl
  rotate_left
  · simp only [Act.put, List.setIfInBounds_toArray, List.set_cons_zero, List.set_cons_succ, i64_w, i32_w]
    rfl
  refine take_ (i := 4) (N := some 13) (v := ?_) (a' := ?_) #[true, true, false, true, true, false, false, false, false] rfl rfl (by kernel_rfl) (fun _ _ _ h => h) (Or.inl ⟨by rfl, ?_⟩) hHeld ?_ ?_
  rotate_left
  · rintro w' ⟨s0, s1⟩
    go_simp
    with_reducible rfl
  rotate_left
  · simp only [Act.put, List.setIfInBounds_toArray, List.set_cons_zero, List.set_cons_succ, i64_w, i32_w]
    rfl
  refine pure_ (i := 5) (N := some 14) (v := ?_) (a' := ?_) #[true, true, false, true, true, true, false, false, false] rfl rfl (by kernel_rfl) (fun _ _ _ h => h) (Or.inl ⟨by rfl, ?_⟩) ?_ ?_
  rotate_left
  · intro w'
    go_simp
    with_reducible rfl
  rotate_left
  · simp only [Act.put, List.setIfInBounds_toArray, List.set_cons_zero, List.set_cons_succ, i64_w, i32_w]
    rfl
  refine one_ (i := 2) (N := some 11) #[true, true, true, true, true, true, false, false, false] rfl rfl (by kernel_rfl) (by decide) (fun K hK => ?_)
  refine goes_ Try.func18 (by kernel_rfl) rfl #[.string s] (by rfl) rfl rfl (by simp only [List.map_toArray, List.map_cons, List.map_nil]; rfl) ?_
  with_reducible refine (service_calls s _ (by have := HSZ.out; omega)).mono ?_
  rintro ee w6 ⟨v6, rfl, hm6, hb6⟩
  refine ⟨_, rfl, ?_⟩
  rw [← HHD.out] at hm6
  have HM6 := Lib.hid hm6
  have KB6 := Lib.hid (block_below KB5.out hb6)
  have HB6 := Lib.hid hb6
  clear hm6 hb6
  refine hK.out _ _ ⟨(blk_cell KB6.out 3).trans rfl, (blk_cell KB6.out 5).trans rfl⟩ (fun hHeld => ?_)
  clear hK K
  refine norm_ (a' := ?_) ?_ ?_
  rotate_left
  · show Act.put _ (some 11) _ = _
    simp only [Act.put, List.setIfInBounds_toArray, List.set_cons_zero, List.set_cons_succ, i64_w, i32_w]
    rfl
  refine one_ (i := 6) (N := some 15) #[true, true, true, true, true, true, true, false, false] rfl rfl (by kernel_rfl) (by decide) (fun K hK => ?_)
  refine goes_ Try.func30 (by kernel_rfl) rfl #[.int .u64 u] (by rfl) rfl rfl (by simp only [List.map_toArray, List.map_cons, List.map_nil]; rfl) ?_
  with_reducible refine (num_Key.calls k u rS _ HS.out).mono ?_
  rintro ee w7 ⟨v7, rfl, hv7, hb7⟩
  refine ⟨_, rfl, ?_⟩
  obtain ⟨A7, c7, rfl⟩ := Kd.R_slice hv7
  have HC7 := Lib.hid (Kd.R_reads' hv7).2.2
  have HM7 := Lib.hid (M_below HM6.out hb7)
  have KB7 := Lib.hid (block_below KB6.out hb7)
  have HB7 := Lib.hid (below_step HB6.out hb7)
  clear hv7 hb7
  refine hK.out _ _ ⟨(blk_cell KB7.out 3).trans rfl, (blk_cell KB7.out 5).trans rfl⟩ (fun hHeld => ?_)
  clear hK K
  refine norm_ (a' := ?_) ?_ ?_
  rotate_left
  · show Act.put _ (some 15) _ = _
    simp only [Act.put, List.setIfInBounds_toArray, List.set_cons_zero, List.set_cons_succ, i64_w, i32_w]
    rfl
  refine one_ (i := 7) (N := some 16) #[true, true, true, true, true, true, true, true, false] rfl rfl (by kernel_rfl) (by decide) (fun K hK => ?_)
  rw [if_pos (by rfl)]
  refine wp_append_M w5 _ w5.heap.size (.tmp 11) (.tmp 15) 22 5 rfl Try.underlying22 info5 _ hd rS A7 c7 rfl rfl HM7.out HC7.out HR0.out HB7.out HB7.out.size (by have := HDL.out; have := HR1.out; omega) ?_
  intro v8 w8 hm8 hb8
  rw [← HROW.out] at hm8
  have HM8 := Lib.hid hm8
  have HB8 := Lib.hid (below_step HB5.out hb8)
  have KB8 := Lib.hid (block_below KB5.out hb8)
  clear hm8 hb8
  refine hK.out _ _ ⟨(blk_cell KB8.out 3).trans rfl, (blk_cell KB8.out 5).trans rfl⟩ (fun hHeld => ?_)
  clear hK K
  refine norm_ (a' := ?_) ?_ ?_
  rotate_left
  · show Act.put _ (some 16) _ = _
    simp only [Act.put, List.setIfInBounds_toArray, List.set_cons_zero, List.set_cons_succ, i64_w, i32_w]
    rfl
  refine pure_ (i := 8) (N := some 5) (v := ?_) (a' := ?_) #[true, true, true, true, true, true, true, true, true] rfl rfl (by kernel_rfl) (fun _ _ _ h => h) (Or.inl ⟨by rfl, ?_⟩) ?_ ?_
  rotate_left
  · intro w'
    go_simp
    with_reducible rfl
  rotate_left
  · simp only [Act.put, List.setIfInBounds_toArray, List.set_cons_zero, List.set_cons_succ, i64_w, i32_w]
    rfl
  refine done_ (by kernel_rfl) ?_
  obtain ⟨Ah, ch, rfl, _, hch⟩ := M_C HM8.out
  have HCH := Lib.hid hch
  have KB := KB8
  have HB := HB8
  clear hch
  have y0 : w8.cell? ⟨w.heap.size, 0, none⟩ = some (.int .u64 a) := (blk_cell KB.out 0).trans rfl
  have y1 : w8.cell? ⟨w.heap.size, 1, none⟩ = some (.int .u64 b) := (blk_cell KB.out 1).trans rfl
  have y2 : w8.cell? ⟨w.heap.size, 2, none⟩ = some (.int .u64 c) := (blk_cell KB.out 2).trans rfl
  have y3 : w8.cell? ⟨w.heap.size, 3, none⟩ = some (.string s) := (blk_cell KB.out 3).trans rfl
  have y4 : w8.cell? ⟨w.heap.size, 4, none⟩ = some (.string o) := (blk_cell KB.out 4).trans rfl
  have y5 : w8.cell? ⟨w.heap.size, 5, none⟩ = some (.int .i64 d) := (blk_cell KB.out 5).trans rfl
  have y6 : w8.cell? ⟨w.heap.size, 6, none⟩ = some (.int .i64 e) := (blk_cell KB.out 6).trans rfl
  have y7 : w8.cell? ⟨w.heap.size, 7, none⟩ = some (.int .i64 f) := (blk_cell KB.out 7).trans rfl
  have y8 : w8.cell? ⟨w.heap.size, 8, none⟩ = some (.slice A8 l8.length c8) := (blk_cell KB.out 8).trans rfl
  have y9 : w8.cell? ⟨w.heap.size, 9, none⟩ = some (.slice A9 l9.length c9) := (blk_cell KB.out 9).trans rfl
  have y10 : w8.cell? ⟨w.heap.size, 10, none⟩ = some (.slice A10 l10.length c10) := (blk_cell KB.out 10).trans rfl
  go_wp2_with fail
  refine (key_Primary.calls k a b c s o d e f A8 c8 l8 A9 c9 l9 A10 c10 l10 p w8 (Kd.C_below H8.out HB.out) hc8 (Kd.C_below H9.out HB.out) hc9 (Kd.C_below H10.out HB.out) hc10 HP.out).mono ?_
  rintro ee wp ⟨vp, rfl, hvp, hbp⟩
  obtain ⟨Ap, cp, rfl⟩ := Kd.R_slice hvp
  have HPB := Lib.hid (below_step HB.out hbp)
  have HPC := Lib.hid (Kd.R_reads' hvp).2.2
  have HHC := Lib.hid (Kd.C_below HCH.out hbp)
  clear hvp hbp y0 y1 y2 y3 y4 y5 y6 y7 y8 y9 y10
  go_wp2_with fail
  refine (concat2_calls wp.heap.size Ah Ap ch cp _ p _ (heap_alloc_new wp _) (Kd.C_below HHC.out (below_alloc (Below.refl _ _) _)) (Kd.C_below HPC.out (below_alloc (Below.refl _ _) _)) HL1.out HL2.out HL3.out HL4.out).mono ?_
  rintro ee wq ⟨vq, rfl, hvq, hbq⟩
  have HQ := Lib.hid (Kd.R_lower hvq (Nat.le_trans HPB.out.size (below_alloc (Below.refl wp.heap.size wp) _).size))
  have HQB := Lib.hid (below_step (below_alloc HPB.out _) hbq)
  clear hvq hbq
  go_wp2
  go_ret
  exact ⟨_, rfl, HQ.out, HQB.out⟩
set_option maxHeartbeats 4000000 in
set_option maxRecDepth 100000 in
theorem index2 (k : Nat) (a b c : Int) (s o : ByteArray) (d e f : Int) (A8 : Option Addr) (c8 : Nat) (l8 : List (S51)) (A9 : Option Addr) (c9 : Nat) (l9 : List (S53)) (A10 : Option Addr) (c10 : Nat) (l10 : List (S58)) (w : World) (hr8 : Kd.C k51 w A8 l8.length l8) (hc8 : l8.length ≤ c8) (hr9 : Kd.C k53 w A9 l9.length l9) (hc9 : l9.length ≤ c9) (hr10 : Kd.C k58 w A10 l10.length l10) (hc10 : l10.length ≤ c10) (p rS rD : List Int) (hP : key_Primary.f k a b c s o d e f l8 l9 l10 = some p) (hS : num_Key.f k (IntKind.u64.wrap d) = some rS) (hD : num_Key.f k (IntKind.u64.wrap e) = some rD)
    (hp0 : 0 < p.length) (hp1 : p.length ≤ 1000000) (hS0 : 0 < rS.length) (hS1 : rS.length ≤ 1000000) (hD0 : 0 < rD.length) (hD1 : rD.length ≤ 1000000) (hs : s.size ≤ 1000000) (ho : o.size ≤ 1000000) :
    Calls Try.prog 14 #[.int .i64 2, .agg #[.int .u64 a, .int .u64 b, .int .u64 c, .string s, .string o, .int .i64 d, .int .i64 e, .int .i64 f, .slice A8 l8.length c8, .slice A9 l9.length c9, .slice A10 l10.length c10]] w fun e w' => ∃ v, e = .returned v ∧ Kd.R (Kd.int .u8) 5 w' w.heap.size (fun _ => True) v ((bytesOf s ++ [0] ++ (bytesOf o ++ [0]) ++ rS) ++ p) ∧ Below w.heap.size w w' := by
  have H8 := Lib.hid hr8
  have H9 := Lib.hid hr9
  have H10 := Lib.hid hr10
  have HP := Lib.hid hP
  have HS := Lib.hid hS
  have HSZ := Lib.hid hs
  have HOZ := Lib.hid ho
  have LS := Lib.hid (bytesOf_length s)
  have LO := Lib.hid (bytesOf_length o)
  obtain ⟨hd, hhd⟩ : ∃ hd, hd = bytesOf s ++ [0] ++ (bytesOf o ++ [0]) := ⟨_, rfl⟩
  have hdl : hd.length ≤ 2000002 := by rw [hhd]; simp only [List.length_append, bytesOf_length, List.length_singleton]; omega
  have hhl : (hd ++ rS).length = hd.length + rS.length := List.length_append
  have HHD := Lib.hid hhd
  have HDL := Lib.hid hdl
  obtain ⟨row, hrow⟩ : ∃ row, row = hd ++ rS := ⟨_, rfl⟩
  rw [← hrow] at hhl
  have HROW := Lib.hid hrow
  have HL1 := Lib.hid (show row.length ≤ 35184372088832 by omega)
  have HL2 := Lib.hid (show p.length ≤ 35184372088832 by omega)
  have HL3 := Lib.hid (show 0 < row.length by omega)
  have HL4 := Lib.hid hp0
  have HR0 := Lib.hid hS0
  have HR1 := Lib.hid hS1
  rw [← hhd, ← hrow]
  clear hhd hdl hhl hrow
  have HB0 := Lib.hid (below_alloc (Below.refl w.heap.size w) (.cells #[.int .u64 a, .int .u64 b, .int .u64 c, .string s, .string o, .int .i64 d, .int .i64 e, .int .i64 f, .slice A8 l8.length c8, .slice A9 l9.length c9, .slice A10 l10.length c10] 34))
  have KB0 := Lib.hid (heap_alloc_new w (.cells #[.int .u64 a, .int .u64 b, .int .u64 c, .string s, .string o, .int .i64 d, .int .i64 e, .int .i64 f, .slice A8 l8.length c8, .slice A9 l9.length c9, .slice A10 l10.length c10] 34))
  clear hr8 hr9 hr10 hP hS hD hp0 hp1 hS0 hS1 hD0 hD1 hs ho
  obtain ⟨u, hu⟩ : ∃ u, IntKind.u64.wrap d = u := ⟨_, rfl⟩
  rw [hu] at HS
  go_enter Try.func14, Try.ntmps14
  go_wp2
  have kb := blk_drew KB0.out
  have hbd := HB0.out.drew
  clear HB0 KB0
  refine start_ (n := 11) (S := fun w' => w'.cell? ⟨w.heap.size, 3, none⟩ = some (.string s) ∧ w'.cell? ⟨w.heap.size, 5, none⟩ = some (.int .i64 d) ∧ w'.cell? ⟨w.heap.size, 4, none⟩ = some (.string o)) (ds := []) #[false, false, false, false, false, false, false, false, false, false, false] (by kernel_rfl) rfl rfl ⟨(blk_cell kb 3).trans rfl, (blk_cell kb 5).trans rfl, (blk_cell kb 4).trans rfl⟩ (fun hHeld => ?_)
  generalize (w.alloc (.cells #[.int .u64 a, .int .u64 b, .int .u64 c, .string s, .string o, .int .i64 d, .int .i64 e, .int .i64 f, .slice A8 l8.length c8, .slice A9 l9.length c9, .slice A10 l10.length c10] 34)).drew = w5 at kb hbd hHeld ⊢
  have KB5 := Lib.hid kb
  have HB5 := Lib.hid hbd
  clear kb hbd
  refine pure_ (i := 0) (N := some 19) (v := ?_) (a' := ?_) #[true, false, false, false, false, false, false, false, false, false, false] rfl rfl (by kernel_rfl) (fun _ _ _ h => h) (Or.inl ⟨by rfl, ?_⟩) ?_ ?_
  rotate_left
  · intro w'
    go_simp
    with_reducible rfl
  rotate_left
  · simp only [Act.put, List.setIfInBounds_toArray, List.set_cons_zero, List.set_cons_succ, i64_w, i32_w]
    rfl
  refine pure_ (i := 2) (N := some 21) (v := ?_) (a' := ?_) #[true, false, true, false, false, false, false, false, false, false, false] rfl rfl (by kernel_rfl) (fun _ _ _ h => h) (Or.inl ⟨by rfl, ?_⟩) ?_ ?_
  rotate_left
  · intro w'
    go_simp
    with_reducible rfl
  rotate_left
  · simp only [Act.put, List.setIfInBounds_toArray, List.set_cons_zero, List.set_cons_succ, i64_w, i32_w]
    rfl
  refine pure_ (i := 5) (N := some 24) (v := ?_) (a' := ?_) #[true, false, true, false, false, true, false, false, false, false, false] rfl rfl (by kernel_rfl) (fun _ _ _ h => h) (Or.inl ⟨by rfl, ?_⟩) ?_ ?_
  rotate_left
  · intro w'
    go_simp
    with_reducible rfl
  rotate_left
  · simp only [Act.put, List.setIfInBounds_toArray, List.set_cons_zero, List.set_cons_succ, i64_w, i32_w]
    rfl
  refine take_ (i := 1) (N := some 20) (v := ?_) (a' := ?_) #[true, true, true, false, false, true, false, false, false, false, false] rfl rfl (by kernel_rfl) (fun _ _ _ h => h) (Or.inl ⟨by rfl, ?_⟩) hHeld ?_ ?_
  rotate_left
  · rintro w' ⟨s0, s1, s2⟩
    go_simp
    with_reducible rfl
  rotate_left
  · simp only [Act.put, List.setIfInBounds_toArray, List.set_cons_zero, List.set_cons_succ, i64_w, i32_w]
    rfl
  refine take_ (i := 3) (N := some 22) (v := ?_) (a' := ?_) #[true, true, true, true, false, true, false, false, false, false, false] rfl rfl (by kernel_rfl) (fun _ _ _ h => h) (Or.inl ⟨by rfl, ?_⟩) hHeld ?_ ?_
  rotate_left
  · rintro w' ⟨s0, s1, s2⟩
    go_simp
    with_reducible rfl
  rotate_left
  · simp only [Act.put, List.setIfInBounds_toArray, List.set_cons_zero, List.set_cons_succ, i64_w, i32_w]
    rfl
  refine take_ (i := 6) (N := some 25) (v := ?_) (a' := ?_) #[true, true, true, true, false, true, true, false, false, false, false] rfl rfl (by kernel_rfl) (fun _ _ _ h => h) (Or.inl ⟨by rfl, ?_⟩) hHeld ?_ ?_
  rotate_left
  · rintro w' ⟨s0, s1, s2⟩
    go_simp
    with_reducible rfl
  rotate_left
  · simp only [Act.put, List.setIfInBounds_toArray, List.set_cons_zero, List.set_cons_succ, i64_w, i32_w]
    rfl
  refine pure_ (i := 7) (N := some 26) (v := ?_) (a' := ?_) #[true, true, true, true, false, true, true, true, false, false, false] rfl rfl (by kernel_rfl) (fun _ _ _ h => h) (Or.inl ⟨by rfl, ?_⟩) ?_ ?_
  rotate_left
  · intro w'
    go_simp
    with_reducible rfl
  rotate_left
  · simp only [Act.put, List.setIfInBounds_toArray, List.set_cons_zero, List.set_cons_succ, i64_w, i32_w]
    rfl
  refine one_ (i := 4) (N := some 23) #[true, true, true, true, true, true, true, true, false, false, false] rfl rfl (by kernel_rfl) (by decide) (fun K hK => ?_)
  refine goes_ Try.func19 (by kernel_rfl) rfl #[.string s, .string o] (by rfl) rfl rfl (by simp only [List.map_toArray, List.map_cons, List.map_nil]; rfl) ?_
  with_reducible refine (operation_calls s o _ (by have := HSZ.out; omega) (by have := HOZ.out; omega)).mono ?_
  rintro ee w6 ⟨v6, rfl, hm6, hb6⟩
  refine ⟨_, rfl, ?_⟩
  rw [← HHD.out] at hm6
  have HM6 := Lib.hid hm6
  have KB6 := Lib.hid (block_below KB5.out hb6)
  have HB6 := Lib.hid hb6
  clear hm6 hb6
  refine hK.out _ _ ⟨(blk_cell KB6.out 3).trans rfl, (blk_cell KB6.out 5).trans rfl, (blk_cell KB6.out 4).trans rfl⟩ (fun hHeld => ?_)
  clear hK K
  refine norm_ (a' := ?_) ?_ ?_
  rotate_left
  · show Act.put _ (some 23) _ = _
    simp only [Act.put, List.setIfInBounds_toArray, List.set_cons_zero, List.set_cons_succ, i64_w, i32_w]
    rfl
  refine one_ (i := 8) (N := some 27) #[true, true, true, true, true, true, true, true, true, false, false] rfl rfl (by kernel_rfl) (by decide) (fun K hK => ?_)
  refine goes_ Try.func30 (by kernel_rfl) rfl #[.int .u64 u] (by rfl) rfl rfl (by simp only [List.map_toArray, List.map_cons, List.map_nil]; rfl) ?_
  with_reducible refine (num_Key.calls k u rS _ HS.out).mono ?_
  rintro ee w7 ⟨v7, rfl, hv7, hb7⟩
  refine ⟨_, rfl, ?_⟩
  obtain ⟨A7, c7, rfl⟩ := Kd.R_slice hv7
  have HC7 := Lib.hid (Kd.R_reads' hv7).2.2
  have HM7 := Lib.hid (M_below HM6.out hb7)
  have KB7 := Lib.hid (block_below KB6.out hb7)
  have HB7 := Lib.hid (below_step HB6.out hb7)
  clear hv7 hb7
  refine hK.out _ _ ⟨(blk_cell KB7.out 3).trans rfl, (blk_cell KB7.out 5).trans rfl, (blk_cell KB7.out 4).trans rfl⟩ (fun hHeld => ?_)
  clear hK K
  refine norm_ (a' := ?_) ?_ ?_
  rotate_left
  · show Act.put _ (some 27) _ = _
    simp only [Act.put, List.setIfInBounds_toArray, List.set_cons_zero, List.set_cons_succ, i64_w, i32_w]
    rfl
  refine one_ (i := 9) (N := some 28) #[true, true, true, true, true, true, true, true, true, true, false] rfl rfl (by kernel_rfl) (by decide) (fun K hK => ?_)
  rw [if_pos (by rfl)]
  refine wp_append_M w5 _ w5.heap.size (.tmp 23) (.tmp 27) 22 5 rfl Try.underlying22 info5 _ hd rS A7 c7 rfl rfl HM7.out HC7.out HR0.out HB7.out HB7.out.size (by have := HDL.out; have := HR1.out; omega) ?_
  intro v8 w8 hm8 hb8
  rw [← HROW.out] at hm8
  have HM8 := Lib.hid hm8
  have HB8 := Lib.hid (below_step HB5.out hb8)
  have KB8 := Lib.hid (block_below KB5.out hb8)
  clear hm8 hb8
  refine hK.out _ _ ⟨(blk_cell KB8.out 3).trans rfl, (blk_cell KB8.out 5).trans rfl, (blk_cell KB8.out 4).trans rfl⟩ (fun hHeld => ?_)
  clear hK K
  refine norm_ (a' := ?_) ?_ ?_
  rotate_left
  · show Act.put _ (some 28) _ = _
    simp only [Act.put, List.setIfInBounds_toArray, List.set_cons_zero, List.set_cons_succ, i64_w, i32_w]
    rfl
  refine pure_ (i := 10) (N := some 5) (v := ?_) (a' := ?_) #[true, true, true, true, true, true, true, true, true, true, true] rfl rfl (by kernel_rfl) (fun _ _ _ h => h) (Or.inl ⟨by rfl, ?_⟩) ?_ ?_
  rotate_left
  · intro w'
    go_simp
    with_reducible rfl
  rotate_left
  · simp only [Act.put, List.setIfInBounds_toArray, List.set_cons_zero, List.set_cons_succ, i64_w, i32_w]
    rfl
  refine done_ (by kernel_rfl) ?_
  obtain ⟨Ah, ch, rfl, _, hch⟩ := M_C HM8.out
  have HCH := Lib.hid hch
  have KB := KB8
  have HB := HB8
  clear hch
  have y0 : w8.cell? ⟨w.heap.size, 0, none⟩ = some (.int .u64 a) := (blk_cell KB.out 0).trans rfl
  have y1 : w8.cell? ⟨w.heap.size, 1, none⟩ = some (.int .u64 b) := (blk_cell KB.out 1).trans rfl
  have y2 : w8.cell? ⟨w.heap.size, 2, none⟩ = some (.int .u64 c) := (blk_cell KB.out 2).trans rfl
  have y3 : w8.cell? ⟨w.heap.size, 3, none⟩ = some (.string s) := (blk_cell KB.out 3).trans rfl
  have y4 : w8.cell? ⟨w.heap.size, 4, none⟩ = some (.string o) := (blk_cell KB.out 4).trans rfl
  have y5 : w8.cell? ⟨w.heap.size, 5, none⟩ = some (.int .i64 d) := (blk_cell KB.out 5).trans rfl
  have y6 : w8.cell? ⟨w.heap.size, 6, none⟩ = some (.int .i64 e) := (blk_cell KB.out 6).trans rfl
  have y7 : w8.cell? ⟨w.heap.size, 7, none⟩ = some (.int .i64 f) := (blk_cell KB.out 7).trans rfl
  have y8 : w8.cell? ⟨w.heap.size, 8, none⟩ = some (.slice A8 l8.length c8) := (blk_cell KB.out 8).trans rfl
  have y9 : w8.cell? ⟨w.heap.size, 9, none⟩ = some (.slice A9 l9.length c9) := (blk_cell KB.out 9).trans rfl
  have y10 : w8.cell? ⟨w.heap.size, 10, none⟩ = some (.slice A10 l10.length c10) := (blk_cell KB.out 10).trans rfl
  go_wp2_with fail
  refine (key_Primary.calls k a b c s o d e f A8 c8 l8 A9 c9 l9 A10 c10 l10 p w8 (Kd.C_below H8.out HB.out) hc8 (Kd.C_below H9.out HB.out) hc9 (Kd.C_below H10.out HB.out) hc10 HP.out).mono ?_
  rintro ee wp ⟨vp, rfl, hvp, hbp⟩
  obtain ⟨Ap, cp, rfl⟩ := Kd.R_slice hvp
  have HPB := Lib.hid (below_step HB.out hbp)
  have HPC := Lib.hid (Kd.R_reads' hvp).2.2
  have HHC := Lib.hid (Kd.C_below HCH.out hbp)
  clear hvp hbp y0 y1 y2 y3 y4 y5 y6 y7 y8 y9 y10
  go_wp2_with fail
  refine (concat2_calls wp.heap.size Ah Ap ch cp _ p _ (heap_alloc_new wp _) (Kd.C_below HHC.out (below_alloc (Below.refl _ _) _)) (Kd.C_below HPC.out (below_alloc (Below.refl _ _) _)) HL1.out HL2.out HL3.out HL4.out).mono ?_
  rintro ee wq ⟨vq, rfl, hvq, hbq⟩
  have HQ := Lib.hid (Kd.R_lower hvq (Nat.le_trans HPB.out.size (below_alloc (Below.refl wp.heap.size wp) _).size))
  have HQB := Lib.hid (below_step (below_alloc HPB.out _) hbq)
  clear hvq hbq
  go_wp2
  go_ret
  exact ⟨_, rfl, HQ.out, HQB.out⟩
end Go.Proofs.Ytenmjbcedadcbaa.PAll
