import Derived.Test.YtoigebnhnkdbbaaTrIn
namespace Go.Proofs.Ytoigebnhnkdbbaa.Walk
open Go.RowKit Go.Proofs.YtoigebnhnkdbbaaW.PrintWords Go.Proofs.YtoigebnhnkdbbaaW.PrintLast Go.Proofs.YtoigebnhnkdbbaaW.PrintMore Go.Proofs.Ytoigebnhnkdbbaa.Math Go.Proofs.Ytoigebnhnkdbbaa.PAll Go.Proofs.Ytoigebnhnkdbbaa.Open Go.Proofs.Ytoigebnhnkdbbaa.Tr
set_option linter.unusedVariables false
set_option linter.unusedSimpArgs false

set_option maxHeartbeats 8000000 in
set_option maxRecDepth 100000 in
theorem TraceSums (W : World) (A0 : Option Addr) (c0 : Nat) (l0 : List S38) (hl0 : l0.length ≤ c0) (hc0 : Kd.C k38 W A0 l0.length l0) (hg0 : (∀ x ∈ l0, G38 x) ∧ l0.length * 152 ≤ 140737488351232) (A1 : Option Addr) (c1 : Nat) (l1 : List S38) (hl1 : l1.length ≤ c1) (hc1 : Kd.C k38 W A1 l1.length l1) (hg1 : (∀ x ∈ l1, G38 x) ∧ l1.length * 152 ≤ 140737488351232) :
    Calls Try.prog 6 #[.slice A0 l0.length c0, .slice A1 l1.length c1] W fun e w' => e = .returned (.bool true) ∧ Below W.heap.size W w' := by
  obtain ⟨a, K0, r0, hlen0, hC0, hI0, hs0, hr0⟩ := incoming hc0
  obtain ⟨b, K1, r1, hlen1, hC1, hI1, hs1, hr1⟩ := incoming hc1
  have HC0 := Lib.hid hc0
  have HC1 := Lib.hid hc1
  have HL0 := Lib.hid hl0
  have HL1 := Lib.hid hl1
  have HS0 := Lib.hid hs0
  have HS1 := Lib.hid hs1
  have HRA := Lib.hid hC0
  have HRB := Lib.hid hC1
  have HR0 := Lib.hid hr0
  have HR1 := Lib.hid hr1
  have HE0 := Lib.hid hlen0
  have HE1 := Lib.hid hlen1
  clear hlen0 hlen1 hc0 hc1 hl0 hl1 hs0 hs1 hC0 hC1 hr0 hr1 hI0 hI1 hg0 hg1
  have HAW := Lib.hid (awake_calls W)
  go_enter Try.func6, Try.ntmps6
  go_wp2_with fail
  refine HAW.out.mono ?_
  rintro e w1 ⟨rfl, hb1⟩
  have HB1 := Lib.hid hb1
  have HSC0 := Lib.hid (cambiumlaw26_small.calls K0 A0 c0 l0 r0 w1 (Kd.C_below HC0.out hb1) HL0.out HS0.out)
  clear hb1 HAW
  go_wp2_with fail
  refine HSC0.out.mono ?_
  rintro e w2 ⟨rfl, hb2⟩
  have HB2 := Lib.hid (below_step HB1.out hb2)
  clear hb2 HSC0 HB1
  cases r0 with
  | false =>
    go_wp2
    go_ret
    exact ⟨rfl, HB2.out⟩
  | true =>
    have HSC1 := Lib.hid (cambiumlaw26_small.calls K1 A1 c1 l1 r1 w2 (Kd.C_below HC1.out HB2.out) HL1.out HS1.out)
    go_wp2_with fail
    refine HSC1.out.mono ?_
    rintro e w3 ⟨rfl, hb3⟩
    have HB3 := Lib.hid (below_step HB2.out hb3)
    clear hb3 HSC1 HB2
    cases r1 with
    | false =>
      go_wp2
      go_ret
      exact ⟨rfl, HB3.out⟩
    | true =>
      have HN0 := Lib.hid (HR0.out (by first | rfl | trivial)).1
      have HN1 := Lib.hid (HR1.out (by first | rfl | trivial)).1
      have HM0 := Lib.hid (HR0.out (by first | rfl | trivial)).2
      have HM1 := Lib.hid (HR1.out (by first | rfl | trivial)).2
      have HA3 := Lib.hid (Kd.C_below HRA.out HB3.out)
      have HX3 := Lib.hid (Kd.C_below HRB.out HB3.out)
      have hla : a.length ≤ c0 := by rw [HE0.out]; exact HL0.out
      have hlb : b.length ≤ c1 := by rw [HE1.out]; exact HL1.out
      have HLA := Lib.hid hla
      have HLB := Lib.hid hlb
      rw [← HE0.out, ← HE1.out]
      clear hla hlb HC0 HC1 HS0 HS1 HRA HRB HR0 HR1 HL0 HL1
      go_wp2_with (first
    | ((with_reducible refine gate_dst (N := 19) rfl ?_); refine Kd.R_lit kS (w0 := w3) w3.heap.size 38 ?hg (N := 19) ?hd (xs := ([] : List Sp)) (inner := []) (ok := fun _ => True) (okp := fun _ => True) ?hr ?hp (fun _ hk => hk) trivial (Below.refl _ _) (Nat.le_refl _) (by simp) ?_; (case hd => rfl); (case hg => rfl); (case hr => first | (go_simp; done) | (go_simp; rfl)); (case hp => exact (Reps.none _ _)); intro va1 wa1 ho hb hg_ hnew_; clear hg_ hnew_; have HOa1 := Lib.hid ho; have HBa1 := Lib.hid hb; clear ho hb)
    | ((with_reducible refine gate_builtin (b := .append) (xs := #[.tmp 19, .tmp 20]) rfl ?_); at_builtin; refine Kd.R_append_rows kS (w0 := w3) w3.heap.size rfl (.tmp 19) (.tmp 20) 22 38 (.agg #[(.int .u64 0), (.int .u64 0), (.int .u64 0), (.string ⟨#[]⟩), (.string ⟨#[]⟩), (.int .i64 0), (.int .i64 0), (.int .i64 0), (.slice none 0 0), (.slice none 0 0), (.slice none 0 0)]) 152 rfl Try.underlying22 infoS rfl (by decide) (by omega) va1 [] a A0 _ c0 (fun _ => True) (fun _ => False) rfl rfl HOa1.out (Kd.C_below HA3.out HBa1.out) (fun _ _ h => h) (fun _ h => h.elim) (fun _ _ => trivial) HBa1.out (below_size HBa1.out) (by have := HN0.out; have := HN1.out; simp; omega) ?_; intro vb1 wb1 ho hb hg_ hnew_; clear hg_ hnew_; have HOb1 := Lib.hid ho; have HBb1 := Lib.hid hb; clear ho hb)
    | ((with_reducible refine gate_builtin (b := .append) (xs := #[.tmp 21, .tmp 22]) rfl ?_); at_builtin; refine Kd.R_append_rows kS (w0 := w3) w3.heap.size rfl (.tmp 21) (.tmp 22) 22 38 (.agg #[(.int .u64 0), (.int .u64 0), (.int .u64 0), (.string ⟨#[]⟩), (.string ⟨#[]⟩), (.int .i64 0), (.int .i64 0), (.int .i64 0), (.slice none 0 0), (.slice none 0 0), (.slice none 0 0)]) 152 rfl Try.underlying22 infoS rfl (by decide) (by omega) vb1 ([] ++ a) b A1 _ c1 (fun _ => True) (fun _ => False) rfl rfl HOb1.out (Kd.C_below HX3.out HBb1.out) (fun _ _ h => h) (fun _ h => h.elim) (fun _ _ => trivial) HBb1.out (below_size HBb1.out) (by have := HN0.out; have := HN1.out; simp; omega) ?_; intro vc1 wc1 ho hb hg_ hnew_; clear hg_ hnew_; rw [List.nil_append] at ho; obtain ⟨Ac1, cc1, rfl⟩ := Kd.R_slice ho; have HOc1 := Lib.hid ho; have HBc1 := Lib.hid hb; clear ho hb))
      have hsa : ∀ s ∈ a ++ b, Sml s := fun s hs => (List.mem_append.1 hs).elim (HM0.out s) (HM1.out s)
      have hsb : ∀ s ∈ b ++ a, Sml s := fun s hs => (List.mem_append.1 hs).elim (HM1.out s) (HM0.out s)
      have HSA := Lib.hid hsa
      have HSB := Lib.hid hsb
      clear hsa hsb
      obtain ⟨x, hx⟩ : ∃ x, sumS (a ++ b) = x := ⟨_, rfl⟩
      have hx2 : sumS (b ++ a) = x := by rw [sum_comm b a]; exact hx
      have HXE := Lib.hid hx
      have HXE2 := Lib.hid hx2
      clear hx hx2
      have hsm := sum_calls Ac1 cc1 (a ++ b) wc1 (Kd.R_reads' HOc1.out).2.2 (Kd.R_reads' HOc1.out).2.1 (by have := HN0.out; have := HN1.out; rw [List.length_append]; omega) HSA.out
      rw [HXE.out, List.length_append] at hsm
      refine hsm.mono ?_
      clear hsm
      rintro e w4 ⟨rfl, hb4⟩
      have hz5 := below_alloc (Below.refl w4.heap.size w4) (.cells #[.int .i64 x.n, .int .i64 x.er, .int .i64 x.st, .int .i64 x.en, .int .i64 x.sv] 29)
      have HB35 := Lib.hid (below_step (below_step HBc1.out hb4) hz5)
      have HK5 := Lib.hid (heap_alloc_new w4 (.cells #[.int .i64 x.n, .int .i64 x.er, .int .i64 x.st, .int .i64 x.en, .int .i64 x.sv] 29))
      clear hb4 hz5 HOa1 HBa1 HOb1 HBb1 HOc1 HBc1
      go_upto_region 6 with (fail)
      generalize (w4.alloc (.cells #[.int .i64 x.n, .int .i64 x.er, .int .i64 x.st, .int .i64 x.en, .int .i64 x.sv] 29)) = w5 at HB35 HK5 ⊢
      generalize w4.heap.size = g5 at HK5 ⊢
      have HA5 := Lib.hid (Kd.C_below HA3.out HB35.out)
      have HX5 := Lib.hid (Kd.C_below HX3.out HB35.out)
      have HB5 := Lib.hid (below_step HB3.out HB35.out)
      clear HA3 HX3 HB35 HB3
      go_wp2_with (first
    | ((with_reducible refine gate_dst (N := 25) rfl ?_); refine Kd.R_lit kS (w0 := w5) w5.heap.size 38 ?hg (N := 25) ?hd (xs := ([] : List Sp)) (inner := []) (ok := fun _ => True) (okp := fun _ => True) ?hr ?hp (fun _ hk => hk) trivial (Below.refl _ _) (Nat.le_refl _) (by simp) ?_; (case hd => rfl); (case hg => rfl); (case hr => first | (go_simp; done) | (go_simp; rfl)); (case hp => exact (Reps.none _ _)); intro va2 wa2 ho hb hg_ hnew_; clear hg_ hnew_; have HOa2 := Lib.hid ho; have HBa2 := Lib.hid hb; clear ho hb)
    | ((with_reducible refine gate_builtin (b := .append) (xs := #[.tmp 25, .tmp 26]) rfl ?_); at_builtin; refine Kd.R_append_rows kS (w0 := w5) w5.heap.size rfl (.tmp 25) (.tmp 26) 22 38 (.agg #[(.int .u64 0), (.int .u64 0), (.int .u64 0), (.string ⟨#[]⟩), (.string ⟨#[]⟩), (.int .i64 0), (.int .i64 0), (.int .i64 0), (.slice none 0 0), (.slice none 0 0), (.slice none 0 0)]) 152 rfl Try.underlying22 infoS rfl (by decide) (by omega) va2 [] b A1 _ c1 (fun _ => True) (fun _ => False) rfl rfl HOa2.out (Kd.C_below HX5.out HBa2.out) (fun _ _ h => h) (fun _ h => h.elim) (fun _ _ => trivial) HBa2.out (below_size HBa2.out) (by have := HN0.out; have := HN1.out; simp; omega) ?_; intro vb2 wb2 ho hb hg_ hnew_; clear hg_ hnew_; have HOb2 := Lib.hid ho; have HBb2 := Lib.hid hb; clear ho hb)
    | ((with_reducible refine gate_builtin (b := .append) (xs := #[.tmp 27, .tmp 28]) rfl ?_); at_builtin; refine Kd.R_append_rows kS (w0 := w5) w5.heap.size rfl (.tmp 27) (.tmp 28) 22 38 (.agg #[(.int .u64 0), (.int .u64 0), (.int .u64 0), (.string ⟨#[]⟩), (.string ⟨#[]⟩), (.int .i64 0), (.int .i64 0), (.int .i64 0), (.slice none 0 0), (.slice none 0 0), (.slice none 0 0)]) 152 rfl Try.underlying22 infoS rfl (by decide) (by omega) vb2 ([] ++ b) a A0 _ c0 (fun _ => True) (fun _ => False) rfl rfl HOb2.out (Kd.C_below HA5.out HBb2.out) (fun _ _ h => h) (fun _ h => h.elim) (fun _ _ => trivial) HBb2.out (below_size HBb2.out) (by have := HN0.out; have := HN1.out; simp; omega) ?_; intro vc2 wc2 ho hb hg_ hnew_; clear hg_ hnew_; rw [List.nil_append] at ho; obtain ⟨Ac2, cc2, rfl⟩ := Kd.R_slice ho; have HOc2 := Lib.hid ho; have HBc2 := Lib.hid hb; clear ho hb))
      have hsm := sum_calls Ac2 cc2 (b ++ a) wc2 (Kd.R_reads' HOc2.out).2.2 (Kd.R_reads' HOc2.out).2.1 (by have := HN0.out; have := HN1.out; rw [List.length_append]; omega) HSB.out
      rw [HXE2.out, List.length_append] at hsm
      refine hsm.mono ?_
      clear hsm
      rintro e w6 ⟨rfl, hb6⟩
      have hz7 := below_alloc (Below.refl w6.heap.size w6) (.cells #[.int .i64 x.n, .int .i64 x.er, .int .i64 x.st, .int .i64 x.en, .int .i64 x.sv] 29)
      have HB57 := Lib.hid (below_step (below_step HBc2.out hb6) hz7)
      have HK7 := Lib.hid (heap_alloc_new w6 (.cells #[.int .i64 x.n, .int .i64 x.er, .int .i64 x.st, .int .i64 x.en, .int .i64 x.sv] 29))
      clear hb6 hz7 HOa2 HBa2 HOb2 HBb2 HOc2 HBc2
      go_upto_region 7 with (fail)
      generalize (w6.alloc (.cells #[.int .i64 x.n, .int .i64 x.er, .int .i64 x.st, .int .i64 x.en, .int .i64 x.sv] 29)) = w7 at HB57 HK7 ⊢
      generalize w6.heap.size = g7 at HK7 ⊢
      have HA7 := Lib.hid (Kd.C_below HA5.out HB57.out)
      have HX7 := Lib.hid (Kd.C_below HX5.out HB57.out)
      have HB7 := Lib.hid (below_step HB5.out HB57.out)
      have HK57 := Lib.hid (block_below HK5.out HB57.out)
      clear HA5 HX5 HB57 HB5 HK5
      obtain ⟨p, hp⟩ : ∃ p, sumS a = p := ⟨_, rfl⟩
      obtain ⟨q, hq⟩ : ∃ q, sumS b = q := ⟨_, rfl⟩
      have HPE := Lib.hid hp
      have HQE := Lib.hid hq
      clear hp hq
      have hsm := sum_calls A0 c0 a w7 HA7.out HLA.out (by have := HN0.out; omega) HM0.out
      rw [HPE.out] at hsm
      have HSM := Lib.hid hsm
      clear hsm
      go_wp2_with fail
      refine HSM.out.mono ?_
      rintro e w8 ⟨rfl, hb8⟩
      have hz9 := below_alloc (Below.refl w8.heap.size w8) (.cells #[.int .i64 p.n, .int .i64 p.er, .int .i64 p.st, .int .i64 p.en, .int .i64 p.sv] 29)
      have HB79 := Lib.hid (below_step hb8 hz9)
      have HK9 := Lib.hid (heap_alloc_new w8 (.cells #[.int .i64 p.n, .int .i64 p.er, .int .i64 p.st, .int .i64 p.en, .int .i64 p.sv] 29))
      clear hb8 hz9 HSM
      go_upto_region 8 with (fail)
      generalize (w8.alloc (.cells #[.int .i64 p.n, .int .i64 p.er, .int .i64 p.st, .int .i64 p.en, .int .i64 p.sv] 29)) = w9 at HB79 HK9 ⊢
      generalize w8.heap.size = g9 at HK9 ⊢
      have HX9 := Lib.hid (Kd.C_below HX7.out HB79.out)
      have HB9 := Lib.hid (below_step HB7.out HB79.out)
      have HK59 := Lib.hid (block_below HK57.out HB79.out)
      have HK79 := Lib.hid (block_below HK7.out HB79.out)
      clear HX7 HB7 HK57 HK7 HB79 HA7
      have hsm := sum_calls A1 c1 b w9 HX9.out HLB.out (by have := HN1.out; omega) HM1.out
      rw [HQE.out] at hsm
      have HSM := Lib.hid hsm
      clear hsm
      go_wp2_with fail
      refine HSM.out.mono ?_
      rintro e w10 ⟨rfl, hb10⟩
      have hz11 := below_alloc (Below.refl w10.heap.size w10) (.cells #[.int .i64 q.n, .int .i64 q.er, .int .i64 q.st, .int .i64 q.en, .int .i64 q.sv] 29)
      have HB911 := Lib.hid (below_step hb10 hz11)
      have HK11 := Lib.hid (heap_alloc_new w10 (.cells #[.int .i64 q.n, .int .i64 q.er, .int .i64 q.st, .int .i64 q.en, .int .i64 q.sv] 29))
      clear hb10 hz11 HSM
      go_upto_region 9 with (fail)
      generalize (w10.alloc (.cells #[.int .i64 q.n, .int .i64 q.er, .int .i64 q.st, .int .i64 q.en, .int .i64 q.sv] 29)) = w11 at HB911 HK11 ⊢
      generalize w10.heap.size = g11 at HK11 ⊢
      have HB11 := Lib.hid (below_step HB9.out HB911.out)
      have HK5e := Lib.hid (block_below HK59.out HB911.out)
      have HK7e := Lib.hid (block_below HK79.out HB911.out)
      have HK9e := Lib.hid (block_below HK9.out HB911.out)
      clear HX9 HB9 HK59 HK79 HK9 HB911
      have a0 : w11.cell? ⟨g5, 0, none⟩ = some (.int .i64 x.n) := (blk_cell HK5e.out 0).trans rfl
      have a1 : w11.cell? ⟨g5, 1, none⟩ = some (.int .i64 x.er) := (blk_cell HK5e.out 1).trans rfl
      have a2 : w11.cell? ⟨g5, 2, none⟩ = some (.int .i64 x.st) := (blk_cell HK5e.out 2).trans rfl
      have a3 : w11.cell? ⟨g5, 3, none⟩ = some (.int .i64 x.en) := (blk_cell HK5e.out 3).trans rfl
      have a4 : w11.cell? ⟨g5, 4, none⟩ = some (.int .i64 x.sv) := (blk_cell HK5e.out 4).trans rfl
      have b0 : w11.cell? ⟨g7, 0, none⟩ = some (.int .i64 x.n) := (blk_cell HK7e.out 0).trans rfl
      have b1 : w11.cell? ⟨g7, 1, none⟩ = some (.int .i64 x.er) := (blk_cell HK7e.out 1).trans rfl
      have b2 : w11.cell? ⟨g7, 2, none⟩ = some (.int .i64 x.st) := (blk_cell HK7e.out 2).trans rfl
      have b3 : w11.cell? ⟨g7, 3, none⟩ = some (.int .i64 x.en) := (blk_cell HK7e.out 3).trans rfl
      have b4 : w11.cell? ⟨g7, 4, none⟩ = some (.int .i64 x.sv) := (blk_cell HK7e.out 4).trans rfl
      have c0 : w11.cell? ⟨g9, 0, none⟩ = some (.int .i64 p.n) := (blk_cell HK9e.out 0).trans rfl
      have c1 : w11.cell? ⟨g9, 1, none⟩ = some (.int .i64 p.er) := (blk_cell HK9e.out 1).trans rfl
      have c2 : w11.cell? ⟨g9, 2, none⟩ = some (.int .i64 p.st) := (blk_cell HK9e.out 2).trans rfl
      have c3 : w11.cell? ⟨g9, 3, none⟩ = some (.int .i64 p.en) := (blk_cell HK9e.out 3).trans rfl
      have c4 : w11.cell? ⟨g9, 4, none⟩ = some (.int .i64 p.sv) := (blk_cell HK9e.out 4).trans rfl
      have d0 : w11.cell? ⟨g11, 0, none⟩ = some (.int .i64 q.n) := (blk_cell HK11.out 0).trans rfl
      have d1 : w11.cell? ⟨g11, 1, none⟩ = some (.int .i64 q.er) := (blk_cell HK11.out 1).trans rfl
      have d2 : w11.cell? ⟨g11, 2, none⟩ = some (.int .i64 q.st) := (blk_cell HK11.out 2).trans rfl
      have d3 : w11.cell? ⟨g11, 3, none⟩ = some (.int .i64 q.en) := (blk_cell HK11.out 3).trans rfl
      have d4 : w11.cell? ⟨g11, 4, none⟩ = some (.int .i64 q.sv) := (blk_cell HK11.out 4).trans rfl
      have hbp := sumS_bounds a
      have hbq := sumS_bounds b
      have hna := n_app a b
      have hea := er_app a b
      have hsv := sv_app a b
      rw [HPE.out] at hbp hna hea hsv
      rw [HQE.out] at hbq hna hea hsv
      rw [HXE.out] at hna hea hsv
      have hl0 := HN0.out
      have hl1 := HN1.out
      have k1 : wrap64 (p.n + q.n) = x.n := by rw [hna]; unfold wrap64; omega
      have k2 : wrap64 (p.er + q.er) = x.er := by rw [hea]; unfold wrap64; omega
      have k3 : wrap64 (p.sv + q.sv) = p.sv + q.sv := by unfold wrap64; omega
      have k4 : x.sv ≤ p.sv + q.sv := hsv.1
      have k5 : max p.sv q.sv ≤ x.sv := by omega
      have k6 : p.sv ≤ x.sv := hsv.2.1
      have k7 : q.sv ≤ x.sv := hsv.2.2.1
      have e4 : decide (p.sv + q.sv < x.sv) = false := decide_eq_false (by omega)
      have e5 : decide (x.sv < max p.sv q.sv) = false := decide_eq_false (by omega)
      have hnq := fun W => neq29 W x.n x.er x.st x.en x.sv
      have heq := fun W => eql29 W x.n x.er x.st x.en x.sv
      have HK1 := Lib.hid k1
      have HK2 := Lib.hid k2
      clear hbp hbq hna hea hsv hl0 hl1
      by_cases hae : a = []
      · have hqx : q = x := by rw [← HQE.out, ← HXE.out, hae]; rfl
        subst hqx
        have z1 : ((a.length : Int) == 0) = true := by rw [hae]; rfl
        have z2 : decide (0 < (a.length : Int)) = false := by rw [hae]; rfl
        have z3 : (a.length : Int) = 0 := by rw [hae]; rfl
        clear hae
        go_wp2
        go_ret
        exact ⟨rfl, HB11.out⟩
      · have hap : 0 < a.length := List.length_pos_iff.2 hae
        have z1 : ((a.length : Int) == 0) = false := beq_eq_false_iff_ne.2 (by omega)
        have z2 : (0 : Int) < (a.length : Int) := by omega
        by_cases hbe : b = []
        · have hpx : p = x := by rw [← HPE.out, ← HXE.out, hbe, List.append_nil]
          subst hpx
          have z3 : ((b.length : Int) == 0) = true := by rw [hbe]; rfl
          have z4 : (b.length : Int) = 0 := by rw [hbe]; rfl
          clear hae hbe hap
          go_wp2
          go_ret
          exact ⟨rfl, HB11.out⟩
        · have hbp : 0 < b.length := List.length_pos_iff.2 hbe
          have z3 : ((b.length : Int) == 0) = false := beq_eq_false_iff_ne.2 (by omega)
          have hst := st_app hae hbe
          have hen := en_app hae hbe
          rw [HXE.out, HPE.out, HQE.out] at hst hen
          have hst2 := hst.symm
          have hen2 := hen.symm
          clear hae hbe hap hbp hst hen
          go_wp2
          go_ret
          exact ⟨rfl, HB11.out⟩

end Go.Proofs.Ytoigebnhnkdbbaa.Walk
