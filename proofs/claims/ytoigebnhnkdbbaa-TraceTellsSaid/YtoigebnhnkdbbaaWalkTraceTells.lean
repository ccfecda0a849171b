import Derived.Test.YtoigebnhnkdbbaaTrIn
import Derived.Test.YtoigebnhnkdbbaaTrSum26
namespace Go.Proofs.Ytoigebnhnkdbbaa.Tr
open Go.RowKit Go.Proofs.YtoigebnhnkdbbaaW.PrintWords Go.Proofs.YtoigebnhnkdbbaaW.PrintLast Go.Proofs.YtoigebnhnkdbbaaW.PrintMore Go.Proofs.Ytoigebnhnkdbbaa.Math Go.Proofs.Ytoigebnhnkdbbaa.PAll
theorem rd26_of {W : World} {rs : List Sp} {l : List S38} (hl : rs.length = l.length) (hn : rs.length ≤ 1000000) (hI : ∀ (j : Nat) (s : Sp), rs[j]? = some s → ∃ x, l[j]? = some x ∧ Is W s x) (hs : ∀ s ∈ rs, Sml s) : Rd26 l rs :=
  ⟨hl.symm, hn, fun i s h => by
    obtain ⟨x, hx, hi⟩ := hI i s h
    have e : rd_T38 l (i : Int) = x := by
      show l.getD (i : Int).toNat _ = _
      rw [Int.toNat_natCast, List.getD_eq_getElem?_getD, hx]
      rfl
    obtain ⟨_, _, _, h3, _, h5, h6, h7⟩ := hi.fields
    rw [e]
    exact ⟨h3, h5, h6, h7⟩, hs⟩
end Go.Proofs.Ytoigebnhnkdbbaa.Tr
namespace Go.Proofs.Ytoigebnhnkdbbaa.Walk
open Go.RowKit Go.Proofs.YtoigebnhnkdbbaaW.PrintWords Go.Proofs.YtoigebnhnkdbbaaW.PrintLast Go.Proofs.YtoigebnhnkdbbaaW.PrintMore Go.Proofs.Ytoigebnhnkdbbaa.Math Go.Proofs.Ytoigebnhnkdbbaa.PAll Go.Proofs.Ytoigebnhnkdbbaa.Open Go.Proofs.Ytoigebnhnkdbbaa.Tr
set_option linter.unusedVariables false
set_option linter.unusedSimpArgs false

set_option maxHeartbeats 8000000 in
set_option maxRecDepth 100000 in
theorem TraceTells (W : World) (A0 : Option Addr) (c0 : Nat) (l0 : List S38) (hl0 : l0.length ≤ c0) (hc0 : Kd.C k38 W A0 l0.length l0) (hg0 : (∀ x ∈ l0, G38 x) ∧ l0.length * 152 ≤ 140737488351232) :
    Calls Try.prog 3 #[.slice A0 l0.length c0] W fun e w' => e = .returned (.bool true) ∧ Below W.heap.size W w' := by
  obtain ⟨a, K0, r0, hlen0, hC0, hI0, hs0, hr0⟩ := incoming hc0
  have HC0 := Lib.hid hc0
  have HL0 := Lib.hid hl0
  have HS0 := Lib.hid hs0
  have HRA := Lib.hid hC0
  have HR0 := Lib.hid hr0
  have HE0 := Lib.hid hlen0
  have HI0 := Lib.hid hI0
  obtain ⟨fs, hfs⟩ := is_all hI0
  have HF0 := Lib.hid hfs
  clear hlen0 hc0 hl0 hs0 hC0 hr0 hI0 hg0 hfs
  have HAW := Lib.hid (awake_calls W)
  go_enter Try.func3, Try.ntmps3
  go_wp2_with fail
  refine HAW.out.mono ?_
  rintro e w1 ⟨rfl, hb1⟩
  have HB1 := Lib.hid hb1
  have HSC0 := Lib.hid (cambiumlaw26_small.calls K0 A0 c0 l0 r0 w1 (Kd.C_below HC0.out hb1) HL0.out HS0.out)
  clear hb1 HAW
  go_wp2_with fail
  refine HSC0.out.mono ?_
  rintro e w2 ⟨rfl, hb2⟩
  have HB2 := Lib.hid (below_step HB1.out hb2)
  clear hb2 HSC0 HB1
  cases r0 with
  | false =>
    go_wp2
    go_ret
    exact ⟨rfl, HB2.out⟩
  | true =>
    have HN0 := Lib.hid (HR0.out (by first | rfl | trivial)).1
    have HM0 := Lib.hid (HR0.out (by first | rfl | trivial)).2
    have HA2 := Lib.hid (Kd.C_below HRA.out HB2.out)
    have HLA := Lib.hid (show a.length ≤ c0 by rw [HE0.out]; exact HL0.out)
    rw [← HE0.out]
    obtain ⟨hg, hl⟩ := asm_good (cnt_dis a)
    have hcl : (cnt a).length ≤ 80 := Nat.le_trans (cnt_len a) HN0.out
    have hwl : (long (cnt a)).length ≤ 80 := Nat.le_trans ((long_whole (cnt_dis a)).way.len (cnt_dis a)) hcl
    have HGM := Lib.hid (show ∀ x ∈ asm (cnt a), x.sp ∈ a from fun x hx => cnt_mem (hg.mem x hx))
    have HGL := Lib.hid (show (asm (cnt a)).length ≤ 1000000 by omega)
    have HWM := Lib.hid (show ∀ s ∈ long (cnt a), s ∈ a from fun s hs => cnt_mem ((long_whole (cnt_dis a)).way.mem s hs))
    have HWL := Lib.hid (show (long (cnt a)).length ≤ 1000000 by omega)
    have hac := assemble_calls A0 c0 a w2 HA2.out HLA.out (by have := HN0.out; omega)
    have HX := fun w h => Lib.hid (assemble26_calls A0 c0 a w h HLA.out (by have := HN0.out; omega))
    have HY := fun w h => Lib.hid (longest_calls A0 c0 a w h HLA.out (by have := HN0.out; omega) HM0.out)
    have HZ := fun w h => Lib.hid (longest26_calls A0 c0 a w h HLA.out (by have := HN0.out; omega) HM0.out)
    have HU := fun w h => Lib.hid (sum_calls A0 c0 a w h HLA.out (by have := HN0.out; omega) HM0.out)
    obtain ⟨out, hout⟩ : ∃ out, asm (cnt a) = out := ⟨_, rfl⟩
    obtain ⟨wy, hwy⟩ : ∃ wy, long (cnt a) = wy := ⟨_, rfl⟩
    obtain ⟨x, hx⟩ : ∃ x, sumS a = x := ⟨_, rfl⟩
    obtain ⟨KS, hKS⟩ := sum26_eq (rd26_of HE0.out (by have := HN0.out; omega) HI0.out HM0.out)
    have HV := fun w h => Lib.hid (cambiumref26_Sum.calls KS A0 c0 l0 _ _ _ _ _ w h HL0.out hKS)
    rw [hout] at hac HGM HGL
    simp only [hout] at HX
    rw [hwy] at HWM HWL
    simp only [hwy] at HY HZ
    simp only [hx] at HU HV
    have HAC := Lib.hid hac
    clear hg hl hcl hwl hac hout hwy hx hKS HS0 HRA HR0
    go_wp2_with fail
    refine HAC.out.mono ?_
    rintro e w3 ⟨v3, rfl, hr3, hb3⟩
    obtain ⟨A3, c3, rfl⟩ := Kd.R_slice hr3
    have HO3 := Lib.hid hr3
    have HB3 := Lib.hid (below_step HB2.out hb3)
    have HA3 := Lib.hid (Kd.C_below HA2.out hb3)
    have HXC := HX w3 HA3.out
    clear hr3 hb3 HAC HX HB2 HA2
    go_wp2_with fail
    refine HXC.out.mono ?_
    rintro e w4 ⟨v4, rfl, hr4, hb4⟩
    obtain ⟨A4, c4, rfl⟩ := Kd.R_slice hr4
    have hr3' := Kd.R_reads' (Kd.R_below HO3.out hb4)
    have hr4' := Kd.R_reads' hr4
    have HB4 := Lib.hid (below_step HB3.out hb4)
    have hIs : ∀ x ∈ out, Is w4 x.sp (fs x.sp) := fun x hx => (HF0.out x.sp (HGM.out x hx)).below HB4.out
    have hk1 := kindL_of fs hr3'.2.2 hIs
    have hk2 := kindL_of fs hr4'.2.2 hIs
    obtain ⟨KL, hKL⟩ := lines_all HGL.out hIs
    have hlc := cambiumlaw26_Lines.calls KL A3 c3 (out.map (toL fs)) A4 c4 (out.map (toL fs)) true w4 (by rw [List.length_map]; exact hk1) (by rw [List.length_map]; exact hr3'.2.1) (by rw [List.length_map]; exact hk2) (by rw [List.length_map]; exact hr4'.2.1) hKL
    rw [List.length_map] at hlc
    have HLC := Lib.hid hlc
    have HA4 := Lib.hid (Kd.C_below HA3.out hb4)
    clear hr3' hr4' hIs hk1 hk2 hKL hlc hr4 hb4 HXC HO3 HB3 HA3
    go_wp2_with fail
    refine HLC.out.mono ?_
    rintro e w5 ⟨rfl, hb5⟩
    have HB5 := Lib.hid (below_step HB4.out hb5)
    have HA5 := Lib.hid (Kd.C_below HA4.out hb5)
    have HUC := HU w5 HA5.out
    clear hb5 HLC HU HB4 HA4
    go_wp2_with fail
    refine HUC.out.mono ?_
    rintro e w6 ⟨rfl, hb6⟩
    have HB6 := Lib.hid (below_step HB5.out hb6)
    have HA6 := Lib.hid (Kd.C_below HA5.out hb6)
    have hvc := HV w6 (Kd.C_below HC0.out HB6.out)
    rw [← HE0.out] at hvc
    clear hb6 HUC HV HB5 HA5
    go_wp2_with fail
    refine hvc.out.mono ?_
    rintro e w7 ⟨rfl, hb7⟩
    have HB7 := Lib.hid (below_step HB6.out hb7)
    have HA7 := Lib.hid (Kd.C_below HA6.out hb7)
    have heq := fun W => eql29 W x.n x.er x.st x.en x.sv
    have HYC := HY w7 HA7.out
    clear hb7 hvc HY HB6 HA6
    go_wp2_with fail
    refine HYC.out.mono ?_
    rintro e w8 ⟨v8, rfl, hr8, hb8⟩
    obtain ⟨A8, c8, rfl⟩ := Kd.R_slice hr8
    have HO8 := Lib.hid hr8
    have HB8 := Lib.hid (below_step HB7.out hb8)
    have HA8 := Lib.hid (Kd.C_below HA7.out hb8)
    have HZC := HZ w8 HA8.out
    clear hr8 hb8 HYC HZ HB7 HA7 heq
    go_wp2_with fail
    refine HZC.out.mono ?_
    rintro e w9 ⟨v9, rfl, hr9, hb9⟩
    obtain ⟨A9, c9, rfl⟩ := Kd.R_slice hr9
    have hr8' := Kd.R_reads' (Kd.R_below HO8.out hb9)
    have hr9' := Kd.R_reads' hr9
    have HB9 := Lib.hid (below_step HB8.out hb9)
    have hIs : ∀ s ∈ wy, Is w9 s (fs s) := fun s hs => (HF0.out s (HWM.out s hs)).below HB9.out
    have hk1 := kind_of fs hr8'.2.2 hIs
    have hk2 := kind_of fs hr9'.2.2 hIs
    obtain ⟨KL, hKL⟩ := spans_all HWL.out hIs
    have hlc := cambiumref16_Spans.calls KL A8 c8 (wy.map fs) A9 c9 (wy.map fs) true w9 (by rw [List.length_map]; exact hk1) (by rw [List.length_map]; exact hr8'.2.1) (by rw [List.length_map]; exact hk2) (by rw [List.length_map]; exact hr9'.2.1) hKL
    rw [List.length_map] at hlc
    have HLC := Lib.hid hlc
    clear hr8' hr9' hIs hk1 hk2 hKL hlc hr9 hb9 HZC HO8 HB8 HA8
    go_wp2_with fail
    refine HLC.out.mono ?_
    rintro e w10 ⟨rfl, hb10⟩
    have HB10 := Lib.hid (below_step HB9.out hb10)
    clear hb10 HLC HB9
    go_wp2
    go_ret
    exact ⟨rfl, HB10.out⟩

end Go.Proofs.Ytoigebnhnkdbbaa.Walk
