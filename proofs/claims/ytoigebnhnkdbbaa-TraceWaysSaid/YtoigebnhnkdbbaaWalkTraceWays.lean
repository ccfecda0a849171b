import Derived.Test.YtoigebnhnkdbbaaTrIn
import Derived.Test.YtoigebnhnkdbbaaTrCount
import Derived.Test.YtoigebnhnkdbbaaTrKinds
namespace Go.Proofs.Ytoigebnhnkdbbaa.Tr
open Go.RowKit Go.Proofs.YtoigebnhnkdbbaaW.PrintWords Go.Proofs.YtoigebnhnkdbbaaW.PrintLast Go.Proofs.YtoigebnhnkdbbaaW.PrintMore Go.Proofs.Ytoigebnhnkdbbaa.Math Go.Proofs.Ytoigebnhnkdbbaa.PAll
theorem addr_add0 (a : Addr) : a.add 0 = a := by cases a; rfl
/-- What is asked of two spans' ends. -/
theorem Sml.add {s : Sp} (h : Sml s) : wrap64 (s.st + s.du) = enD s := by
  obtain ⟨h1, h2, h3, h4⟩ := h
  unfold enD wrap64
  omega
end Go.Proofs.Ytoigebnhnkdbbaa.Tr
namespace Go.Proofs.Ytoigebnhnkdbbaa.Walk
open Go.RowKit Go.Proofs.YtoigebnhnkdbbaaW.PrintWords Go.Proofs.YtoigebnhnkdbbaaW.PrintLast Go.Proofs.YtoigebnhnkdbbaaW.PrintMore Go.Proofs.Ytoigebnhnkdbbaa.Math Go.Proofs.Ytoigebnhnkdbbaa.PAll Go.Proofs.Ytoigebnhnkdbbaa.Open Go.Proofs.Ytoigebnhnkdbbaa.Tr
set_option linter.unusedVariables false
set_option linter.unusedSimpArgs false

set_option maxHeartbeats 8000000 in
set_option maxRecDepth 100000 in
theorem TraceWays (W : World) (A0 : Option Addr) (c0 : Nat) (l0 : List S38) (hl0 : l0.length ≤ c0) (hc0 : Kd.C k38 W A0 l0.length l0) (hg0 : (∀ x ∈ l0, G38 x) ∧ l0.length * 152 ≤ 140737488351232) :
    Calls Try.prog 5 #[.slice A0 l0.length c0] W fun e w' => e = .returned (.bool true) ∧ Below W.heap.size W w' := by
  obtain ⟨a, K0, r0, hlen0, hC0, hI0, hs0, hr0⟩ := incoming hc0
  have HC0 := Lib.hid hc0
  have HL0 := Lib.hid hl0
  have HS0 := Lib.hid hs0
  have HRA := Lib.hid hC0
  have HR0 := Lib.hid hr0
  have HE0 := Lib.hid hlen0
  obtain ⟨fs, hfs⟩ := is_all hI0
  have HF0 := Lib.hid hfs
  clear hlen0 hc0 hl0 hs0 hC0 hr0 hI0 hg0 hfs
  have HAW := Lib.hid (awake_calls W)
  obtain ⟨inf, hinf, _⟩ : ∃ inf, Try.prog.info? 38 = some inf ∧ inf.size = 11 := by
    obtain ⟨inf, h1, h2⟩ := Option.map_eq_some_iff.1 infoS
    simp only [Prod.mk.injEq] at h2
    exact ⟨inf, h1, h2.2.1⟩
  have HINF := Lib.hid hinf
  clear hinf
  go_enter Try.func5, Try.ntmps5
  go_wp2_with fail
  refine HAW.out.mono ?_
  rintro e w1 ⟨rfl, hb1⟩
  have HB1 := Lib.hid hb1
  have HSC0 := Lib.hid (cambiumlaw26_small.calls K0 A0 c0 l0 r0 w1 (Kd.C_below HC0.out hb1) HL0.out HS0.out)
  clear hb1 HAW
  go_wp2_with fail
  refine HSC0.out.mono ?_
  rintro e w2 ⟨rfl, hb2⟩
  have HB2 := Lib.hid (below_step HB1.out hb2)
  clear hb2 HSC0 HB1
  cases r0 with
  | false =>
    go_wp2
    go_ret
    exact ⟨rfl, HB2.out⟩
  | true =>
    have HN0 := Lib.hid (HR0.out (by first | rfl | trivial)).1
    have HM0 := Lib.hid (HR0.out (by first | rfl | trivial)).2
    have HA2 := Lib.hid (Kd.C_below HRA.out HB2.out)
    have HLA := Lib.hid (show a.length ≤ c0 by rw [HE0.out]; exact HL0.out)
    rw [← HE0.out]
    clear HC0 HS0 HRA HR0 HL0
    have hlc := longest_calls A0 c0 a w2 HA2.out HLA.out (by have := HN0.out; omega) HM0.out
    have hcl : (cnt a).length ≤ 80 := Nat.le_trans (cnt_len a) HN0.out
    have hwh := long_whole (cnt_dis a)
    have hwl : (long (cnt a)).length ≤ 80 := Nat.le_trans (hwh.way.len (cnt_dis a)) hcl
    obtain ⟨wy, hwy⟩ : ∃ wy, long (cnt a) = wy := ⟨_, rfl⟩
    rw [hwy] at hlc hwh hwl
    have HLC := Lib.hid hlc
    have HWH := Lib.hid hwh
    have HWL := Lib.hid hwl
    have HSM := Lib.hid (show ∀ s ∈ cnt a, Sml s from fun s h => HM0.out s (cnt_mem h))
    have HCM := Lib.hid (show ∀ s ∈ cnt a, s ∈ a from fun s h => cnt_mem h)
    clear hlc hwh hwl hwy
    go_wp2_with fail
    refine HLC.out.mono ?_
    rintro e w3 ⟨v3, rfl, hr3, hb3⟩
    obtain ⟨Ay, cy, rfl⟩ := Kd.R_slice hr3
    have HY3 := Lib.hid hr3
    have HB3 := Lib.hid (below_step HB2.out hb3)
    have hcc := counted_calls A0 c0 a w3 (Kd.C_below HA2.out hb3) HLA.out (by have := HN0.out; omega)
    obtain ⟨C, hC⟩ : ∃ C, cnt a = C := ⟨_, rfl⟩
    rw [hC] at hcc hcl HWH HSM HCM
    have HCC := Lib.hid hcc
    have HCL := Lib.hid hcl
    clear hr3 hb3 hcc HLC hC hcl
    go_wp2_with fail
    refine HCC.out.mono ?_
    rintro e w4 ⟨v4, rfl, hr4, hb4⟩
    obtain ⟨A4, c4, rfl⟩ := Kd.R_slice hr4
    have hyr := Kd.R_reads' (Kd.R_below HY3.out hb4)
    have HY4 := Lib.hid hyr.2.2
    have HYC := Lib.hid hyr.2.1
    have HC4 := Lib.hid (Kd.R_reads' hr4).2.2
    have HB4 := Lib.hid (below_step HB3.out hb4)
    clear hr4 hb4 HCC HY3 HA2 HB2 HB3 hyr
    go_wp2
    go_loopw [5, 6] (fun v5 i wr => ∃ n r : Nat, n ≤ C.length ∧ v5 = .int .i64 r ∧ i = .int .i64 n ∧ Hid (r ≤ n) ∧ Hid (wy = [] → r = 0) ∧ Hid (Below W.heap.size W wr) ∧ Hid (Kd.C kS wr A4 C.length C) ∧ Hid (Kd.C kS wr Ay wy.length wy)) (fun _ i _ => C.length - (intOf i).toNat)
    case atStart => exact ⟨0, 0, by omega, rfl, rfl, Lib.hid (Nat.le_refl _), Lib.hid (fun _ => rfl), HB4, HC4, HY4⟩
    case round =>
      clear HB4 HC4 HY4
      obtain ⟨n, r, hn, rfl, rfl, HRN, HR0, HB, HC, HY⟩ := hrel
      have HCN := Lib.hid (show C.length ≤ 1000000 by have := HCL.out; omega)
      by_cases hlt : n < C.length
      · obtain ⟨s, hs⟩ : ∃ s, C[n]? = some s := ⟨_, List.getElem?_eq_getElem hlt⟩
        have HGS := Lib.hid hs
        have HSC := Lib.hid (List.mem_of_getElem? hs)
        have q : (n : Int) < (C.length : Int) := by omega
        have HK := Lib.hid (show n + 1 ≤ C.length by omega)
        have HW := Lib.hid (show wrap64 ((n : Int) + 1) = ((n + 1 : Nat) : Int) by have := HCN.out; unfold wrap64; omega)
        obtain ⟨ad, rfl, x0, x1, x2, x3, x4, x5, x6, x7, x8, x9, x10⟩ := at_S HC.out hs
        clear hs hlt hn
        have hrt := root26_calls (some ad) c4 C s wr HC.out HCN.out
        rw [arr_S] at hrt
        have HRT := Lib.hid hrt
        clear hrt
        go_wp2_with fail
        refine HRT.out.mono ?_
        rintro e w5 ⟨rfl, hb5⟩
        have HB5 := Lib.hid (below_step HB.out hb5)
        have HC5 := Lib.hid (Kd.C_below HC.out hb5)
        have HY5 := Lib.hid (Kd.C_below HY.out hb5)
        clear hb5 HB HC HY HRT x0 x1 x2 x3 x4 x5 x6 x7 x8 x9 x10
        cases hrb : rootB C s with
        | false =>
          clear hrb
          go_wp2
          go_roundw
          case rel => exact ⟨n + 1, r, HK.out, rfl, by rw [HW.out], Lib.hid (by have := HRN.out; omega), HR0, HB5, HC5, HY5⟩
          case measure => exact meas_up HCN.out HK.out
        | true =>
          have hrt : s ∈ rootsOf C := by unfold rootsOf; exact List.mem_filter.2 ⟨HSC.out, hrb⟩
          obtain ⟨y, ys, hyy⟩ : ∃ y ys, wy = y :: ys := by
            cases hw : wy with
            | nil => have := HWH.out.none_ hw; rw [this] at hrt; cases hrt
            | cons y ys => exact ⟨y, ys, rfl⟩
          have HYN := Lib.hid (show wy ≠ [] by rw [hyy]; simp)
          have HYG := Lib.hid (show wy[0]? = some y by rw [hyy]; rfl)
          have hyl : 0 < wy.length := by rw [hyy]; simp
          have hle : enD s ≤ enD y := HWH.out.best y (by rw [hyy]; rfl) s hrt
          have HWS := Lib.hid (HSM.out s HSC.out).add
          have HWY := Lib.hid (HSM.out y (HWH.out.way.mem y (by rw [hyy]; exact List.mem_cons_self))).add
          have HWR := Lib.hid (show wrap64 ((r : Int) + 1) = ((r + 1 : Nat) : Int) by have := HCN.out; have := HRN.out; have := HK.out; unfold wrap64; omega)
          have hod := Kd.C_below HC5.out (below_drew (Below.refl _ _))
          have hyd := Kd.C_below HY5.out (below_drew (Below.refl _ _))
          obtain ⟨ad2, he2, _, _, _, _, _, x5, x6, _⟩ := at_S hod HGS.out
          injection he2 with he2
          subst he2
          obtain ⟨ay, rfl, _, _, _, _, _, y5, y6, _⟩ := at_S hyd HYG.out
          have z1 : ((wy.length : Int) == 0) = false := beq_eq_false_iff_ne.2 (by omega)
          have z2 : (0 : Int) < (wy.length : Int) := by omega
          have HLE := Lib.hid hle
          rw [Nat.zero_mul, addr_add0] at y5 y6
          clear hrb hrt hyy hle hod hyd
          go_upto_region 13 with (fail)
          refine start_ (n := 26) (S := fun w' => w'.cell? ⟨(ad.add (n * 11)).block, (ad.add (n * 11)).off + 5, none⟩ = some (.int .i64 s.st) ∧ w'.cell? ⟨(ad.add (n * 11)).block, (ad.add (n * 11)).off + 6, none⟩ = some (.int .i64 s.du) ∧ w'.cell? ⟨ay.block, ay.off + 5, none⟩ = some (.int .i64 y.st) ∧ w'.cell? ⟨ay.block, ay.off + 6, none⟩ = some (.int .i64 y.du)) (ds := []) #[false, false, false, false, false, false, false, false, false, false, false, false, false, false, false, false, false, false, false, false, false, false, false, false, false, false] (by kernel_rfl) rfl rfl ⟨x5, x6, y5, y6⟩ (fun hHeld => ?_)
          generalize hwe : w5.drew = w6 at x5 x6 y5 y6 hHeld ⊢
          have HB6 := Lib.hid (show Below W.heap.size W w6 by rw [← hwe]; exact below_drew HB5.out)
          have HC6 := Lib.hid (show Kd.C kS w6 (some ad) C.length C by rw [← hwe]; exact Kd.C_below HC5.out (below_drew (Below.refl _ _)))
          have HY6 := Lib.hid (show Kd.C kS w6 (some ay) wy.length wy by rw [← hwe]; exact Kd.C_below HY5.out (below_drew (Below.refl _ _)))
          clear hwe x5 x6 y5 y6
          refine pure_ (i := 0) (N := some 33) (v := ?_) (a' := ?_) #[true, false, false, false, false, false, false, false, false, false, false, false, false, false, false, false, false, false, false, false, false, false, false, false, false, false] rfl rfl (by kernel_rfl) (fun _ _ _ h => h) (Or.inl ⟨by rfl, ?_⟩) ?_ ?_
          rotate_left
          · intro w'
            go_simp
            with_reducible rfl
          rotate_left
          · simp only [Act.put, List.setIfInBounds_toArray, List.set_cons_zero, List.set_cons_succ, i64_w, i32_w]
            rfl
          refine pure_ (i := 1) (N := some 34) (v := ?_) (a' := ?_) #[true, true, false, false, false, false, false, false, false, false, false, false, false, false, false, false, false, false, false, false, false, false, false, false, false, false] rfl rfl (by kernel_rfl) (fun _ _ _ h => h) (Or.inl ⟨by rfl, ?_⟩) ?_ ?_
          rotate_left
          · intro w'
            go_simp
            with_reducible rfl
          rotate_left
          · simp only [Act.put, List.setIfInBounds_toArray, List.set_cons_zero, List.set_cons_succ, i64_w, i32_w]
            rfl
          refine pure_ (i := 2) (N := some 35) (v := ?_) (a' := ?_) #[true, true, true, false, false, false, false, false, false, false, false, false, false, false, false, false, false, false, false, false, false, false, false, false, false, false] rfl rfl (by kernel_rfl) (fun _ _ _ h => h) (Or.inl ⟨by rfl, ?_⟩) ?_ ?_
          rotate_left
          · intro w'
            go_simp
            with_reducible rfl
          rotate_left
          · simp only [Act.put, List.setIfInBounds_toArray, List.set_cons_zero, List.set_cons_succ, i64_w, i32_w]
            rfl
          refine pure_ (i := 3) (N := some 36) (v := ?_) (a' := ?_) #[true, true, true, true, false, false, false, false, false, false, false, false, false, false, false, false, false, false, false, false, false, false, false, false, false, false] rfl rfl (by kernel_rfl) (fun _ _ _ h => h) (Or.inl ⟨by rfl, ?_⟩) ?_ ?_
          rotate_left
          · intro w'
            go_simp
            with_reducible rfl
          rotate_left
          · simp only [Act.put, List.setIfInBounds_toArray, List.set_cons_zero, List.set_cons_succ, i64_w, i32_w]
            rfl
          refine pure_ (i := 4) (N := some 37) (v := ?_) (a' := ?_) #[true, true, true, true, true, false, false, false, false, false, false, false, false, false, false, false, false, false, false, false, false, false, false, false, false, false] rfl rfl (by kernel_rfl) (fun _ _ _ h => h) (Or.inl ⟨by rfl, ?_⟩) ?_ ?_
          rotate_left
          · intro w'
            go_simp
            with_reducible rfl
          rotate_left
          · simp only [Act.put, List.setIfInBounds_toArray, List.set_cons_zero, List.set_cons_succ, i64_w, i32_w]
            rfl
          refine pure_ (i := 5) (N := some 38) (v := ?_) (a' := ?_) #[true, true, true, true, true, true, false, false, false, false, false, false, false, false, false, false, false, false, false, false, false, false, false, false, false, false] rfl rfl (by kernel_rfl) (fun _ _ _ h => h) (Or.inl ⟨by rfl, ?_⟩) ?_ ?_
          rotate_left
          · intro w'
            go_simp
            with_reducible rfl
          rotate_left
          · simp only [Act.put, List.setIfInBounds_toArray, List.set_cons_zero, List.set_cons_succ, i64_w, i32_w]
            rfl
          refine pure_ (i := 6) (N := some 39) (v := ?_) (a' := ?_) #[true, true, true, true, true, true, true, false, false, false, false, false, false, false, false, false, false, false, false, false, false, false, false, false, false, false] rfl rfl (by kernel_rfl) (fun _ _ _ h => h) (Or.inl ⟨by rfl, ?_⟩) ?_ ?_
          rotate_left
          · intro w'
            go_simp
            with_reducible rfl
          rotate_left
          · simp only [Act.put, List.setIfInBounds_toArray, List.set_cons_zero, List.set_cons_succ, i64_w, i32_w]
            rfl
          refine pure_ (i := 7) (N := some 40) (v := ?_) (a' := ?_) #[true, true, true, true, true, true, true, true, false, false, false, false, false, false, false, false, false, false, false, false, false, false, false, false, false, false] rfl rfl (by kernel_rfl) (fun _ _ _ h => h) (Or.inl ⟨by rfl, ?_⟩) ?_ ?_
          rotate_left
          · intro w'
            go_simp
            with_reducible rfl
          rotate_left
          · simp only [Act.put, List.setIfInBounds_toArray, List.set_cons_zero, List.set_cons_succ, i64_w, i32_w]
            rfl
          refine pure_ (i := 9) (N := some 42) (v := ?_) (a' := ?_) #[true, true, true, true, true, true, true, true, false, true, false, false, false, false, false, false, false, false, false, false, false, false, false, false, false, false] rfl rfl (by kernel_rfl) (fun _ _ _ h => h) (Or.inl ⟨by rfl, ?_⟩) ?_ ?_
          rotate_left
          · intro w'
            go_simp
            with_reducible rfl
          rotate_left
          · simp only [Act.put, List.setIfInBounds_toArray, List.set_cons_zero, List.set_cons_succ, i64_w, i32_w]
            rfl
          refine pure_ (i := 10) (N := some 43) (v := ?_) (a' := ?_) #[true, true, true, true, true, true, true, true, false, true, true, false, false, false, false, false, false, false, false, false, false, false, false, false, false, false] rfl rfl (by kernel_rfl) (fun _ _ _ h => h) (Or.inl ⟨by rfl, ?_⟩) ?_ ?_
          rotate_left
          · intro w'
            go_simp
            with_reducible rfl
          rotate_left
          · simp only [Act.put, List.setIfInBounds_toArray, List.set_cons_zero, List.set_cons_succ, i64_w, i32_w]
            rfl
          refine pure_ (i := 11) (N := some 44) (v := ?_) (a' := ?_) #[true, true, true, true, true, true, true, true, false, true, true, true, false, false, false, false, false, false, false, false, false, false, false, false, false, false] rfl rfl (by kernel_rfl) (fun _ _ _ h => h) (Or.inl ⟨by rfl, ?_⟩) ?_ ?_
          rotate_left
          · intro w'
            go_simp
            with_reducible rfl
          rotate_left
          · simp only [Act.put, List.setIfInBounds_toArray, List.set_cons_zero, List.set_cons_succ, i64_w, i32_w]
            rfl
          refine pure_ (i := 12) (N := some 45) (v := ?_) (a' := ?_) #[true, true, true, true, true, true, true, true, false, true, true, true, true, false, false, false, false, false, false, false, false, false, false, false, false, false] rfl rfl (by kernel_rfl) (fun _ _ _ h => h) (Or.inl ⟨by rfl, ?_⟩) ?_ ?_
          rotate_left
          · intro w'
            go_simp
            with_reducible rfl
          rotate_left
          · simp only [Act.put, List.setIfInBounds_toArray, List.set_cons_zero, List.set_cons_succ, i64_w, i32_w]
            rfl
          refine pure_ (i := 15) (N := some 48) (v := ?_) (a' := ?_) #[true, true, true, true, true, true, true, true, false, true, true, true, true, false, false, true, false, false, false, false, false, false, false, false, false, false] rfl rfl (by kernel_rfl) (fun _ _ _ h => h) (Or.inl ⟨by rfl, ?_⟩) ?_ ?_
          rotate_left
          · intro w'
            go_simp
            with_reducible rfl
          rotate_left
          · simp only [Act.put, List.setIfInBounds_toArray, List.set_cons_zero, List.set_cons_succ, i64_w, i32_w]
            rfl
          refine pure_ (i := 16) (N := some 49) (v := ?_) (a' := ?_) #[true, true, true, true, true, true, true, true, false, true, true, true, true, false, false, true, true, false, false, false, false, false, false, false, false, false] rfl rfl (by kernel_rfl) (fun _ _ _ h => h) (Or.inl ⟨by rfl, ?_⟩) ?_ ?_
          rotate_left
          · intro w'
            go_simp
            with_reducible rfl
          rotate_left
          · simp only [Act.put, List.setIfInBounds_toArray, List.set_cons_zero, List.set_cons_succ, i64_w, i32_w]
            rfl
          refine pure_ (i := 17) (N := some 50) (v := ?_) (a' := ?_) #[true, true, true, true, true, true, true, true, false, true, true, true, true, false, false, true, true, true, false, false, false, false, false, false, false, false] rfl rfl (by kernel_rfl) (fun _ _ _ h => h) (Or.inl ⟨by rfl, ?_⟩) ?_ ?_
          rotate_left
          · intro w'
            go_simp
            with_reducible rfl
          rotate_left
          · simp only [Act.put, List.setIfInBounds_toArray, List.set_cons_zero, List.set_cons_succ, i64_w, i32_w]
            rfl
          refine pure_ (i := 19) (N := some 52) (v := ?_) (a' := ?_) #[true, true, true, true, true, true, true, true, false, true, true, true, true, false, false, true, true, true, false, true, false, false, false, false, false, false] rfl rfl (by kernel_rfl) (fun _ _ _ h => h) (Or.inl ⟨by rfl, ?_⟩) ?_ ?_
          rotate_left
          · intro w'
            go_simp
            with_reducible rfl
          rotate_left
          · simp only [Act.put, List.setIfInBounds_toArray, List.set_cons_zero, List.set_cons_succ, i64_w, i32_w]
            rfl
          refine pure_ (i := 20) (N := some 53) (v := ?_) (a' := ?_) #[true, true, true, true, true, true, true, true, false, true, true, true, true, false, false, true, true, true, false, true, true, false, false, false, false, false] rfl rfl (by kernel_rfl) (fun _ _ _ h => h) (Or.inl ⟨by rfl, ?_⟩) ?_ ?_
          rotate_left
          · intro w'
            go_simp
            with_reducible rfl
          rotate_left
          · simp only [Act.put, List.setIfInBounds_toArray, List.set_cons_zero, List.set_cons_succ, i64_w, i32_w]
            rfl
          refine pure_ (i := 21) (N := some 54) (v := ?_) (a' := ?_) #[true, true, true, true, true, true, true, true, false, true, true, true, true, false, false, true, true, true, false, true, true, true, false, false, false, false] rfl rfl (by kernel_rfl) (fun _ _ _ h => h) (Or.inl ⟨by rfl, ?_⟩) ?_ ?_
          rotate_left
          · intro w'
            go_simp
            with_reducible rfl
          rotate_left
          · simp only [Act.put, List.setIfInBounds_toArray, List.set_cons_zero, List.set_cons_succ, i64_w, i32_w]
            rfl
          refine take_ (i := 8) (N := some 41) (v := ?_) (a' := ?_) #[true, true, true, true, true, true, true, true, true, true, true, true, true, false, false, true, true, true, false, true, true, true, false, false, false, false] rfl rfl (by kernel_rfl) (fun _ _ _ h => h) (Or.inl ⟨by rfl, ?_⟩) hHeld ?_ ?_
          rotate_left
          · rintro w' ⟨s0, s1, s2, s3⟩
            go_simp
            with_reducible rfl
          rotate_left
          · simp only [Act.put, List.setIfInBounds_toArray, List.set_cons_zero, List.set_cons_succ, i64_w, i32_w]
            rfl
          refine take_ (i := 13) (N := some 46) (v := ?_) (a' := ?_) #[true, true, true, true, true, true, true, true, true, true, true, true, true, true, false, true, true, true, false, true, true, true, false, false, false, false] rfl rfl (by kernel_rfl) (fun _ _ _ h => h) (Or.inl ⟨by rfl, ?_⟩) hHeld ?_ ?_
          rotate_left
          · rintro w' ⟨s0, s1, s2, s3⟩
            go_simp
            with_reducible rfl
          rotate_left
          · simp only [Act.put, List.setIfInBounds_toArray, List.set_cons_zero, List.set_cons_succ, i64_w, i32_w]
            rfl
          refine pure_ (i := 14) (N := some 47) (v := ?_) (a' := ?_) #[true, true, true, true, true, true, true, true, true, true, true, true, true, true, true, true, true, true, false, true, true, true, false, false, false, false] rfl rfl (by kernel_rfl) (fun _ _ _ h => h) (Or.inl ⟨by rfl, ?_⟩) ?_ ?_
          rotate_left
          · intro w'
            go_simp
            with_reducible rfl
          rotate_left
          · simp only [Act.put, List.setIfInBounds_toArray, List.set_cons_zero, List.set_cons_succ, i64_w, i32_w]
            rfl
          refine take_ (i := 18) (N := some 51) (v := ?_) (a' := ?_) #[true, true, true, true, true, true, true, true, true, true, true, true, true, true, true, true, true, true, true, true, true, true, false, false, false, false] rfl rfl (by kernel_rfl) (fun _ _ _ h => h) (Or.inl ⟨by rfl, ?_⟩) hHeld ?_ ?_
          rotate_left
          · rintro w' ⟨s0, s1, s2, s3⟩
            go_simp
            with_reducible rfl
          rotate_left
          · simp only [Act.put, List.setIfInBounds_toArray, List.set_cons_zero, List.set_cons_succ, i64_w, i32_w]
            rfl
          refine take_ (i := 22) (N := some 55) (v := ?_) (a' := ?_) #[true, true, true, true, true, true, true, true, true, true, true, true, true, true, true, true, true, true, true, true, true, true, true, false, false, false] rfl rfl (by kernel_rfl) (fun _ _ _ h => h) (Or.inl ⟨by rfl, ?_⟩) hHeld ?_ ?_
          rotate_left
          · rintro w' ⟨s0, s1, s2, s3⟩
            go_simp
            with_reducible rfl
          rotate_left
          · simp only [Act.put, List.setIfInBounds_toArray, List.set_cons_zero, List.set_cons_succ, i64_w, i32_w]
            rfl
          refine pure_ (i := 23) (N := some 56) (v := ?_) (a' := ?_) #[true, true, true, true, true, true, true, true, true, true, true, true, true, true, true, true, true, true, true, true, true, true, true, true, false, false] rfl rfl (by kernel_rfl) (fun _ _ _ h => h) (Or.inl ⟨by rfl, ?_⟩) ?_ ?_
          rotate_left
          · intro w'
            go_simp
            with_reducible rfl
          rotate_left
          · simp only [Act.put, List.setIfInBounds_toArray, List.set_cons_zero, List.set_cons_succ, i64_w, i32_w]
            rfl
          refine pure_ (i := 24) (N := some 57) (v := ?_) (a' := ?_) #[true, true, true, true, true, true, true, true, true, true, true, true, true, true, true, true, true, true, true, true, true, true, true, true, true, false] rfl rfl (by kernel_rfl) (fun _ _ _ h => h) (Or.inl ⟨by rfl, ?_⟩) ?_ ?_
          rotate_left
          · intro w'
            go_simp
            with_reducible rfl
          rotate_left
          · simp only [Act.put, List.setIfInBounds_toArray, List.set_cons_zero, List.set_cons_succ, i64_w, i32_w]
            rfl
          refine pure_ (i := 25) (N := some 58) (v := ?_) (a' := ?_) #[true, true, true, true, true, true, true, true, true, true, true, true, true, true, true, true, true, true, true, true, true, true, true, true, true, true] rfl rfl (by kernel_rfl) (fun _ _ _ h => h) (Or.inl ⟨by rfl, ?_⟩) ?_ ?_
          rotate_left
          · intro w'
            go_simp
            with_reducible rfl
          rotate_left
          · simp only [Act.put, List.setIfInBounds_toArray, List.set_cons_zero, List.set_cons_succ, i64_w, i32_w]
            rfl
          refine done_ (by kernel_rfl) ?_
          clear z1 z2 hyl
          have hle := HLE.out
          have hws := HWS.out
          have hwy := HWY.out
          go_wp2
          go_roundw
          case rel => exact ⟨n + 1, r + 1, HK.out, by rw [HWR.out], by rw [HW.out], Lib.hid (by have := HRN.out; omega), Lib.hid (fun h => absurd h HYN.out), HB6, HC6, HY6⟩
          case measure => exact meas_up HCN.out HK.out
      · have hne : n = C.length := by omega
        subst hne
        have q : decide ((C.length : Int) < (C.length : Int)) = false := decide_eq_false (by omega)
        clear hlt hn
        have HR := Lib.hid (show 0 ≤ C.length from Nat.zero_le _)
        cases hw : wy with
        | nil =>
          have hr := HR0.out hw
          subst hr
          rw [hw] at HY
          clear hw
          go_wp2
          go_ret
          exact ⟨rfl, HB.out⟩
        | cons y0 ys0 =>
          rw [← hw]
          have HWN := Lib.hid (show 0 < wy.length by rw [hw]; simp)
          have HY0 := Lib.hid (show wy[0]? = some y0 by rw [hw]; rfl)
          have HTP := Lib.hid (HWH.out.way.top y0 (by rw [hw]; rfl))
          have z1 : ((wy.length : Int) == 0) = false := beq_eq_false_iff_ne.2 (by have := HWN.out; omega)
          clear hw HR0
          go_wp2
          clear z1
          go_loopw [7] (fun i wr => ∃ j : Nat, Hid (1 ≤ j) ∧ j ≤ wy.length ∧ i = .int .i64 j ∧ Hid (Below W.heap.size W wr) ∧ Hid (Kd.C kS wr A4 C.length C) ∧ Hid (Kd.C kS wr Ay wy.length wy)) (fun i _ => wy.length - (intOf i).toNat)
          case atStart => exact ⟨1, Lib.hid (Nat.le_refl _), HWN.out, rfl, HB, HC, HY⟩
          case round =>
            clear HB HC HY
            obtain ⟨j, HJ1, hj, rfl, HB, HC, HY⟩ := hrel
            have HYL := Lib.hid (show wy.length ≤ 1000000 by have := HWL.out; omega)
            by_cases hjl : j < wy.length
            · obtain ⟨u, hu⟩ : ∃ u, wy[j]? = some u := ⟨_, List.getElem?_eq_getElem hjl⟩
              obtain ⟨v, hv⟩ : ∃ v, wy[j - 1]? = some v := ⟨_, List.getElem?_eq_getElem (by omega)⟩
              have hst := (HWH.out.way.step (j - 1) (by have := HJ1.out; omega)).1
              have hpar : u.par = v.id := by
                obtain ⟨h1, rfl⟩ := List.getElem?_eq_some_iff.1 hu
                obtain ⟨h2, rfl⟩ := List.getElem?_eq_some_iff.1 hv
                have e : j - 1 + 1 = j := by have := HJ1.out; omega
                simpa only [e] using hst
              have qj : (j : Int) < (wy.length : Int) := by omega
              have qj2 : ((j - 1 : Nat) : Int) < (wy.length : Int) := by omega
              have HJK := Lib.hid (show j + 1 ≤ wy.length by omega)
              have HWJ := Lib.hid (show wrap64 ((j : Int) + 1) = ((j + 1 : Nat) : Int) by have := HYL.out; unfold wrap64; omega)
              have HWJ1 := Lib.hid (show wrap64 ((j : Int) - 1) = ((j - 1 : Nat) : Int) by have := HYL.out; have := HJ1.out; unfold wrap64; omega)
              have hyd := Kd.C_below HY.out (below_drew (Below.refl _ _))
              obtain ⟨ay, rfl, _, _, x2, _⟩ := at_S hyd hu
              obtain ⟨ad2, he2, _, y1, _⟩ := at_S hyd hv
              injection he2 with he2
              subst he2
              rw [hpar] at x2
              have hwj := HWJ1.out
              clear hu hv hst hpar hyd hjl hj
              go_upto_region 20 with (fail)
              refine start_ (n := 12) (S := fun w' => w'.cell? ⟨(ay.add (j * 11)).block, (ay.add (j * 11)).off + 2, none⟩ = some (.int .u64 v.id) ∧ w'.cell? ⟨(ay.add ((j - 1) * 11)).block, (ay.add ((j - 1) * 11)).off + 1, none⟩ = some (.int .u64 v.id)) (ds := []) #[false, false, false, false, false, false, false, false, false, false, false, false] (by kernel_rfl) rfl rfl ⟨x2, y1⟩ (fun hHeld => ?_)
              generalize hwe : wr.drew = w6 at x2 y1 hHeld ⊢
              have HB6 := Lib.hid (show Below W.heap.size W w6 by rw [← hwe]; exact below_drew HB.out)
              have HC6 := Lib.hid (show Kd.C kS w6 A4 C.length C by rw [← hwe]; exact Kd.C_below HC.out (below_drew (Below.refl _ _)))
              have HY6 := Lib.hid (show Kd.C kS w6 (some ay) wy.length wy by rw [← hwe]; exact Kd.C_below HY.out (below_drew (Below.refl _ _)))
              clear hwe x2 y1
              refine pure_ (i := 0) (N := some 70) (v := ?_) (a' := ?_) #[true, false, false, false, false, false, false, false, false, false, false, false] rfl rfl (by kernel_rfl) (fun _ _ _ h => h) (Or.inl ⟨by rfl, ?_⟩) ?_ ?_
              rotate_left
              · intro w'
                go_simp
                with_reducible rfl
              rotate_left
              · simp only [Act.put, List.setIfInBounds_toArray, List.set_cons_zero, List.set_cons_succ, i64_w, i32_w]
                rfl
              refine pure_ (i := 1) (N := some 71) (v := ?_) (a' := ?_) #[true, true, false, false, false, false, false, false, false, false, false, false] rfl rfl (by kernel_rfl) (fun _ _ _ h => h) (Or.inl ⟨by rfl, ?_⟩) ?_ ?_
              rotate_left
              · intro w'
                go_simp
                with_reducible rfl
              rotate_left
              · simp only [Act.put, List.setIfInBounds_toArray, List.set_cons_zero, List.set_cons_succ, i64_w, i32_w]
                rfl
              refine pure_ (i := 2) (N := some 72) (v := ?_) (a' := ?_) #[true, true, true, false, false, false, false, false, false, false, false, false] rfl rfl (by kernel_rfl) (fun _ _ _ h => h) (Or.inl ⟨by rfl, ?_⟩) ?_ ?_
              rotate_left
              · intro w'
                go_simp
                with_reducible rfl
              rotate_left
              · simp only [Act.put, List.setIfInBounds_toArray, List.set_cons_zero, List.set_cons_succ, i64_w, i32_w]
                rfl
              refine pure_ (i := 3) (N := some 73) (v := ?_) (a' := ?_) #[true, true, true, true, false, false, false, false, false, false, false, false] rfl rfl (by kernel_rfl) (fun _ _ _ h => h) (Or.inl ⟨by rfl, ?_⟩) ?_ ?_
              rotate_left
              · intro w'
                go_simp
                with_reducible rfl
              rotate_left
              · simp only [Act.put, List.setIfInBounds_toArray, List.set_cons_zero, List.set_cons_succ, i64_w, i32_w]
                rfl
              refine pure_ (i := 5) (N := some 75) (v := ?_) (a' := ?_) #[true, true, true, true, false, true, false, false, false, false, false, false] rfl rfl (by kernel_rfl) (fun _ _ _ h => h) (Or.inl ⟨by rfl, ?_⟩) ?_ ?_
              rotate_left
              · intro w'
                go_simp
                with_reducible rfl
              rotate_left
              · simp only [Act.put, List.setIfInBounds_toArray, List.set_cons_zero, List.set_cons_succ, i64_w, i32_w]
                rfl
              refine pure_ (i := 6) (N := some 76) (v := ?_) (a' := ?_) #[true, true, true, true, false, true, true, false, false, false, false, false] rfl rfl (by kernel_rfl) (fun _ _ _ h => h) (Or.inl ⟨by rfl, ?_⟩) ?_ ?_
              rotate_left
              · intro w'
                go_simp
                with_reducible rfl
              rotate_left
              · simp only [Act.put, List.setIfInBounds_toArray, List.set_cons_zero, List.set_cons_succ, i64_w, i32_w]
                rfl
              refine pure_ (i := 7) (N := some 77) (v := ?_) (a' := ?_) #[true, true, true, true, false, true, true, true, false, false, false, false] rfl rfl (by kernel_rfl) (fun _ _ _ h => h) (Or.inl ⟨by rfl, ?_⟩) ?_ ?_
              rotate_left
              · intro w'
                go_simp
                with_reducible rfl
              rotate_left
              · simp only [Act.put, List.setIfInBounds_toArray, List.set_cons_zero, List.set_cons_succ, i64_w, i32_w]
                rfl
              refine pure_ (i := 8) (N := some 78) (v := ?_) (a' := ?_) #[true, true, true, true, false, true, true, true, true, false, false, false] rfl rfl (by kernel_rfl) (fun _ _ _ h => h) (Or.inl ⟨by rfl, ?_⟩) ?_ ?_
              rotate_left
              · intro w'
                go_simp
                with_reducible rfl
              rotate_left
              · simp only [Act.put, List.setIfInBounds_toArray, List.set_cons_zero, List.set_cons_succ, i64_w, i32_w]
                rfl
              refine pure_ (i := 9) (N := some 79) (v := ?_) (a' := ?_) #[true, true, true, true, false, true, true, true, true, true, false, false] rfl rfl (by kernel_rfl) (fun _ _ _ h => h) (Or.inl ⟨by rfl, ?_⟩) ?_ ?_
              rotate_left
              · intro w'
                go_simp
                with_reducible rfl
              rotate_left
              · simp only [Act.put, List.setIfInBounds_toArray, List.set_cons_zero, List.set_cons_succ, i64_w, i32_w]
                rfl
              refine take_ (i := 4) (N := some 74) (v := ?_) (a' := ?_) #[true, true, true, true, true, true, true, true, true, true, false, false] rfl rfl (by kernel_rfl) (fun _ _ _ h => h) (Or.inl ⟨by rfl, ?_⟩) hHeld ?_ ?_
              rotate_left
              · rintro w' ⟨s0, s1⟩
                go_simp
                with_reducible rfl
              rotate_left
              · simp only [Act.put, List.setIfInBounds_toArray, List.set_cons_zero, List.set_cons_succ, i64_w, i32_w]
                rfl
              refine take_ (i := 10) (N := some 80) (v := ?_) (a' := ?_) #[true, true, true, true, true, true, true, true, true, true, true, false] rfl rfl (by kernel_rfl) (fun _ _ _ h => h) (Or.inl ⟨by rfl, ?_⟩) hHeld ?_ ?_
              rotate_left
              · rintro w' ⟨s0, s1⟩
                go_simp
                with_reducible rfl
              rotate_left
              · simp only [Act.put, List.setIfInBounds_toArray, List.set_cons_zero, List.set_cons_succ, i64_w, i32_w]
                rfl
              refine pure_ (i := 11) (N := some 81) (v := ?_) (a' := ?_) #[true, true, true, true, true, true, true, true, true, true, true, true] rfl rfl (by kernel_rfl) (fun _ _ _ h => h) (Or.inl ⟨by rfl, ?_⟩) ?_ ?_
              rotate_left
              · intro w'
                go_simp
                with_reducible rfl
              rotate_left
              · simp only [Act.put, List.setIfInBounds_toArray, List.set_cons_zero, List.set_cons_succ, i64_w, i32_w]
                rfl
              refine done_ (by kernel_rfl) ?_
              clear qj qj2 hwj
              go_wp2
              go_roundw
              case rel => exact ⟨j + 1, Lib.hid (by omega), HJK.out, by rw [HWJ.out], HB6, HC6, HY6⟩
              case measure => exact meas_up HYL.out HJK.out
            · have hje : j = wy.length := by omega
              subst hje
              have q : decide ((wy.length : Int) < (wy.length : Int)) = false := decide_eq_false (by omega)
              clear hjl hj
              obtain ⟨z, hz⟩ : ∃ z, wy[wy.length - 1]? = some z := ⟨_, List.getElem?_eq_getElem (by have := HWN.out; omega)⟩
              have hgl : wy.getLast? = some z := by rw [List.getLast?_eq_getElem?]; exact hz
              have HST := Lib.hid (HWH.out.stop z hgl)
              have HWL1 := Lib.hid (show wrap64 ((wy.length : Int) - 1) = ((wy.length - 1 : Nat) : Int) by have := HYL.out; have := HWN.out; unfold wrap64; omega)
              have qj2 : ((wy.length - 1 : Nat) : Int) < (wy.length : Int) := by have := HWN.out; omega
              obtain ⟨ay, rfl, x0, x1, x2, x3, x4, x5, x6, x7, x8, x9, x10⟩ := at_S HY.out hz
              have hwj := HWL1.out
              have hz := below_alloc (Below.refl wr.heap.size wr) (.cells (encS z).toArray 38)
              have HB3 := Lib.hid (below_step HB.out hz)
              have HC3 := Lib.hid (Kd.C_below HC.out hz)
              have HY3 := Lib.hid (Kd.C_below HY.out hz)
              have HZ3 := Lib.hid (heap_alloc_new wr (.cells (encS z).toArray 38))
              rw [arr_S] at HB3 HC3 HY3 HZ3
              clear hz hgl
              go_upto_region 23 with (fail)
              clear x0 x1 x2 x3 x4 x5 x6 x7 x8 x9 x10 q qj2 hwj
              generalize (wr.alloc (.cells #[.int .u64 z.tr, .int .u64 z.id, .int .u64 z.par, .string z.svc, .string z.op, .int .i64 z.st, .int .i64 z.du, .int .i64 z.stt, .slice z.a.1 z.a.2.1 z.a.2.2, .slice z.e.1 z.e.2.1 z.e.2.2, .slice z.l.1 z.l.2.1 z.l.2.2] 38)) = w3 at HB3 HC3 HY3 HZ3 ⊢
              generalize wr.heap.size = g at HZ3 ⊢
              clear HB HC HY
              go_wp2
              go_loopw [9] (fun i wr => ∃ n : Nat, n ≤ C.length ∧ i = .int .i64 n ∧ Hid (Below W.heap.size W wr) ∧ Hid (Kd.C kS wr A4 C.length C) ∧ Hid (Kd.C kS wr (some ay) wy.length wy) ∧ Hid (wr.heap[g]? = some (.cells (encS z).toArray 38 (0, 0)))) (fun i _ => C.length - (intOf i).toNat)
              case atStart => exact ⟨0, Nat.zero_le _, rfl, HB3, HC3, HY3, HZ3⟩
              case round =>
                clear HB3 HC3 HY3 HZ3
                obtain ⟨n, hn, rfl, HB, HC, HY, HZ⟩ := hrel
                by_cases hlt : n < C.length
                · obtain ⟨s, hs⟩ : ∃ s, C[n]? = some s := ⟨_, List.getElem?_eq_getElem hlt⟩
                  have HSC := Lib.hid (List.mem_of_getElem? hs)
                  have q : (n : Int) < (C.length : Int) := by omega
                  have HK := Lib.hid (show n + 1 ≤ C.length by omega)
                  have HW := Lib.hid (show wrap64 ((n : Int) + 1) = ((n + 1 : Nat) : Int) by have := HCN.out; unfold wrap64; omega)
                  have hod := Kd.C_below HC.out (below_drew (Below.refl _ _))
                  obtain ⟨ad, rfl, _, _, x2, _⟩ := at_S hod hs
                  have z1 : wr.drew.cell? ⟨g, 1, none⟩ = some (.int .u64 z.id) := (blk_cell (block_below HZ.out (below_drew (Below.refl _ _))) 1).trans rfl
                  by_cases he : s.par = z.id
                  · have hz0 : z.id = 0 := by
                      rcases HST.out with h | h
                      · exact h
                      · have : s ∈ kidsOf C z.id := kids_mem.2 ⟨HSC.out, he⟩
                        rw [h] at this
                        cases this
                    have e1 : (s.par == z.id) = true := beq_iff_eq.2 he
                    have e2 : (z.id == 0) = true := beq_iff_eq.2 hz0
                    clear hs hlt hn hod he hz0
                    go_upto_region 26 with (fail)
                    refine start_ (n := 13) (S := fun w' => w'.cell? ⟨(ad.add (n * 11)).block, (ad.add (n * 11)).off + 2, none⟩ = some (.int .u64 s.par) ∧ w'.cell? ⟨g, 1, none⟩ = some (.int .u64 z.id)) (ds := []) #[false, false, false, false, false, false, false, false, false, false, false, false, false] (by kernel_rfl) rfl rfl ⟨x2, z1⟩ (fun hHeld => ?_)
                    generalize hwe : wr.drew = w6 at x2 z1 hHeld ⊢
                    have HB6 := Lib.hid (show Below W.heap.size W w6 by rw [← hwe]; exact below_drew HB.out)
                    have HC6 := Lib.hid (show Kd.C kS w6 (some ad) C.length C by rw [← hwe]; exact Kd.C_below HC.out (below_drew (Below.refl _ _)))
                    have HY6 := Lib.hid (show Kd.C kS w6 (some ay) wy.length wy by rw [← hwe]; exact Kd.C_below HY.out (below_drew (Below.refl _ _)))
                    have HZ6 := Lib.hid (show w6.heap[g]? = some (.cells (encS z).toArray 38 (0, 0)) by rw [← hwe]; exact block_below HZ.out (below_drew (Below.refl _ _)))
                    clear hwe x2 z1
                    refine pure_ (i := 0) (N := some 94) (v := ?_) (a' := ?_) #[true, false, false, false, false, false, false, false, false, false, false, false, false] rfl rfl (by kernel_rfl) (fun _ _ _ h => h) (Or.inl ⟨by rfl, ?_⟩) ?_ ?_
                    rotate_left
                    · intro w'
                      go_simp
                      with_reducible rfl
                    rotate_left
                    · simp only [Act.put, List.setIfInBounds_toArray, List.set_cons_zero, List.set_cons_succ, i64_w, i32_w]
                      rfl
                    refine pure_ (i := 1) (N := some 95) (v := ?_) (a' := ?_) #[true, true, false, false, false, false, false, false, false, false, false, false, false] rfl rfl (by kernel_rfl) (fun _ _ _ h => h) (Or.inl ⟨by rfl, ?_⟩) ?_ ?_
                    rotate_left
                    · intro w'
                      go_simp
                      with_reducible rfl
                    rotate_left
                    · simp only [Act.put, List.setIfInBounds_toArray, List.set_cons_zero, List.set_cons_succ, i64_w, i32_w]
                      rfl
                    refine pure_ (i := 2) (N := some 96) (v := ?_) (a' := ?_) #[true, true, true, false, false, false, false, false, false, false, false, false, false] rfl rfl (by kernel_rfl) (fun _ _ _ h => h) (Or.inl ⟨by rfl, ?_⟩) ?_ ?_
                    rotate_left
                    · intro w'
                      go_simp
                      with_reducible rfl
                    rotate_left
                    · simp only [Act.put, List.setIfInBounds_toArray, List.set_cons_zero, List.set_cons_succ, i64_w, i32_w]
                      rfl
                    refine pure_ (i := 3) (N := some 97) (v := ?_) (a' := ?_) #[true, true, true, true, false, false, false, false, false, false, false, false, false] rfl rfl (by kernel_rfl) (fun _ _ _ h => h) (Or.inl ⟨by rfl, ?_⟩) ?_ ?_
                    rotate_left
                    · intro w'
                      go_simp
                      with_reducible rfl
                    rotate_left
                    · simp only [Act.put, List.setIfInBounds_toArray, List.set_cons_zero, List.set_cons_succ, i64_w, i32_w]
                      rfl
                    refine pure_ (i := 5) (N := some 99) (v := ?_) (a' := ?_) #[true, true, true, true, false, true, false, false, false, false, false, false, false] rfl rfl (by kernel_rfl) (fun _ _ _ h => h) (Or.inl ⟨by rfl, ?_⟩) ?_ ?_
                    rotate_left
                    · intro w'
                      go_simp
                      with_reducible rfl
                    rotate_left
                    · simp only [Act.put, List.setIfInBounds_toArray, List.set_cons_zero, List.set_cons_succ, i64_w, i32_w]
                      rfl
                    refine take_ (i := 4) (N := some 98) (v := ?_) (a' := ?_) #[true, true, true, true, true, true, false, false, false, false, false, false, false] rfl rfl (by kernel_rfl) (fun _ _ _ h => h) (Or.inl ⟨by rfl, ?_⟩) hHeld ?_ ?_
                    rotate_left
                    · rintro w' ⟨s0, s1⟩
                      go_simp
                      with_reducible rfl
                    rotate_left
                    · simp only [Act.put, List.setIfInBounds_toArray, List.set_cons_zero, List.set_cons_succ, i64_w, i32_w]
                      rfl
                    refine take_ (i := 6) (N := some 100) (v := ?_) (a' := ?_) #[true, true, true, true, true, true, true, false, false, false, false, false, false] rfl rfl (by kernel_rfl) (fun _ _ _ h => h) (Or.inl ⟨by rfl, ?_⟩) hHeld ?_ ?_
                    rotate_left
                    · rintro w' ⟨s0, s1⟩
                      go_simp
                      with_reducible rfl
                    rotate_left
                    · simp only [Act.put, List.setIfInBounds_toArray, List.set_cons_zero, List.set_cons_succ, i64_w, i32_w]
                      rfl
                    refine pure_ (i := 7) (N := some 101) (v := ?_) (a' := ?_) #[true, true, true, true, true, true, true, true, false, false, false, false, false] rfl rfl (by kernel_rfl) (fun _ _ _ h => h) (Or.inl ⟨by rfl, ?_⟩) ?_ ?_
                    rotate_left
                    · intro w'
                      go_simp
                      with_reducible rfl
                    rotate_left
                    · simp only [Act.put, List.setIfInBounds_toArray, List.set_cons_zero, List.set_cons_succ, i64_w, i32_w]
                      rfl
                    refine pure_ (i := 8) (N := some 102) (v := ?_) (a' := ?_) #[true, true, true, true, true, true, true, true, true, false, false, false, false] rfl rfl (by kernel_rfl) (fun _ _ _ h => h) (Or.inl ⟨by rfl, ?_⟩) ?_ ?_
                    rotate_left
                    · intro w'
                      go_simp
                      with_reducible rfl
                    rotate_left
                    · simp only [Act.put, List.setIfInBounds_toArray, List.set_cons_zero, List.set_cons_succ, i64_w, i32_w]
                      rfl
                    refine pure_ (i := 9) (N := some 103) (v := ?_) (a' := ?_) #[true, true, true, true, true, true, true, true, true, true, false, false, false] rfl rfl (by kernel_rfl) (fun _ _ _ h => h) (Or.inl ⟨by rfl, ?_⟩) ?_ ?_
                    rotate_left
                    · intro w'
                      go_simp
                      with_reducible rfl
                    rotate_left
                    · simp only [Act.put, List.setIfInBounds_toArray, List.set_cons_zero, List.set_cons_succ, i64_w, i32_w]
                      rfl
                    refine take_ (i := 10) (N := some 104) (v := ?_) (a' := ?_) #[true, true, true, true, true, true, true, true, true, true, true, false, false] rfl rfl (by kernel_rfl) (fun _ _ _ h => h) (Or.inl ⟨by rfl, ?_⟩) hHeld ?_ ?_
                    rotate_left
                    · rintro w' ⟨s0, s1⟩
                      go_simp
                      with_reducible rfl
                    rotate_left
                    · simp only [Act.put, List.setIfInBounds_toArray, List.set_cons_zero, List.set_cons_succ, i64_w, i32_w]
                      rfl
                    refine pure_ (i := 11) (N := some 105) (v := ?_) (a' := ?_) #[true, true, true, true, true, true, true, true, true, true, true, true, false] rfl rfl (by kernel_rfl) (fun _ _ _ h => h) (Or.inl ⟨by rfl, ?_⟩) ?_ ?_
                    rotate_left
                    · intro w'
                      go_simp
                      with_reducible rfl
                    rotate_left
                    · simp only [Act.put, List.setIfInBounds_toArray, List.set_cons_zero, List.set_cons_succ, i64_w, i32_w]
                      rfl
                    refine pure_ (i := 12) (N := some 106) (v := ?_) (a' := ?_) #[true, true, true, true, true, true, true, true, true, true, true, true, true] rfl rfl (by kernel_rfl) (fun _ _ _ h => h) (Or.inl ⟨by rfl, ?_⟩) ?_ ?_
                    rotate_left
                    · intro w'
                      go_simp
                      with_reducible rfl
                    rotate_left
                    · simp only [Act.put, List.setIfInBounds_toArray, List.set_cons_zero, List.set_cons_succ, i64_w, i32_w]
                      rfl
                    refine done_ (by kernel_rfl) ?_
                    clear q
                    go_wp2
                    go_roundw
                    case rel => exact ⟨n + 1, HK.out, by rw [HW.out], HB6, HC6, HY6, HZ6⟩
                    case measure => exact meas_up HCN.out HK.out
                  · have e1 : (s.par == z.id) = false := beq_eq_false_iff_ne.2 he
                    clear hs hlt hn hod he
                    go_upto_region 26 with (fail)
                    refine start_ (n := 13) (S := fun w' => w'.cell? ⟨(ad.add (n * 11)).block, (ad.add (n * 11)).off + 2, none⟩ = some (.int .u64 s.par) ∧ w'.cell? ⟨g, 1, none⟩ = some (.int .u64 z.id)) (ds := []) #[false, false, false, false, false, false, false, false, false, false, false, false, false] (by kernel_rfl) rfl rfl ⟨x2, z1⟩ (fun hHeld => ?_)
                    generalize hwe : wr.drew = w6 at x2 z1 hHeld ⊢
                    have HB6 := Lib.hid (show Below W.heap.size W w6 by rw [← hwe]; exact below_drew HB.out)
                    have HC6 := Lib.hid (show Kd.C kS w6 (some ad) C.length C by rw [← hwe]; exact Kd.C_below HC.out (below_drew (Below.refl _ _)))
                    have HY6 := Lib.hid (show Kd.C kS w6 (some ay) wy.length wy by rw [← hwe]; exact Kd.C_below HY.out (below_drew (Below.refl _ _)))
                    have HZ6 := Lib.hid (show w6.heap[g]? = some (.cells (encS z).toArray 38 (0, 0)) by rw [← hwe]; exact block_below HZ.out (below_drew (Below.refl _ _)))
                    clear hwe x2 z1
                    refine pure_ (i := 0) (N := some 94) (v := ?_) (a' := ?_) #[true, false, false, false, false, false, false, false, false, false, false, false, false] rfl rfl (by kernel_rfl) (fun _ _ _ h => h) (Or.inl ⟨by rfl, ?_⟩) ?_ ?_
                    rotate_left
                    · intro w'
                      go_simp
                      with_reducible rfl
                    rotate_left
                    · simp only [Act.put, List.setIfInBounds_toArray, List.set_cons_zero, List.set_cons_succ, i64_w, i32_w]
                      rfl
                    refine pure_ (i := 1) (N := some 95) (v := ?_) (a' := ?_) #[true, true, false, false, false, false, false, false, false, false, false, false, false] rfl rfl (by kernel_rfl) (fun _ _ _ h => h) (Or.inl ⟨by rfl, ?_⟩) ?_ ?_
                    rotate_left
                    · intro w'
                      go_simp
                      with_reducible rfl
                    rotate_left
                    · simp only [Act.put, List.setIfInBounds_toArray, List.set_cons_zero, List.set_cons_succ, i64_w, i32_w]
                      rfl
                    refine pure_ (i := 2) (N := some 96) (v := ?_) (a' := ?_) #[true, true, true, false, false, false, false, false, false, false, false, false, false] rfl rfl (by kernel_rfl) (fun _ _ _ h => h) (Or.inl ⟨by rfl, ?_⟩) ?_ ?_
                    rotate_left
                    · intro w'
                      go_simp
                      with_reducible rfl
                    rotate_left
                    · simp only [Act.put, List.setIfInBounds_toArray, List.set_cons_zero, List.set_cons_succ, i64_w, i32_w]
                      rfl
                    refine pure_ (i := 3) (N := some 97) (v := ?_) (a' := ?_) #[true, true, true, true, false, false, false, false, false, false, false, false, false] rfl rfl (by kernel_rfl) (fun _ _ _ h => h) (Or.inl ⟨by rfl, ?_⟩) ?_ ?_
                    rotate_left
                    · intro w'
                      go_simp
                      with_reducible rfl
                    rotate_left
                    · simp only [Act.put, List.setIfInBounds_toArray, List.set_cons_zero, List.set_cons_succ, i64_w, i32_w]
                      rfl
                    refine pure_ (i := 5) (N := some 99) (v := ?_) (a' := ?_) #[true, true, true, true, false, true, false, false, false, false, false, false, false] rfl rfl (by kernel_rfl) (fun _ _ _ h => h) (Or.inl ⟨by rfl, ?_⟩) ?_ ?_
                    rotate_left
                    · intro w'
                      go_simp
                      with_reducible rfl
                    rotate_left
                    · simp only [Act.put, List.setIfInBounds_toArray, List.set_cons_zero, List.set_cons_succ, i64_w, i32_w]
                      rfl
                    refine take_ (i := 4) (N := some 98) (v := ?_) (a' := ?_) #[true, true, true, true, true, true, false, false, false, false, false, false, false] rfl rfl (by kernel_rfl) (fun _ _ _ h => h) (Or.inl ⟨by rfl, ?_⟩) hHeld ?_ ?_
                    rotate_left
                    · rintro w' ⟨s0, s1⟩
                      go_simp
                      with_reducible rfl
                    rotate_left
                    · simp only [Act.put, List.setIfInBounds_toArray, List.set_cons_zero, List.set_cons_succ, i64_w, i32_w]
                      rfl
                    refine take_ (i := 6) (N := some 100) (v := ?_) (a' := ?_) #[true, true, true, true, true, true, true, false, false, false, false, false, false] rfl rfl (by kernel_rfl) (fun _ _ _ h => h) (Or.inl ⟨by rfl, ?_⟩) hHeld ?_ ?_
                    rotate_left
                    · rintro w' ⟨s0, s1⟩
                      go_simp
                      with_reducible rfl
                    rotate_left
                    · simp only [Act.put, List.setIfInBounds_toArray, List.set_cons_zero, List.set_cons_succ, i64_w, i32_w]
                      rfl
                    refine pure_ (i := 7) (N := some 101) (v := ?_) (a' := ?_) #[true, true, true, true, true, true, true, true, false, false, false, false, false] rfl rfl (by kernel_rfl) (fun _ _ _ h => h) (Or.inl ⟨by rfl, ?_⟩) ?_ ?_
                    rotate_left
                    · intro w'
                      go_simp
                      with_reducible rfl
                    rotate_left
                    · simp only [Act.put, List.setIfInBounds_toArray, List.set_cons_zero, List.set_cons_succ, i64_w, i32_w]
                      rfl
                    refine pure_ (i := 8) (N := some 102) (v := ?_) (a' := ?_) #[true, true, true, true, true, true, true, true, true, false, false, false, false] rfl rfl (by kernel_rfl) (fun _ _ _ h => h) (Or.inl ⟨by rfl, ?_⟩) ?_ ?_
                    rotate_left
                    · intro w'
                      go_simp
                      with_reducible rfl
                    rotate_left
                    · simp only [Act.put, List.setIfInBounds_toArray, List.set_cons_zero, List.set_cons_succ, i64_w, i32_w]
                      rfl
                    refine pure_ (i := 9) (N := some 103) (v := undef) (a' := ?_) #[true, true, true, true, true, true, true, true, true, true, false, false, false] rfl rfl (by kernel_rfl) (fun _ _ _ h => h) (Or.inr ⟨by rfl, rfl⟩) ?_ ?_
                    rotate_left
                    · simp only [Act.put, List.setIfInBounds_toArray, List.set_cons_zero, List.set_cons_succ, i64_w, i32_w]
                      rfl
                    refine pure_ (i := 10) (N := some 104) (v := undef) (a' := ?_) #[true, true, true, true, true, true, true, true, true, true, true, false, false] rfl rfl (by kernel_rfl) (fun _ _ _ h => h) (Or.inr ⟨by rfl, rfl⟩) ?_ ?_
                    rotate_left
                    · simp only [Act.put, List.setIfInBounds_toArray, List.set_cons_zero, List.set_cons_succ, i64_w, i32_w]
                      rfl
                    refine pure_ (i := 11) (N := some 105) (v := undef) (a' := ?_) #[true, true, true, true, true, true, true, true, true, true, true, true, false] rfl rfl (by kernel_rfl) (fun _ _ _ h => h) (Or.inr ⟨by rfl, rfl⟩) ?_ ?_
                    rotate_left
                    · simp only [Act.put, List.setIfInBounds_toArray, List.set_cons_zero, List.set_cons_succ, i64_w, i32_w]
                      rfl
                    refine pure_ (i := 12) (N := some 106) (v := ?_) (a' := ?_) #[true, true, true, true, true, true, true, true, true, true, true, true, true] rfl rfl (by kernel_rfl) (fun _ _ _ h => h) (Or.inl ⟨by rfl, ?_⟩) ?_ ?_
                    rotate_left
                    · intro w'
                      go_simp
                      with_reducible rfl
                    rotate_left
                    · simp only [Act.put, List.setIfInBounds_toArray, List.set_cons_zero, List.set_cons_succ, i64_w, i32_w]
                      rfl
                    refine done_ (by kernel_rfl) ?_
                    clear q
                    go_wp2
                    go_roundw
                    case rel => exact ⟨n + 1, HK.out, by rw [HW.out], HB6, HC6, HY6, HZ6⟩
                    case measure => exact meas_up HCN.out HK.out
                · have hne : n = C.length := by omega
                  subst hne
                  have q : decide ((C.length : Int) < (C.length : Int)) = false := decide_eq_false (by omega)
                  clear hlt hn
                  have hyd := Kd.C_below HY.out (below_drew (Below.refl _ _))
                  obtain ⟨ad2, he2, x0, x1, x2, x3, x4, x5, x6, x7, x8, x9, x10⟩ := at_S hyd HY0.out
                  injection he2 with he2
                  subst he2
                  rw [Nat.zero_mul, addr_add0] at x0 x1 x2 x3 x4 x5 x6 x7 x8 x9 x10
                  have kc1 := cut_to (P := Try.prog) 22 38 .i64 Try.underlying22 HINF.out (some ay) wy.length cy (1 : Int) (by omega) (by have := HWN.out; omega) HYC.out
                  rw [show (1 : Int).toNat = 1 from rfl] at kc1
                  have z2 : (0 : Int) < (wy.length : Int) := by have := HWN.out; omega
                  have z3 : 0 < wy.length := HWN.out
                  clear hyd
                  go_upto_region 28 with (fail)
                  refine start_ (n := 15) (S := fun w' => w'.cell? ay = some (.int .u64 y0.tr) ∧ w'.cell? ⟨ay.block, ay.off + 1, none⟩ = some (.int .u64 y0.id) ∧ w'.cell? ⟨ay.block, ay.off + 2, none⟩ = some (.int .u64 y0.par) ∧ w'.cell? ⟨ay.block, ay.off + 3, none⟩ = some (.string y0.svc) ∧ w'.cell? ⟨ay.block, ay.off + 4, none⟩ = some (.string y0.op) ∧ w'.cell? ⟨ay.block, ay.off + 5, none⟩ = some (.int .i64 y0.st) ∧ w'.cell? ⟨ay.block, ay.off + 6, none⟩ = some (.int .i64 y0.du) ∧ w'.cell? ⟨ay.block, ay.off + 7, none⟩ = some (.int .i64 y0.stt) ∧ w'.cell? ⟨ay.block, ay.off + 8, none⟩ = some (.slice y0.a.1 y0.a.2.1 y0.a.2.2) ∧ w'.cell? ⟨ay.block, ay.off + 9, none⟩ = some (.slice y0.e.1 y0.e.2.1 y0.e.2.2) ∧ w'.cell? ⟨ay.block, ay.off + 10, none⟩ = some (.slice y0.l.1 y0.l.2.1 y0.l.2.2)) (ds := []) #[false, false, false, false, false, false, false, false, false, false, false, false, false, false, false] (by kernel_rfl) rfl rfl ⟨x0, x1, x2, x3, x4, x5, x6, x7, x8, x9, x10⟩ (fun hHeld => ?_)
                  generalize hwe : wr.drew = w6 at x0 x1 x2 x3 x4 x5 x6 x7 x8 x9 x10 hHeld ⊢
                  have HB6 := Lib.hid (show Below W.heap.size W w6 by rw [← hwe]; exact below_drew HB.out)
                  have HC6 := Lib.hid (show Kd.C kS w6 A4 C.length C by rw [← hwe]; exact Kd.C_below HC.out (below_drew (Below.refl _ _)))
                  have HY6 := Lib.hid (show Kd.C kS w6 (some ay) wy.length wy by rw [← hwe]; exact Kd.C_below HY.out (below_drew (Below.refl _ _)))
                  clear hwe x0 x1 x2 x3 x4 x5 x6 x7 x8 x9 x10
                  refine pure_ (i := 0) (N := some 107) (v := ?_) (a' := ?_) #[true, false, false, false, false, false, false, false, false, false, false, false, false, false, false] rfl rfl (by kernel_rfl) (fun _ _ _ h => h) (Or.inl ⟨by rfl, ?_⟩) ?_ ?_
                  rotate_left
                  · intro w'
                    go_simp
                    with_reducible rfl
                  rotate_left
                  · simp only [Act.put, List.setIfInBounds_toArray, List.set_cons_zero, List.set_cons_succ, i64_w, i32_w]
                    rfl
                  refine pure_ (i := 1) (N := some 108) (v := ?_) (a' := ?_) #[true, true, false, false, false, false, false, false, false, false, false, false, false, false, false] rfl rfl (by kernel_rfl) (fun _ _ _ h => h) (Or.inl ⟨by rfl, ?_⟩) ?_ ?_
                  rotate_left
                  · intro w'
                    go_simp
                    with_reducible rfl
                  rotate_left
                  · simp only [Act.put, List.setIfInBounds_toArray, List.set_cons_zero, List.set_cons_succ, i64_w, i32_w]
                    rfl
                  refine pure_ (i := 2) (N := some 109) (v := ?_) (a' := ?_) #[true, true, true, false, false, false, false, false, false, false, false, false, false, false, false] rfl rfl (by kernel_rfl) (fun _ _ _ h => h) (Or.inl ⟨by rfl, ?_⟩) ?_ ?_
                  rotate_left
                  · intro w'
                    go_simp
                    with_reducible rfl
                  rotate_left
                  · simp only [Act.put, List.setIfInBounds_toArray, List.set_cons_zero, List.set_cons_succ, i64_w, i32_w]
                    rfl
                  refine take_ (i := 3) (N := some 110) (v := ?_) (a' := ?_) #[true, true, true, true, false, false, false, false, false, false, false, false, false, false, false] rfl rfl (by kernel_rfl) (fun _ _ _ h => h) (Or.inl ⟨by rfl, ?_⟩) hHeld ?_ ?_
                  rotate_left
                  · rintro w' ⟨s0, s1, s2, s3, s4, s5, s6, s7, s8, s9, s10⟩
                    go_simp
                    with_reducible rfl
                  rotate_left
                  · simp only [Act.put, List.setIfInBounds_toArray, List.set_cons_zero, List.set_cons_succ, i64_w, i32_w]
                    rfl
                  refine one_ (i := 4) (N := some 111) #[true, true, true, true, true, false, false, false, false, false, false, false, false, false, false] rfl rfl (by kernel_rfl) (by decide) (fun K hK => ?_)
                  have hrt := root26_calls A4 c4 C y0 w6 HC6.out HCN.out
                  rw [arr_S, HTP.out] at hrt
                  refine goes_ Try.func18 (by kernel_rfl) rfl #[.slice A4 C.length c4, .agg #[.int .u64 y0.tr, .int .u64 y0.id, .int .u64 y0.par, .string y0.svc, .string y0.op, .int .i64 y0.st, .int .i64 y0.du, .int .i64 y0.stt, .slice y0.a.1 y0.a.2.1 y0.a.2.2, .slice y0.e.1 y0.e.2.1 y0.e.2.2, .slice y0.l.1 y0.l.2.1 y0.l.2.2]] (by rfl) rfl rfl (by simp only [List.map_toArray, List.map_cons, List.map_nil]; rfl) ?_
                  with_reducible refine (hrt).mono ?_
                  rintro ee w7 ⟨rfl, hb7⟩
                  refine ⟨_, rfl, ?_⟩
                  have HB7 := Lib.hid (below_step HB6.out hb7)
                  have HY7 := Lib.hid (Kd.C_below HY6.out hb7)
                  clear hrt hb7
                  obtain ⟨ad2, he2, x0, x1, x2, x3, x4, x5, x6, x7, x8, x9, x10⟩ := at_S HY7.out HY0.out
                  injection he2 with he2
                  subst he2
                  rw [Nat.zero_mul, addr_add0] at x0 x1 x2 x3 x4 x5 x6 x7 x8 x9 x10
                  refine hK.out _ _ ⟨x0, x1, x2, x3, x4, x5, x6, x7, x8, x9, x10⟩ (fun hHeld => ?_)
                  clear hK K
                  refine norm_ (a' := ?_) ?_ ?_
                  rotate_left
                  · show Act.put _ (some 111) _ = _
                    simp only [Act.put, List.setIfInBounds_toArray, List.set_cons_zero, List.set_cons_succ, i64_w, i32_w]
                    rfl
                  refine pure_ (i := 5) (N := some 112) (v := ?_) (a' := ?_) #[true, true, true, true, true, true, false, false, false, false, false, false, false, false, false] rfl rfl (by kernel_rfl) (fun _ _ _ h => h) (Or.inl ⟨by rfl, ?_⟩) ?_ ?_
                  rotate_left
                  · intro w'
                    go_simp
                    with_reducible rfl
                  rotate_left
                  · simp only [Act.put, List.setIfInBounds_toArray, List.set_cons_zero, List.set_cons_succ, i64_w, i32_w]
                    rfl
                  refine pure_ (i := 6) (N := some 113) (v := ?_) (a' := ?_) #[true, true, true, true, true, true, true, false, false, false, false, false, false, false, false] rfl rfl (by kernel_rfl) (fun _ _ _ h => h) (Or.inl ⟨by rfl, ?_⟩) ?_ ?_
                  rotate_left
                  · intro w'
                    go_simp
                    with_reducible rfl
                  rotate_left
                  · simp only [Act.put, List.setIfInBounds_toArray, List.set_cons_zero, List.set_cons_succ, i64_w, i32_w]
                    rfl
                  refine pure_ (i := 7) (N := some 114) (v := ?_) (a' := ?_) #[true, true, true, true, true, true, true, true, false, false, false, false, false, false, false] rfl rfl (by kernel_rfl) (fun _ _ _ h => h) (Or.inl ⟨by rfl, ?_⟩) ?_ ?_
                  rotate_left
                  · intro w'
                    go_simp
                    with_reducible rfl
                  rotate_left
                  · simp only [Act.put, List.setIfInBounds_toArray, List.set_cons_zero, List.set_cons_succ, i64_w, i32_w]
                    rfl
                  refine pure_ (i := 8) (N := some 115) (v := ?_) (a' := ?_) #[true, true, true, true, true, true, true, true, true, false, false, false, false, false, false] rfl rfl (by kernel_rfl) (fun _ _ _ h => h) (Or.inl ⟨by rfl, ?_⟩) ?_ ?_
                  rotate_left
                  · intro w'
                    go_simp
                    with_reducible rfl
                  rotate_left
                  · simp only [Act.put, List.setIfInBounds_toArray, List.set_cons_zero, List.set_cons_succ, i64_w, i32_w]
                    rfl
                  refine pure_ (i := 9) (N := some 116) (v := ?_) (a' := ?_) #[true, true, true, true, true, true, true, true, true, true, false, false, false, false, false] rfl rfl (by kernel_rfl) (fun _ _ _ h => h) (Or.inl ⟨by rfl, ?_⟩) ?_ ?_
                  rotate_left
                  · intro w'
                    go_simp
                    with_reducible rfl
                  rotate_left
                  · simp only [Act.put, List.setIfInBounds_toArray, List.set_cons_zero, List.set_cons_succ, i64_w, i32_w]
                    rfl
                  refine take_ (i := 10) (N := some 117) (v := ?_) (a' := ?_) #[true, true, true, true, true, true, true, true, true, true, true, false, false, false, false] rfl rfl (by kernel_rfl) (fun _ _ _ h => h) (Or.inl ⟨by rfl, ?_⟩) hHeld ?_ ?_
                  rotate_left
                  · rintro w' ⟨s0, s1, s2, s3, s4, s5, s6, s7, s8, s9, s10⟩
                    go_simp
                    with_reducible rfl
                  rotate_left
                  · simp only [Act.put, List.setIfInBounds_toArray, List.set_cons_zero, List.set_cons_succ, i64_w, i32_w]
                    rfl
                  refine one_ (i := 11) (N := some 118) #[true, true, true, true, true, true, true, true, true, true, true, true, false, false, false] rfl rfl (by kernel_rfl) (by decide) (fun K hK => ?_)
                  refine Kd.R_lit_step kS (w0 := w7) W.heap.size 38 ?hg (N := 118) ?hd (xs := [y0]) (inner := encS y0) (ok := fun _ => True) (okp := fun _ => True) ?hr ?hp (fun _ hk => hk) trivial (Below.refl _ _) HB7.out.size (by simp) ?_; (case hd => rfl); (case hg => rfl); (case hr => first | (go_simp; done) | (go_simp; rfl)); (case hp => exact reps_S _ _ _ _)
                  intro v8 w8 ho hb hg_ hnew_
                  have hbl : Below w7.heap.size w7 w8 := Below.grown (Below.refl _ _) hg_ (Nat.le_refl _) (fun _ h => by cases h)
                  obtain ⟨A8, c8, rfl⟩ := Kd.R_slice ho
                  rw [show [y0].length = 1 from rfl] at ho ⊢
                  have HV8 := Lib.hid ho
                  have HB8 := Lib.hid (below_step HB7.out hbl)
                  have HY8 := Lib.hid (Kd.C_below HY7.out hbl)
                  clear ho hb hg_ hnew_ hbl
                  obtain ⟨ad2, he2, x0, x1, x2, x3, x4, x5, x6, x7, x8, x9, x10⟩ := at_S HY8.out HY0.out
                  injection he2 with he2
                  subst he2
                  rw [Nat.zero_mul, addr_add0] at x0 x1 x2 x3 x4 x5 x6 x7 x8 x9 x10
                  refine hK.out _ _ ⟨x0, x1, x2, x3, x4, x5, x6, x7, x8, x9, x10⟩ (fun hHeld => ?_)
                  clear hK K
                  refine norm_ (a' := ?_) ?_ ?_
                  rotate_left
                  · show Act.put _ (some 118) _ = _
                    simp only [Act.put, List.setIfInBounds_toArray, List.set_cons_zero, List.set_cons_succ, i64_w, i32_w]
                    rfl
                  refine one_ (i := 12) (N := some 119) #[true, true, true, true, true, true, true, true, true, true, true, true, true, false, false] rfl rfl (by kernel_rfl) (by decide) (fun K hK => ?_)
                  have hIs : ∀ s ∈ [y0], Is w8 s (fs s) := fun s hs => by rw [List.mem_singleton.1 hs]; exact (HF0.out y0 (HCM.out y0 (HWH.out.way.mem y0 (List.mem_of_getElem? HY0.out)))).below HB8.out
                  have hk1 := kind_of fs (by have h := Kd.C_take (m := 1) HY8.out HWN.out; rw [show wy.take 1 = [y0] from by cases hwy : wy with | nil => have h2 := HY0.out; rw [hwy] at h2; cases h2 | cons q qs => have h2 := HY0.out; rw [hwy] at h2; injection h2 with h2; rw [h2]; rfl] at h; exact h) hIs
                  have hk2 := kind_of fs (Kd.R_reads' HV8.out).2.2 hIs
                  obtain ⟨K, hK⟩ := spans_all (by simp) hIs
                  have hsc := cambiumref16_Spans.calls K (some ay) cy ([y0].map fs) A8 c8 ([y0].map fs) true w8 hk1 (by have h1 := HWN.out; have h2 := HYC.out; simp; omega) hk2 (by have h := (Kd.R_reads' HV8.out).2.1; simpa using h) hK
                  rw [show ([y0].map fs).length = 1 from rfl] at hsc
                  refine goes_ Try.func14 (by kernel_rfl) rfl #[.slice (some ay) 1 cy, .slice A8 1 c8] (by rfl) rfl rfl (by simp only [List.map_toArray, List.map_cons, List.map_nil]; rfl) ?_
                  with_reducible refine (hsc).mono ?_
                  rintro ee w9 ⟨rfl, hb9⟩
                  refine ⟨_, rfl, ?_⟩
                  have HB9 := Lib.hid (below_step HB8.out hb9)
                  have HY9 := Lib.hid (Kd.C_below HY8.out hb9)
                  clear hIs hk1 hk2 hK hsc hb9
                  obtain ⟨ad2, he2, x0, x1, x2, x3, x4, x5, x6, x7, x8, x9, x10⟩ := at_S HY9.out HY0.out
                  injection he2 with he2
                  subst he2
                  rw [Nat.zero_mul, addr_add0] at x0 x1 x2 x3 x4 x5 x6 x7 x8 x9 x10
                  refine hK.out _ _ ⟨x0, x1, x2, x3, x4, x5, x6, x7, x8, x9, x10⟩ (fun hHeld => ?_)
                  clear hK K
                  refine norm_ (a' := ?_) ?_ ?_
                  rotate_left
                  · show Act.put _ (some 119) _ = _
                    simp only [Act.put, List.setIfInBounds_toArray, List.set_cons_zero, List.set_cons_succ, i64_w, i32_w]
                    rfl
                  refine pure_ (i := 13) (N := some 120) (v := ?_) (a' := ?_) #[true, true, true, true, true, true, true, true, true, true, true, true, true, true, false] rfl rfl (by kernel_rfl) (fun _ _ _ h => h) (Or.inl ⟨by rfl, ?_⟩) ?_ ?_
                  rotate_left
                  · intro w'
                    go_simp
                    with_reducible rfl
                  rotate_left
                  · simp only [Act.put, List.setIfInBounds_toArray, List.set_cons_zero, List.set_cons_succ, i64_w, i32_w]
                    rfl
                  refine pure_ (i := 14) (N := some 2) (v := ?_) (a' := ?_) #[true, true, true, true, true, true, true, true, true, true, true, true, true, true, true] rfl rfl (by kernel_rfl) (fun _ _ _ h => h) (Or.inl ⟨by rfl, ?_⟩) ?_ ?_
                  rotate_left
                  · intro w'
                    go_simp
                    with_reducible rfl
                  rotate_left
                  · simp only [Act.put, List.setIfInBounds_toArray, List.set_cons_zero, List.set_cons_succ, i64_w, i32_w]
                    rfl
                  refine done_ (by kernel_rfl) ?_
                  go_wp2
                  go_ret
                  exact ⟨rfl, HB9.out⟩

end Go.Proofs.Ytoigebnhnkdbbaa.Walk
