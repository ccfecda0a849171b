/- ref26.Assemble (chapter 26), by hand. -/
import Derived.Test.YtoigebnhnkdbbaaTrBelow2
namespace Go.Proofs.Ytoigebnhnkdbbaa.Tr
open Go.RowKit Go.Proofs.YtoigebnhnkdbbaaW.PrintWords Go.Proofs.YtoigebnhnkdbbaaW.PrintLast Go.Proofs.YtoigebnhnkdbbaaW.PrintMore Go.Proofs.Ytoigebnhnkdbbaa.Math Go.Proofs.Ytoigebnhnkdbbaa.PAll
set_option linter.unusedVariables false
set_option linter.unusedSimpArgs false
theorem arr_L2 (s : Sp) (d : Int) (o : Bool) : (encL ⟨s, d, o⟩).toArray = #[.int .u64 s.tr, .int .u64 s.id, .int .u64 s.par, .string s.svc, .string s.op, .int .i64 s.st, .int .i64 s.du, .int .i64 s.stt, .slice s.a.1 s.a.2.1 s.a.2.2, .slice s.e.1 s.e.2.1 s.e.2.2, .slice s.l.1 s.l.2.1 s.l.2.2, .int .i64 d, .bool o] := rfl
theorem tell_sum {C : List Sp} (hC : Dis C) {s : Sp} (d : Int) (o : Bool) {out : List Ln} (hs : s ∈ C) (h : out.length + left C out = C.length) : (tell C s d o out).length + left C (tell C s d o out) = C.length := tellF_sum hC _ s d o out hs h
theorem bel_step {w w1 wr : World} {N : Nat} (h0 : Below w.heap.size w w1) (hN : w.heap.size ≤ N) (h : Below N w1 wr) : Below w.heap.size w wr :=
  ⟨h.os.trans h0.os, h.tape.trans h0.tape, h.output.trans h0.output, Nat.le_trans h0.size h.size, fun k hk => (h.block k (by omega)).trans (h0.block k hk)⟩

set_option maxHeartbeats 8000000 in
set_option maxRecDepth 100000 in
theorem assemble26_calls (A : Option Addr) (c : Nat) (l : List Sp) (w : World) (hr : Kd.C kS w A l.length l) (hl : l.length ≤ c) (hn : l.length ≤ 1000) :
    Calls Try.prog 11 #[.slice A l.length c] w fun e w' => ∃ v, e = .returned v ∧ Kd.R kL 40 w' w.heap.size (fun _ => True) v (asm (cnt l)) ∧ Below w.heap.size w w' := by
  have hcc := counted_calls A c l w hr hl (by omega)
  have hD := cnt_dis l
  have hcl : (cnt l).length ≤ 1000 := Nat.le_trans (cnt_len l) hn
  obtain ⟨C, hC⟩ : ∃ C, cnt l = C := ⟨_, rfl⟩
  rw [hC] at hcc hD hcl ⊢
  have HCC := Lib.hid hcc
  have HD := Lib.hid hD
  have HCN := Lib.hid hcl
  clear hcc hD hcl hC hr hl hn
  go_enter Try.func11, Try.ntmps11
  go_wp2_with fail
  refine HCC.out.mono ?_
  rintro e w1 ⟨v, rfl, hr1, hb1⟩
  obtain ⟨Av, cv, rfl⟩ := Kd.R_slice hr1
  have HB1 := Lib.hid hb1
  have HLR := Lib.hid (show Kd.R kS 38 w1 w.heap.size (fun k => k < w1.heap.size) (.slice Av C.length cv) C from Kd.R_mono (Kd.R_bound hr1) (fun k hk => hk.2.2.1))
  obtain ⟨N, hN⟩ : ∃ N, w1.heap.size = N := ⟨_, rfl⟩
  rw [hN] at HLR
  have HN := Lib.hid (show w.heap.size ≤ N by rw [← hN]; exact hb1.size)
  have HN1 := Lib.hid hN
  clear hr1 hb1 HCC hN
  go_wp2
  go_loopw [4, 5] (fun v4 i wr => ∃ (k : Nat) (Ao : Option Addr) (co : Nat) (out : List Ln), k ≤ C.length ∧ v4 = .slice Ao out.length co ∧ i = .int .i64 k ∧ Hid (out = (C.take k).foldl (fun o s => if rootB C s = true then tell C s 0 (s.par != 0) o else o) []) ∧ Hid (out.length + left C out = C.length) ∧ Hid (Kd.R kL 40 wr N (fun _ => True) (.slice Ao out.length co) out) ∧ Hid (Below N w1 wr)) (fun _ i _ => C.length - (intOf i).toNat)
  case atStart => exact ⟨0, none, 0, [], Nat.zero_le _, rfl, rfl, Lib.hid rfl, Lib.hid (by simp [left, toldId]), Lib.hid (Kd.R_nil _ _ _ _ _), Lib.hid (by rw [← HN1.out]; exact Below.refl _ _)⟩
  case round =>
    obtain ⟨k, Ao, co, out, hk, rfl, rfl, HOE, HSUM, HO, HB⟩ := hrel
    have HCM := Lib.hid (show C.length ≤ 1000000 by have := HCN.out; omega)
    by_cases hlt : k < C.length
    · obtain ⟨s, hs⟩ : ∃ s, C[k]? = some s := ⟨_, List.getElem?_eq_getElem hlt⟩
      have HGS := Lib.hid hs
      have HSC := Lib.hid (List.mem_of_getElem? hs)
      have HTk := Lib.hid (show (C.take (k + 1)).foldl (fun o s => if rootB C s = true then tell C s 0 (s.par != 0) o else o) [] = if rootB C s = true then tell C s 0 (s.par != 0) out else out by
        obtain ⟨hk2, e⟩ := List.getElem?_eq_some_iff.1 hs
        rw [List.take_succ_eq_append_getElem hk2, e, List.foldl_append, ← HOE.out]
        rfl)
      have q : (k : Int) < (C.length : Int) := by omega
      have HK := Lib.hid (show k + 1 ≤ C.length by omega)
      have HW := Lib.hid (show wrap64 ((k : Int) + 1) = ((k + 1 : Nat) : Int) by have := HCM.out; unfold wrap64; omega)
      have hlr := (Kd.R_reads' (R_range HLR.out (fun k _ hk => HB.out.block k hk))).2.2
      obtain ⟨ad, rfl, g0, g1, g2, g3, g4, g5, g6, g7, g8, g9, g10⟩ := at_S hlr hs
      have hrt := root26_calls (some ad) cv C s wr hlr HCM.out
      rw [arr_S] at hrt
      have HRT := Lib.hid hrt
      clear hs hlt hk hlr hrt
      go_wp2_with fail
      refine HRT.out.mono ?_
      rintro e w5 ⟨rfl, hb5⟩
      have HO5 := Lib.hid (Kd.R_below HO.out hb5)
      have HB5 := Lib.hid (show Below N w1 w5 from HB.out.trans ⟨hb5.os, hb5.tape, hb5.output, hb5.size, fun k hk => hb5.block k (by have h1 := HB.out.size; have h2 := HN1.out; omega)⟩)
      clear hb5 HRT HO HB g0 g1 g2 g3 g4 g5 g6 g7 g8 g9 g10
      cases hrb : rootB C s with
      | false =>
        have HE := Lib.hid (show out = (C.take (k + 1)).foldl (fun o s => if rootB C s = true then tell C s 0 (s.par != 0) o else o) [] by rw [HTk.out, hrb]; rfl)
        clear hrb
        go_wp2
        go_roundw
        case rel => exact ⟨k + 1, Ao, co, out, HK.out, rfl, by rw [HW.out], HE, HSUM, HO5, HB5⟩
        case measure => exact meas_up HCM.out HK.out
      | true =>
        have HE := Lib.hid (show tell C s 0 (s.par != 0) out = (C.take (k + 1)).foldl (fun o s => if rootB C s = true then tell C s 0 (s.par != 0) o else o) [] by rw [HTk.out, if_pos hrb])
        have HS2 := Lib.hid (tell_sum HD.out 0 (s.par != 0) HSC.out HSUM.out)
        have hlr := Kd.R_below (R_range HLR.out (fun k _ hk => HB5.out.block k hk)) (below_drew (Below.refl _ _))
        obtain ⟨ad2, he2, g0, g1, g2, g3, g4, g5, g6, g7, g8, g9, g10⟩ := at_S (Kd.R_reads' hlr).2.2 HGS.out
        injection he2 with he2
        subst he2
        clear hrb
        go_upto_region 7 with (fail)
        refine start_ (n := 15) (S := fun w' => w'.cell? (ad.add (k * 11)) = some (.int .u64 s.tr) ∧ w'.cell? ⟨(ad.add (k * 11)).block, (ad.add (k * 11)).off + 1, none⟩ = some (.int .u64 s.id) ∧ w'.cell? ⟨(ad.add (k * 11)).block, (ad.add (k * 11)).off + 2, none⟩ = some (.int .u64 s.par) ∧ w'.cell? ⟨(ad.add (k * 11)).block, (ad.add (k * 11)).off + 3, none⟩ = some (.string s.svc) ∧ w'.cell? ⟨(ad.add (k * 11)).block, (ad.add (k * 11)).off + 4, none⟩ = some (.string s.op) ∧ w'.cell? ⟨(ad.add (k * 11)).block, (ad.add (k * 11)).off + 5, none⟩ = some (.int .i64 s.st) ∧ w'.cell? ⟨(ad.add (k * 11)).block, (ad.add (k * 11)).off + 6, none⟩ = some (.int .i64 s.du) ∧ w'.cell? ⟨(ad.add (k * 11)).block, (ad.add (k * 11)).off + 7, none⟩ = some (.int .i64 s.stt) ∧ w'.cell? ⟨(ad.add (k * 11)).block, (ad.add (k * 11)).off + 8, none⟩ = some (.slice s.a.1 s.a.2.1 s.a.2.2) ∧ w'.cell? ⟨(ad.add (k * 11)).block, (ad.add (k * 11)).off + 9, none⟩ = some (.slice s.e.1 s.e.2.1 s.e.2.2) ∧ w'.cell? ⟨(ad.add (k * 11)).block, (ad.add (k * 11)).off + 10, none⟩ = some (.slice s.l.1 s.l.2.1 s.l.2.2)) (ds := []) #[false, false, false, false, false, false, false, false, false, false, false, false, false, false, false] (by kernel_rfl) rfl rfl ⟨g0, g1, g2, g3, g4, g5, g6, g7, g8, g9, g10⟩ (fun hHeld => ?_)
        generalize hwe : w5.drew = w6 at g0 g1 g2 g3 g4 g5 g6 g7 g8 g9 g10 hlr hHeld ⊢
        have HB6 := Lib.hid (show Below N w1 w6 by rw [← hwe]; exact below_drew HB5.out)
        have HO6 := Lib.hid (show Kd.R kL 40 w6 N (fun _ => True) (.slice Ao out.length co) out by rw [← hwe]; exact Kd.R_drew HO5.out)
        have HL6 := Lib.hid hlr
        clear hwe hlr g0 g1 g2 g3 g4 g5 g6 g7 g8 g9 g10
        refine pure_ (i := 0) (N := some 21) (v := ?_) (a' := ?_) #[true, false, false, false, false, false, false, false, false, false, false, false, false, false, false] rfl rfl (by kernel_rfl) (fun _ _ _ h => h) (Or.inl ⟨by rfl, ?_⟩) ?_ ?_
        rotate_left
        · intro w'
          go_simp
          with_reducible rfl
        rotate_left
        · simp only [Act.put, List.setIfInBounds_toArray, List.set_cons_zero, List.set_cons_succ, i64_w, i32_w]
          rfl
        refine pure_ (i := 1) (N := some 22) (v := ?_) (a' := ?_) #[true, true, false, false, false, false, false, false, false, false, false, false, false, false, false] rfl rfl (by kernel_rfl) (fun _ _ _ h => h) (Or.inl ⟨by rfl, ?_⟩) ?_ ?_
        rotate_left
        · intro w'
          go_simp
          with_reducible rfl
        rotate_left
        · simp only [Act.put, List.setIfInBounds_toArray, List.set_cons_zero, List.set_cons_succ, i64_w, i32_w]
          rfl
        refine pure_ (i := 2) (N := some 23) (v := ?_) (a' := ?_) #[true, true, true, false, false, false, false, false, false, false, false, false, false, false, false] rfl rfl (by kernel_rfl) (fun _ _ _ h => h) (Or.inl ⟨by rfl, ?_⟩) ?_ ?_
        rotate_left
        · intro w'
          go_simp
          with_reducible rfl
        rotate_left
        · simp only [Act.put, List.setIfInBounds_toArray, List.set_cons_zero, List.set_cons_succ, i64_w, i32_w]
          rfl
        refine pure_ (i := 3) (N := some 24) (v := ?_) (a' := ?_) #[true, true, true, true, false, false, false, false, false, false, false, false, false, false, false] rfl rfl (by kernel_rfl) (fun _ _ _ h => h) (Or.inl ⟨by rfl, ?_⟩) ?_ ?_
        rotate_left
        · intro w'
          go_simp
          with_reducible rfl
        rotate_left
        · simp only [Act.put, List.setIfInBounds_toArray, List.set_cons_zero, List.set_cons_succ, i64_w, i32_w]
          rfl
        refine pure_ (i := 4) (N := some 25) (v := ?_) (a' := ?_) #[true, true, true, true, true, false, false, false, false, false, false, false, false, false, false] rfl rfl (by kernel_rfl) (fun _ _ _ h => h) (Or.inl ⟨by rfl, ?_⟩) ?_ ?_
        rotate_left
        · intro w'
          go_simp
          with_reducible rfl
        rotate_left
        · simp only [Act.put, List.setIfInBounds_toArray, List.set_cons_zero, List.set_cons_succ, i64_w, i32_w]
          rfl
        refine pure_ (i := 6) (N := some 27) (v := ?_) (a' := ?_) #[true, true, true, true, true, false, true, false, false, false, false, false, false, false, false] rfl rfl (by kernel_rfl) (fun _ _ _ h => h) (Or.inl ⟨by rfl, ?_⟩) ?_ ?_
        rotate_left
        · intro w'
          go_simp
          with_reducible rfl
        rotate_left
        · simp only [Act.put, List.setIfInBounds_toArray, List.set_cons_zero, List.set_cons_succ, i64_w, i32_w]
          rfl
        refine pure_ (i := 7) (N := some 28) (v := ?_) (a' := ?_) #[true, true, true, true, true, false, true, true, false, false, false, false, false, false, false] rfl rfl (by kernel_rfl) (fun _ _ _ h => h) (Or.inl ⟨by rfl, ?_⟩) ?_ ?_
        rotate_left
        · intro w'
          go_simp
          with_reducible rfl
        rotate_left
        · simp only [Act.put, List.setIfInBounds_toArray, List.set_cons_zero, List.set_cons_succ, i64_w, i32_w]
          rfl
        refine pure_ (i := 8) (N := some 29) (v := ?_) (a' := ?_) #[true, true, true, true, true, false, true, true, true, false, false, false, false, false, false] rfl rfl (by kernel_rfl) (fun _ _ _ h => h) (Or.inl ⟨by rfl, ?_⟩) ?_ ?_
        rotate_left
        · intro w'
          go_simp
          with_reducible rfl
        rotate_left
        · simp only [Act.put, List.setIfInBounds_toArray, List.set_cons_zero, List.set_cons_succ, i64_w, i32_w]
          rfl
        refine pure_ (i := 9) (N := some 30) (v := ?_) (a' := ?_) #[true, true, true, true, true, false, true, true, true, true, false, false, false, false, false] rfl rfl (by kernel_rfl) (fun _ _ _ h => h) (Or.inl ⟨by rfl, ?_⟩) ?_ ?_
        rotate_left
        · intro w'
          go_simp
          with_reducible rfl
        rotate_left
        · simp only [Act.put, List.setIfInBounds_toArray, List.set_cons_zero, List.set_cons_succ, i64_w, i32_w]
          rfl
        refine take_ (i := 5) (N := some 26) (v := ?_) (a' := ?_) #[true, true, true, true, true, true, true, true, true, true, false, false, false, false, false] rfl rfl (by kernel_rfl) (fun _ _ _ h => h) (Or.inl ⟨by rfl, ?_⟩) hHeld ?_ ?_
        rotate_left
        · rintro w' ⟨s0, s1, s2, s3, s4, s5, s6, s7, s8, s9, s10⟩
          go_simp
          with_reducible rfl
        rotate_left
        · simp only [Act.put, List.setIfInBounds_toArray, List.set_cons_zero, List.set_cons_succ, i64_w, i32_w]
          rfl
        refine take_ (i := 10) (N := some 31) (v := ?_) (a' := ?_) #[true, true, true, true, true, true, true, true, true, true, true, false, false, false, false] rfl rfl (by kernel_rfl) (fun _ _ _ h => h) (Or.inl ⟨by rfl, ?_⟩) hHeld ?_ ?_
        rotate_left
        · rintro w' ⟨s0, s1, s2, s3, s4, s5, s6, s7, s8, s9, s10⟩
          go_simp
          with_reducible rfl
        rotate_left
        · simp only [Act.put, List.setIfInBounds_toArray, List.set_cons_zero, List.set_cons_succ, i64_w, i32_w]
          rfl
        refine pure_ (i := 11) (N := some 32) (v := ?_) (a' := ?_) #[true, true, true, true, true, true, true, true, true, true, true, true, false, false, false] rfl rfl (by kernel_rfl) (fun _ _ _ h => h) (Or.inl ⟨by rfl, ?_⟩) ?_ ?_
        rotate_left
        · intro w'
          go_simp
          with_reducible rfl
        rotate_left
        · simp only [Act.put, List.setIfInBounds_toArray, List.set_cons_zero, List.set_cons_succ, i64_w, i32_w]
          rfl
        refine pure_ (i := 12) (N := some 33) (v := ?_) (a' := ?_) #[true, true, true, true, true, true, true, true, true, true, true, true, true, false, false] rfl rfl (by kernel_rfl) (fun _ _ _ h => h) (Or.inl ⟨by rfl, ?_⟩) ?_ ?_
        rotate_left
        · intro w'
          go_simp
          with_reducible rfl
        rotate_left
        · simp only [Act.put, List.setIfInBounds_toArray, List.set_cons_zero, List.set_cons_succ, i64_w, i32_w]
          rfl
        refine one_ (i := 13) (N := some 34) #[true, true, true, true, true, true, true, true, true, true, true, true, true, true, false] rfl rfl (by kernel_rfl) (by decide) (fun K hK => ?_)
        have hbc := below_calls (some ad) cv C HD.out HCN.out ⟨s, 0, s.par != 0⟩ HSC.out rfl (.slice Ao out.length co) out HSUM.out w6 HL6.out (by have h1 := HB6.out.size; have h2 := HN1.out; omega) HO6.out
        rw [arr_L2] at hbc
        refine goes_ Try.func24 (by kernel_rfl) rfl #[.slice (some ad) C.length cv, .slice Ao out.length co, .agg #[.int .u64 s.tr, .int .u64 s.id, .int .u64 s.par, .string s.svc, .string s.op, .int .i64 s.st, .int .i64 s.du, .int .i64 s.stt, .slice s.a.1 s.a.2.1 s.a.2.2, .slice s.e.1 s.e.2.1 s.e.2.2, .slice s.l.1 s.l.2.1 s.l.2.2, .int .i64 0, .bool (s.par != 0)]] (by rfl) rfl rfl (by simp only [List.map_toArray, List.map_cons, List.map_nil]; rfl) ?_
        with_reducible refine (hbc).mono ?_
        rintro ee w7 ⟨v7, rfl, hr7, hb7⟩
        refine ⟨_, rfl, ?_⟩
        obtain ⟨A7, c7, rfl⟩ := Kd.R_slice hr7
        have HO7 := Lib.hid hr7
        have HB7 := Lib.hid (HB6.out.trans hb7)
        have hl7 := (Kd.R_reads' (R_range HLR.out (fun k _ hk => HB7.out.block k hk))).2.2
        obtain ⟨ad2, he2, g0, g1, g2, g3, g4, g5, g6, g7, g8, g9, g10⟩ := at_S hl7 HGS.out
        injection he2 with he2
        subst he2
        clear hbc hr7 hb7 hl7
        refine hK.out _ _ ⟨g0, g1, g2, g3, g4, g5, g6, g7, g8, g9, g10⟩ (fun hHeld => ?_)
        clear hK K
        refine norm_ (a' := ?_) ?_ ?_
        rotate_left
        · show Act.put _ (some 34) _ = _
          simp only [Act.put, List.setIfInBounds_toArray, List.set_cons_zero, List.set_cons_succ, i64_w, i32_w]
          rfl
        refine pure_ (i := 14) (N := some 4) (v := ?_) (a' := ?_) #[true, true, true, true, true, true, true, true, true, true, true, true, true, true, true] rfl rfl (by kernel_rfl) (fun _ _ _ h => h) (Or.inl ⟨by rfl, ?_⟩) ?_ ?_
        rotate_left
        · intro w'
          go_simp
          with_reducible rfl
        rotate_left
        · simp only [Act.put, List.setIfInBounds_toArray, List.set_cons_zero, List.set_cons_succ, i64_w, i32_w]
          rfl
        refine done_ (by kernel_rfl) ?_
        go_wp2
        go_roundw
        case rel => exact ⟨k + 1, A7, c7, _, HK.out, rfl, by rw [HW.out], HE, HS2, HO7, HB7⟩
        case measure => exact meas_up HCM.out HK.out
    · have hkl : k = C.length := by omega
      subst hkl
      have q : decide ((C.length : Int) < (C.length : Int)) = false := decide_eq_false (by omega)
      have HO1 := Lib.hid HOE.out
      rw [List.take_length] at HO1
      change Hid (out = asm1 C) at HO1
      clear hlt hk
      go_wp2
      go_loopw [4, 6] (fun v4 i wr => ∃ (k : Nat) (Ao : Option Addr) (co : Nat) (out : List Ln), k ≤ C.length ∧ v4 = .slice Ao out.length co ∧ i = .int .i64 k ∧ Hid (out = (C.take k).foldl (fun o s => tell C s 0 true o) (asm1 C)) ∧ Hid (out.length + left C out = C.length) ∧ Hid (Kd.R kL 40 wr N (fun _ => True) (.slice Ao out.length co) out) ∧ Hid (Below N w1 wr)) (fun _ i _ => C.length - (intOf i).toNat)
      case atStart => exact ⟨0, Ao, co, out, Nat.zero_le _, rfl, rfl, Lib.hid HO1.out, HSUM, HO, HB⟩
      case round =>
        clear HO1 HSUM HO HB HOE
        obtain ⟨k, Ao, co, out, hk, rfl, rfl, HOE, HSUM, HO, HB⟩ := hrel
        by_cases hlt : k < C.length
        · obtain ⟨s, hs⟩ : ∃ s, C[k]? = some s := ⟨_, List.getElem?_eq_getElem hlt⟩
          have HGS := Lib.hid hs
          have HSC := Lib.hid (List.mem_of_getElem? hs)
          have HTk := Lib.hid (show (C.take (k + 1)).foldl (fun o s => tell C s 0 true o) (asm1 C) = tell C s 0 true out by
            obtain ⟨hk2, e⟩ := List.getElem?_eq_some_iff.1 hs
            rw [List.take_succ_eq_append_getElem hk2, e, List.foldl_append, ← HOE.out]
            rfl)
          have q : (k : Int) < (C.length : Int) := by omega
          have HK := Lib.hid (show k + 1 ≤ C.length by omega)
          have HW := Lib.hid (show wrap64 ((k : Int) + 1) = ((k + 1 : Nat) : Int) by have := HCM.out; unfold wrap64; omega)
          have hlr := R_range HLR.out (fun k _ hk => HB.out.block k hk)
          obtain ⟨ad, rfl, g0, g1, g2, g3, g4, g5, g6, g7, g8, g9, g10⟩ := at_S (Kd.R_reads' hlr).2.2 hs
          have htc := told_calls Ao co out s.id wr (Kd.R_reads' HO.out).2.2 (by have h1 := HSUM.out; have h2 := HCN.out; omega)
          have HTC := Lib.hid htc
          have HL6 := Lib.hid hlr
          clear hs hlt hk hlr htc
          go_wp2_with fail
          refine HTC.out.mono ?_
          rintro e w5 ⟨rfl, rfl⟩
          cases ht : toldId out s.id with
          | true =>
            have HE := Lib.hid (show out = (C.take (k + 1)).foldl (fun o s => tell C s 0 true o) (asm1 C) by rw [HTk.out, tell_eq HD.out HSC.out, if_pos ht])
            clear ht HTC g0 g1 g2 g3 g4 g5 g6 g7 g8 g9 g10
            go_wp2
            go_roundw
            case rel => exact ⟨k + 1, Ao, co, out, HK.out, rfl, by rw [HW.out], HE, HSUM, HO, HB⟩
            case measure => exact meas_up HCM.out HK.out
          | false =>
            have HE := Lib.hid (show tell C s 0 true out = (C.take (k + 1)).foldl (fun o s => tell C s 0 true o) (asm1 C) by rw [HTk.out])
            have HS2 := Lib.hid (tell_sum HD.out 0 true HSC.out HSUM.out)
            have hbc := below_calls (some ad) cv C HD.out HCN.out ⟨s, 0, true⟩ HSC.out rfl (.slice Ao out.length co) out HSUM.out wr HL6.out (by have h1 := HB.out.size; have h2 := HN1.out; omega) HO.out
            rw [arr_L2] at hbc
            have HBC := Lib.hid hbc
            clear ht HTC hbc
            go_wp2_with fail
            refine HBC.out.mono ?_
            rintro e w7 ⟨v7, rfl, hr7, hb7⟩
            obtain ⟨A7, c7, rfl⟩ := Kd.R_slice hr7
            have HO7 := Lib.hid hr7
            have HB7 := Lib.hid (HB.out.trans hb7)
            clear hr7 hb7 HBC g0 g1 g2 g3 g4 g5 g6 g7 g8 g9 g10
            go_wp2
            go_roundw
            case rel => exact ⟨k + 1, A7, c7, _, HK.out, rfl, by rw [HW.out], HE, HS2, HO7, HB7⟩
            case measure => exact meas_up HCM.out HK.out
        · have hkl : k = C.length := by omega
          subst hkl
          have q : decide ((C.length : Int) < (C.length : Int)) = false := decide_eq_false (by omega)
          have HE := Lib.hid HOE.out
          rw [List.take_length] at HE
          change Hid (out = asm C) at HE
          clear hlt hk
          go_wp2
          go_ret
          exact ⟨_, rfl, by rw [← HE.out]; exact Kd.R_lower HO.out HN.out, bel_step HB1.out HN.out HB.out⟩

end Go.Proofs.Ytoigebnhnkdbbaa.Tr

namespace Go.Proofs.Ytoigebnhnkdbbaa.Tr
open Go.RowKit Go.Proofs.YtoigebnhnkdbbaaW.PrintWords Go.Proofs.YtoigebnhnkdbbaaW.PrintLast Go.Proofs.YtoigebnhnkdbbaaW.PrintMore Go.Proofs.Ytoigebnhnkdbbaa.Math Go.Proofs.Ytoigebnhnkdbbaa.PAll
set_option linter.unusedVariables false
set_option linter.unusedSimpArgs false
/-- May a span come next? -/
def candB (C out : List Sp) (up : Int) (s : Sp) : Bool := bif out.isEmpty then rootB C s else s.par == up
theorem cand_next {C out : List Sp} {up : Int} (h : ∀ x, out.getLast? = some x → up = x.id) : nextOf C out = C.filter (candB C out up) := by
  unfold nextOf
  rcases List.eq_nil_or_concat out with rfl | ⟨o, x, rfl⟩
  · rfl
  · rw [List.concat_eq_append] at h ⊢
    have hx := h x (by simp)
    rw [List.getLast?_concat]
    subst hx
    show kidsOf C x.id = _
    unfold kidsOf
    refine List.filter_congr fun s _ => ?_
    unfold candB
    cases hq : (o ++ [x]).isEmpty with
    | true => simp at hq
    | false => rfl
/-- The best one so far: its place, or none. -/
def bestAt (C : List Sp) (q : Sp → Bool) (k : Nat) (v : Int) : Prop := (v = -1 ∧ lastS ((C.take k).filter q) = none) ∨ ∃ (j : Nat) (b : Sp), v = (j : Int) ∧ j < k ∧ C[j]? = some b ∧ lastS ((C.take k).filter q) = some b
theorem bestAt.zero (C : List Sp) (q : Sp → Bool) : bestAt C q 0 (-1) := .inl ⟨rfl, rfl⟩
theorem take_filter {C : List Sp} {q : Sp → Bool} {k : Nat} {s : Sp} (hs : C[k]? = some s) : (C.take (k + 1)).filter q = if q s = true then (C.take k).filter q ++ [s] else (C.take k).filter q := by
  obtain ⟨hk, e⟩ := List.getElem?_eq_some_iff.1 hs
  rw [List.take_succ_eq_append_getElem hk, e, List.filter_append]
  by_cases h : q s = true
  · rw [if_pos h]; simp [h]
  · rw [if_neg h]; simp [h]
theorem bestAt.skip {C : List Sp} {q : Sp → Bool} {k : Nat} {v : Int} {s : Sp} (h : bestAt C q k v) (hs : C[k]? = some s) (hq : q s = false) : bestAt C q (k + 1) v := by
  have e : (C.take (k + 1)).filter q = (C.take k).filter q := by rw [take_filter hs, if_neg (by rw [hq]; decide)]
  rcases h with ⟨h1, h2⟩ | ⟨j, b, h1, h2, h3, h4⟩
  · exact .inl ⟨h1, by rw [e]; exact h2⟩
  · exact .inr ⟨j, b, h1, by omega, h3, by rw [e]; exact h4⟩
theorem bestAt.first {C : List Sp} {q : Sp → Bool} {k : Nat} {s : Sp} (h : bestAt C q k (-1)) (hs : C[k]? = some s) (hq : q s = true) : bestAt C q (k + 1) (k : Int) := by
  have e : (C.take (k + 1)).filter q = (C.take k).filter q ++ [s] := by rw [take_filter hs, if_pos hq]
  rcases h with ⟨_, h2⟩ | ⟨j, b, h1, _⟩
  · exact .inr ⟨k, s, rfl, by omega, hs, by rw [e, lastS_snoc, h2]⟩
  · omega
theorem bestAt.more {C : List Sp} {q : Sp → Bool} {k j : Nat} {s b : Sp} (h : lastS ((C.take k).filter q) = some b) (hs : C[k]? = some s) (hq : q s = true) (hlt : enD b < enD s) : bestAt C q (k + 1) (k : Int) := by
  have e : (C.take (k + 1)).filter q = (C.take k).filter q ++ [s] := by rw [take_filter hs, if_pos hq]
  exact .inr ⟨k, s, rfl, by omega, hs, by rw [e, lastS_snoc, h]; show some (best1 b s) = _; unfold best1; rw [if_pos hlt]⟩
theorem bestAt.less {C : List Sp} {q : Sp → Bool} {k j : Nat} {s b : Sp} (h : lastS ((C.take k).filter q) = some b) (hj : j < k) (hb : C[j]? = some b) (hs : C[k]? = some s) (hq : q s = true) (hlt : ¬ enD b < enD s) : bestAt C q (k + 1) (j : Int) := by
  have e : (C.take (k + 1)).filter q = (C.take k).filter q ++ [s] := by rw [take_filter hs, if_pos hq]
  exact .inr ⟨j, b, rfl, by omega, hb, by rw [e, lastS_snoc, h]; show some (best1 b s) = _; unfold best1; rw [if_neg hlt]⟩
theorem Sml.add' {s : Sp} (h : Sml s) : wrap64 (s.st + s.du) = enD s := by
  obtain ⟨h1, h2, h3, h4⟩ := h
  unfold enD wrap64
  omega

set_option maxHeartbeats 8000000 in
set_option maxRecDepth 100000 in
theorem longest26_calls (A : Option Addr) (c : Nat) (l : List Sp) (w : World) (hr : Kd.C kS w A l.length l) (hl : l.length ≤ c) (hn : l.length ≤ 1000) (hsm : ∀ s ∈ l, Sml s) :
    Calls Try.prog 16 #[.slice A l.length c] w fun e w' => ∃ v, e = .returned v ∧ Kd.R kS 38 w' w.heap.size (fun _ => True) v (long (cnt l)) ∧ Below w.heap.size w w' := by
  have hcc := counted_calls A c l w hr hl (by omega)
  have hD := cnt_dis l
  have hcl : (cnt l).length ≤ 1000 := Nat.le_trans (cnt_len l) hn
  have hsc : ∀ s ∈ cnt l, Sml s := fun s h => hsm s (cnt_mem h)
  obtain ⟨C, hC⟩ : ∃ C, cnt l = C := ⟨_, rfl⟩
  rw [hC] at hcc hD hcl hsc ⊢
  have HCC := Lib.hid hcc
  have HD := Lib.hid hD
  have HCN := Lib.hid hcl
  have HSM := Lib.hid hsc
  clear hcc hD hcl hsc hsm hC hr hl hn
  go_enter Try.func16, Try.ntmps16
  go_wp2_with fail
  refine HCC.out.mono ?_
  rintro e w1 ⟨v, rfl, hr1, hb1⟩
  obtain ⟨Av, cv, rfl⟩ := Kd.R_slice hr1
  have HB1 := Lib.hid hb1
  have HLR := Lib.hid (show Kd.R kS 38 w1 w.heap.size (fun k => k < w1.heap.size) (.slice Av C.length cv) C from Kd.R_mono (Kd.R_bound hr1) (fun k hk => hk.2.2.1))
  obtain ⟨N, hN⟩ : ∃ N, w1.heap.size = N := ⟨_, rfl⟩
  rw [hN] at HLR
  have HN := Lib.hid (show w.heap.size ≤ N by rw [← hN]; exact hb1.size)
  have HN1 := Lib.hid hN
  have HCM := Lib.hid (show C.length ≤ 1000000 by have := HCN.out; omega)
  clear hr1 hb1 HCC hN
  go_wp2
  go_loopw [4, 5, 6, 7] (fun v4 v5 _ _ wr => ∃ (Ao : Option Addr) (co : Nat) (out : List Sp) (m : Nat) (up : Int), v4 = .slice Ao out.length co ∧ v5 = .int .u64 up ∧ Hid (Wy C out (nextOf C out) m) ∧ Hid (∀ x, out.getLast? = some x → up = x.id) ∧ Hid (Kd.R kS 38 wr N (fun _ => True) (.slice Ao out.length co) out) ∧ Hid (Below N w1 wr)) (fun v4 _ _ _ _ => C.length + 1 - slLen v4)
  case atStart => exact ⟨none, 0, [], _, 0, rfl, rfl, Lib.hid (Wy.start C), Lib.hid (fun x h => by cases h), Lib.hid (Kd.R_nil _ _ _ _ _), Lib.hid (by rw [← HN1.out]; exact Below.refl _ _)⟩
  case round =>
    obtain ⟨Ao, co, out, m, up, rfl, rfl, HW, HUP, HO, HB⟩ := hrel
    have HOL := Lib.hid (HW.out.way.len HD.out)
    have q0 : (out.length : Int) ≤ (C.length : Int) := by have := HOL.out; omega
    go_upto_region 6 with (fail)
    go_cut [7] (fun v7 wq => v7 = .int .i64 0 ∧ wr = wq)
    case first =>
      go_wp2
      go_meet
      case rel => exact ⟨rfl, rfl⟩
    case rest =>
    obtain ⟨rfl, rfl⟩ := hcut
    apply_assumption
    go_cut [6, 7] from 15 to 74 (fun v6 _ wq => ∃ bv : Int, v6 = .int .i64 bv ∧ Hid (bestAt C (candB C out up) C.length bv) ∧ Hid (Kd.R kS 38 wq N (fun _ => True) (.slice Ao out.length co) out) ∧ Hid (Below N w1 wq))
    case first =>
      refine wp_block ?_
      go_loopw [6, 7] (fun v6 i wr => ∃ (k : Nat) (bv : Int), k ≤ C.length ∧ v6 = .int .i64 bv ∧ i = .int .i64 k ∧ Hid (bestAt C (candB C out up) k bv) ∧ Hid (Kd.R kS 38 wr N (fun _ => True) (.slice Ao out.length co) out) ∧ Hid (Below N w1 wr)) (fun _ i _ => C.length - (intOf i).toNat)
      case atStart => exact ⟨0, -1, Nat.zero_le _, rfl, rfl, Lib.hid (bestAt.zero _ _), HO, HB⟩
      case round =>
        clear HO HB
        obtain ⟨k, bv, hk, rfl, rfl, HBA, HO, HB⟩ := hrel
        by_cases hlt : k < C.length
        · obtain ⟨s, hs⟩ : ∃ s, C[k]? = some s := ⟨_, List.getElem?_eq_getElem hlt⟩
          have HGS := Lib.hid hs
          have HSC := Lib.hid (List.mem_of_getElem? hs)
          have q : (k : Int) < (C.length : Int) := by omega
          have HK := Lib.hid (show k + 1 ≤ C.length by omega)
          have HW1 := Lib.hid (show wrap64 ((k : Int) + 1) = ((k + 1 : Nat) : Int) by have := HCM.out; unfold wrap64; omega)
          obtain ⟨cb, hcb⟩ : ∃ cb, candB C out up s = cb := ⟨_, rfl⟩
          have HCB := Lib.hid hcb
          have hlr := R_range HLR.out (fun k _ hk => HB.out.block k hk)
          obtain ⟨ad, rfl, g0, g1, g2, g3, g4, g5, g6, g7, g8, g9, g10⟩ := at_S (Kd.R_reads' hlr).2.2 hs
          clear hs hlt hk hcb
          go_upto_region 9 with (fail)
          go_cut [46] from 21 to 45 (fun v wq => v = .bool (!cb) ∧ Hid (Kd.R kS 38 wq N (fun _ => True) (.slice Ao out.length co) out) ∧ Hid (Below N w1 wq))
          case first =>
            cases hoe : out.isEmpty with
            | true =>
              have hol : out.length = 0 := by simpa using hoe
              have e1 : ((out.length : Int) == 0) = true := by rw [hol]; rfl
              have e2 : (out.length : Int) = 0 := by rw [hol]; rfl
              have e3 : decide ((0 : Int) < (out.length : Int)) = false := by rw [hol]; rfl
              have HCE := Lib.hid (show rootB C s = cb by have := HCB.out; unfold candB at this; rw [hoe] at this; exact this)
              have hrt := root26_calls (some ad) cv C s wr (Kd.R_reads' hlr).2.2 HCM.out
              rw [arr_S, HCE.out] at hrt
              have HRT := Lib.hid hrt
              clear hoe hol hlr hrt
              go_wp2_with fail
              refine HRT.out.mono ?_
              rintro e w5 ⟨rfl, hb5⟩
              have HO5 := Lib.hid (Kd.R_below HO.out hb5)
              have HB5 := Lib.hid (show Below N w1 w5 from HB.out.trans ⟨hb5.os, hb5.tape, hb5.output, hb5.size, fun k hk => hb5.block k (by have h1 := HB.out.size; have h2 := HN1.out; omega)⟩)
              clear hb5 HRT g0 g1 g2 g3 g4 g5 g6 g7 g8 g9 g10
              cases cb with
              | true =>
                go_wp2
                go_meet
                case rel => exact ⟨rfl, HO5, HB5⟩
              | false =>
                go_wp2
                go_meet
                case rel => exact ⟨rfl, HO5, HB5⟩
            | false =>
              have hol : 0 < out.length := by
                cases out with
                | nil => cases hoe
                | cons a b => simp
              have e1 : ((out.length : Int) == 0) = false := beq_eq_false_iff_ne.2 (by omega)
              have e3 : (0 : Int) < (out.length : Int) := by omega
              have e4 : (s.par == up) = cb := by have := HCB.out; unfold candB at this; rw [hoe] at this; exact this
              have e5 : (s.par != up) = !cb := by rw [← e4]; rfl
              clear hoe hol hlr
              go_wp2
              go_meet
              case rel => exact ⟨by first | rfl | rw [e5] | simp [e4], HO, HB⟩
          case rest =>
          clear HO HB hlr g0 g1 g2 g3 g4 g5 g6 g7 g8 g9 g10
          obtain ⟨rfl, HO, HB⟩ := hcut
          apply_assumption
          cases cb with
          | false =>
            have HBN := Lib.hid (HBA.out.skip HGS.out HCB.out)
            go_wp2
            go_roundw
            case rel => exact ⟨k + 1, bv, HK.out, rfl, by rw [HW1.out], HBN, HO, HB⟩
            case measure => exact meas_up HCM.out HK.out
          | true =>
            have HOd := Lib.hid (Kd.R_drew HO.out)
            have HBd := Lib.hid (below_drew HB.out)
            have hlr := R_range HLR.out (fun k _ hk => HBd.out.block k hk)
            obtain ⟨ad2, he2, _, _, _, _, _, g5, g6, _⟩ := at_S (Kd.R_reads' hlr).2.2 HGS.out
            injection he2 with he2
            subst he2
            rcases HBA.out with ⟨rfl, hbn⟩ | ⟨j, b, rfl, hj, hbj, hbl⟩
            · have HBN := Lib.hid (HBA.out.first HGS.out HCB.out)
              have q1 : decide ((-1 : Int) < 0) = true := by decide
              clear hbn hlr
              go_upto_region 10 with (fail)
              refine start_ (n := 27) (S := fun w' => True) (ds := []) #[false, false, false, false, false, false, false, false, false, false, false, false, false, false, false, false, false, false, false, false, false, false, false, false, false, false, false] (by kernel_rfl) rfl rfl trivial (fun hHeld => ?_)
              generalize hwe : wc.drew = w6 at HOd HBd hHeld ⊢
              clear hwe g5 g6
              refine pure_ (i := 0) (N := some 47) (v := ?_) (a' := ?_) #[true, false, false, false, false, false, false, false, false, false, false, false, false, false, false, false, false, false, false, false, false, false, false, false, false, false, false] rfl rfl (by kernel_rfl) (fun _ _ _ h => h) (Or.inl ⟨by rfl, ?_⟩) ?_ ?_
              rotate_left
              · intro w'
                go_simp
                with_reducible rfl
              rotate_left
              · simp only [Act.put, List.setIfInBounds_toArray, List.set_cons_zero, List.set_cons_succ, i64_w, i32_w]
                rfl
              refine pure_ (i := 1) (N := some 48) (v := ?_) (a' := ?_) #[true, true, false, false, false, false, false, false, false, false, false, false, false, false, false, false, false, false, false, false, false, false, false, false, false, false, false] rfl rfl (by kernel_rfl) (fun _ _ _ h => h) (Or.inl ⟨by rfl, ?_⟩) ?_ ?_
              rotate_left
              · intro w'
                go_simp
                with_reducible rfl
              rotate_left
              · simp only [Act.put, List.setIfInBounds_toArray, List.set_cons_zero, List.set_cons_succ, i64_w, i32_w]
                rfl
              refine pure_ (i := 2) (N := some 49) (v := ?_) (a' := ?_) #[true, true, true, false, false, false, false, false, false, false, false, false, false, false, false, false, false, false, false, false, false, false, false, false, false, false, false] rfl rfl (by kernel_rfl) (fun _ _ _ h => h) (Or.inl ⟨by rfl, ?_⟩) ?_ ?_
              rotate_left
              · intro w'
                go_simp
                with_reducible rfl
              rotate_left
              · simp only [Act.put, List.setIfInBounds_toArray, List.set_cons_zero, List.set_cons_succ, i64_w, i32_w]
                rfl
              refine pure_ (i := 3) (N := some 50) (v := undef) (a' := ?_) #[true, true, true, true, false, false, false, false, false, false, false, false, false, false, false, false, false, false, false, false, false, false, false, false, false, false, false] rfl rfl (by kernel_rfl) (fun _ _ _ h => h) (Or.inr ⟨by rfl, rfl⟩) ?_ ?_
              rotate_left
              · simp only [Act.put, List.setIfInBounds_toArray, List.set_cons_zero, List.set_cons_succ, i64_w, i32_w]
                rfl
              refine pure_ (i := 4) (N := some 51) (v := undef) (a' := ?_) #[true, true, true, true, true, false, false, false, false, false, false, false, false, false, false, false, false, false, false, false, false, false, false, false, false, false, false] rfl rfl (by kernel_rfl) (fun _ _ _ h => h) (Or.inr ⟨by rfl, rfl⟩) ?_ ?_
              rotate_left
              · simp only [Act.put, List.setIfInBounds_toArray, List.set_cons_zero, List.set_cons_succ, i64_w, i32_w]
                rfl
              refine pure_ (i := 5) (N := some 52) (v := undef) (a' := ?_) #[true, true, true, true, true, true, false, false, false, false, false, false, false, false, false, false, false, false, false, false, false, false, false, false, false, false, false] rfl rfl (by kernel_rfl) (fun _ _ _ h => h) (Or.inr ⟨by rfl, rfl⟩) ?_ ?_
              rotate_left
              · simp only [Act.put, List.setIfInBounds_toArray, List.set_cons_zero, List.set_cons_succ, i64_w, i32_w]
                rfl
              refine pure_ (i := 6) (N := some 53) (v := undef) (a' := ?_) #[true, true, true, true, true, true, true, false, false, false, false, false, false, false, false, false, false, false, false, false, false, false, false, false, false, false, false] rfl rfl (by kernel_rfl) (fun _ _ _ h => h) (Or.inr ⟨by rfl, rfl⟩) ?_ ?_
              rotate_left
              · simp only [Act.put, List.setIfInBounds_toArray, List.set_cons_zero, List.set_cons_succ, i64_w, i32_w]
                rfl
              refine pure_ (i := 7) (N := some 54) (v := undef) (a' := ?_) #[true, true, true, true, true, true, true, true, false, false, false, false, false, false, false, false, false, false, false, false, false, false, false, false, false, false, false] rfl rfl (by kernel_rfl) (fun _ _ _ h => h) (Or.inr ⟨by rfl, rfl⟩) ?_ ?_
              rotate_left
              · simp only [Act.put, List.setIfInBounds_toArray, List.set_cons_zero, List.set_cons_succ, i64_w, i32_w]
                rfl
              refine pure_ (i := 8) (N := some 55) (v := undef) (a' := ?_) #[true, true, true, true, true, true, true, true, true, false, false, false, false, false, false, false, false, false, false, false, false, false, false, false, false, false, false] rfl rfl (by kernel_rfl) (fun _ _ _ h => h) (Or.inr ⟨by rfl, rfl⟩) ?_ ?_
              rotate_left
              · simp only [Act.put, List.setIfInBounds_toArray, List.set_cons_zero, List.set_cons_succ, i64_w, i32_w]
                rfl
              refine pure_ (i := 9) (N := some 56) (v := undef) (a' := ?_) #[true, true, true, true, true, true, true, true, true, true, false, false, false, false, false, false, false, false, false, false, false, false, false, false, false, false, false] rfl rfl (by kernel_rfl) (fun _ _ _ h => h) (Or.inr ⟨by rfl, rfl⟩) ?_ ?_
              rotate_left
              · simp only [Act.put, List.setIfInBounds_toArray, List.set_cons_zero, List.set_cons_succ, i64_w, i32_w]
                rfl
              refine pure_ (i := 10) (N := some 57) (v := undef) (a' := ?_) #[true, true, true, true, true, true, true, true, true, true, true, false, false, false, false, false, false, false, false, false, false, false, false, false, false, false, false] rfl rfl (by kernel_rfl) (fun _ _ _ h => h) (Or.inr ⟨by rfl, rfl⟩) ?_ ?_
              rotate_left
              · simp only [Act.put, List.setIfInBounds_toArray, List.set_cons_zero, List.set_cons_succ, i64_w, i32_w]
                rfl
              refine pure_ (i := 11) (N := some 58) (v := undef) (a' := ?_) #[true, true, true, true, true, true, true, true, true, true, true, true, false, false, false, false, false, false, false, false, false, false, false, false, false, false, false] rfl rfl (by kernel_rfl) (fun _ _ _ h => h) (Or.inr ⟨by rfl, rfl⟩) ?_ ?_
              rotate_left
              · simp only [Act.put, List.setIfInBounds_toArray, List.set_cons_zero, List.set_cons_succ, i64_w, i32_w]
                rfl
              refine pure_ (i := 12) (N := some 59) (v := undef) (a' := ?_) #[true, true, true, true, true, true, true, true, true, true, true, true, true, false, false, false, false, false, false, false, false, false, false, false, false, false, false] rfl rfl (by kernel_rfl) (fun _ _ _ h => h) (Or.inr ⟨by rfl, rfl⟩) ?_ ?_
              rotate_left
              · simp only [Act.put, List.setIfInBounds_toArray, List.set_cons_zero, List.set_cons_succ, i64_w, i32_w]
                rfl
              refine pure_ (i := 13) (N := some 60) (v := undef) (a' := ?_) #[true, true, true, true, true, true, true, true, true, true, true, true, true, true, false, false, false, false, false, false, false, false, false, false, false, false, false] rfl rfl (by kernel_rfl) (fun _ _ _ h => h) (Or.inr ⟨by rfl, rfl⟩) ?_ ?_
              rotate_left
              · simp only [Act.put, List.setIfInBounds_toArray, List.set_cons_zero, List.set_cons_succ, i64_w, i32_w]
                rfl
              refine pure_ (i := 14) (N := some 61) (v := undef) (a' := ?_) #[true, true, true, true, true, true, true, true, true, true, true, true, true, true, true, false, false, false, false, false, false, false, false, false, false, false, false] rfl rfl (by kernel_rfl) (fun _ _ _ h => h) (Or.inr ⟨by rfl, rfl⟩) ?_ ?_
              rotate_left
              · simp only [Act.put, List.setIfInBounds_toArray, List.set_cons_zero, List.set_cons_succ, i64_w, i32_w]
                rfl
              refine pure_ (i := 15) (N := some 62) (v := undef) (a' := ?_) #[true, true, true, true, true, true, true, true, true, true, true, true, true, true, true, true, false, false, false, false, false, false, false, false, false, false, false] rfl rfl (by kernel_rfl) (fun _ _ _ h => h) (Or.inr ⟨by rfl, rfl⟩) ?_ ?_
              rotate_left
              · simp only [Act.put, List.setIfInBounds_toArray, List.set_cons_zero, List.set_cons_succ, i64_w, i32_w]
                rfl
              refine pure_ (i := 16) (N := some 63) (v := undef) (a' := ?_) #[true, true, true, true, true, true, true, true, true, true, true, true, true, true, true, true, true, false, false, false, false, false, false, false, false, false, false] rfl rfl (by kernel_rfl) (fun _ _ _ h => h) (Or.inr ⟨by rfl, rfl⟩) ?_ ?_
              rotate_left
              · simp only [Act.put, List.setIfInBounds_toArray, List.set_cons_zero, List.set_cons_succ, i64_w, i32_w]
                rfl
              refine pure_ (i := 17) (N := some 64) (v := undef) (a' := ?_) #[true, true, true, true, true, true, true, true, true, true, true, true, true, true, true, true, true, true, false, false, false, false, false, false, false, false, false] rfl rfl (by kernel_rfl) (fun _ _ _ h => h) (Or.inr ⟨by rfl, rfl⟩) ?_ ?_
              rotate_left
              · simp only [Act.put, List.setIfInBounds_toArray, List.set_cons_zero, List.set_cons_succ, i64_w, i32_w]
                rfl
              refine pure_ (i := 18) (N := some 65) (v := undef) (a' := ?_) #[true, true, true, true, true, true, true, true, true, true, true, true, true, true, true, true, true, true, true, false, false, false, false, false, false, false, false] rfl rfl (by kernel_rfl) (fun _ _ _ h => h) (Or.inr ⟨by rfl, rfl⟩) ?_ ?_
              rotate_left
              · simp only [Act.put, List.setIfInBounds_toArray, List.set_cons_zero, List.set_cons_succ, i64_w, i32_w]
                rfl
              refine pure_ (i := 19) (N := some 66) (v := undef) (a' := ?_) #[true, true, true, true, true, true, true, true, true, true, true, true, true, true, true, true, true, true, true, true, false, false, false, false, false, false, false] rfl rfl (by kernel_rfl) (fun _ _ _ h => h) (Or.inr ⟨by rfl, rfl⟩) ?_ ?_
              rotate_left
              · simp only [Act.put, List.setIfInBounds_toArray, List.set_cons_zero, List.set_cons_succ, i64_w, i32_w]
                rfl
              refine pure_ (i := 20) (N := some 67) (v := undef) (a' := ?_) #[true, true, true, true, true, true, true, true, true, true, true, true, true, true, true, true, true, true, true, true, true, false, false, false, false, false, false] rfl rfl (by kernel_rfl) (fun _ _ _ h => h) (Or.inr ⟨by rfl, rfl⟩) ?_ ?_
              rotate_left
              · simp only [Act.put, List.setIfInBounds_toArray, List.set_cons_zero, List.set_cons_succ, i64_w, i32_w]
                rfl
              refine pure_ (i := 21) (N := some 68) (v := undef) (a' := ?_) #[true, true, true, true, true, true, true, true, true, true, true, true, true, true, true, true, true, true, true, true, true, true, false, false, false, false, false] rfl rfl (by kernel_rfl) (fun _ _ _ h => h) (Or.inr ⟨by rfl, rfl⟩) ?_ ?_
              rotate_left
              · simp only [Act.put, List.setIfInBounds_toArray, List.set_cons_zero, List.set_cons_succ, i64_w, i32_w]
                rfl
              refine pure_ (i := 22) (N := some 69) (v := undef) (a' := ?_) #[true, true, true, true, true, true, true, true, true, true, true, true, true, true, true, true, true, true, true, true, true, true, true, false, false, false, false] rfl rfl (by kernel_rfl) (fun _ _ _ h => h) (Or.inr ⟨by rfl, rfl⟩) ?_ ?_
              rotate_left
              · simp only [Act.put, List.setIfInBounds_toArray, List.set_cons_zero, List.set_cons_succ, i64_w, i32_w]
                rfl
              refine pure_ (i := 23) (N := some 70) (v := undef) (a' := ?_) #[true, true, true, true, true, true, true, true, true, true, true, true, true, true, true, true, true, true, true, true, true, true, true, true, false, false, false] rfl rfl (by kernel_rfl) (fun _ _ _ h => h) (Or.inr ⟨by rfl, rfl⟩) ?_ ?_
              rotate_left
              · simp only [Act.put, List.setIfInBounds_toArray, List.set_cons_zero, List.set_cons_succ, i64_w, i32_w]
                rfl
              refine pure_ (i := 24) (N := some 71) (v := undef) (a' := ?_) #[true, true, true, true, true, true, true, true, true, true, true, true, true, true, true, true, true, true, true, true, true, true, true, true, true, false, false] rfl rfl (by kernel_rfl) (fun _ _ _ h => h) (Or.inr ⟨by rfl, rfl⟩) ?_ ?_
              rotate_left
              · simp only [Act.put, List.setIfInBounds_toArray, List.set_cons_zero, List.set_cons_succ, i64_w, i32_w]
                rfl
              refine pure_ (i := 25) (N := some 72) (v := undef) (a' := ?_) #[true, true, true, true, true, true, true, true, true, true, true, true, true, true, true, true, true, true, true, true, true, true, true, true, true, true, false] rfl rfl (by kernel_rfl) (fun _ _ _ h => h) (Or.inr ⟨by rfl, rfl⟩) ?_ ?_
              rotate_left
              · simp only [Act.put, List.setIfInBounds_toArray, List.set_cons_zero, List.set_cons_succ, i64_w, i32_w]
                rfl
              refine pure_ (i := 26) (N := some 73) (v := ?_) (a' := ?_) #[true, true, true, true, true, true, true, true, true, true, true, true, true, true, true, true, true, true, true, true, true, true, true, true, true, true, true] rfl rfl (by kernel_rfl) (fun _ _ _ h => h) (Or.inl ⟨by rfl, ?_⟩) ?_ ?_
              rotate_left
              · intro w'
                go_simp
                with_reducible rfl
              rotate_left
              · simp only [Act.put, List.setIfInBounds_toArray, List.set_cons_zero, List.set_cons_succ, i64_w, i32_w]
                rfl
              refine done_ (by kernel_rfl) ?_
              go_wp2
              go_roundw
              case rel => exact ⟨k + 1, k, HK.out, rfl, by rw [HW1.out], HBN, HOd, HBd⟩
              case measure => exact meas_up HCM.out HK.out
            · obtain ⟨ad2, he2, _, _, _, _, _, u5, u6, _⟩ := at_S (Kd.R_reads' hlr).2.2 hbj
              injection he2 with he2
              subst he2
              have q1 : decide ((j : Int) < 0) = false := decide_eq_false (by omega)
              have q2 : (j : Int) < (C.length : Int) := by have := HK.out; omega
              have hws := (HSM.out s HSC.out).add'
              have hwb := (HSM.out b (List.mem_of_getElem? hbj)).add'
              have HBJ := Lib.hid hbj
              have HJ := Lib.hid hj
              have HBL := Lib.hid hbl
              clear hbj hj hbl hlr
              go_upto_region 10 with (fail)
              refine start_ (n := 27) (S := fun w' => w'.cell? ⟨(ad.add (k * 11)).block, (ad.add (k * 11)).off + 5, none⟩ = some (.int .i64 s.st) ∧ w'.cell? ⟨(ad.add (k * 11)).block, (ad.add (k * 11)).off + 6, none⟩ = some (.int .i64 s.du) ∧ w'.cell? ⟨(ad.add (j * 11)).block, (ad.add (j * 11)).off + 5, none⟩ = some (.int .i64 b.st) ∧ w'.cell? ⟨(ad.add (j * 11)).block, (ad.add (j * 11)).off + 6, none⟩ = some (.int .i64 b.du)) (ds := []) #[false, false, false, false, false, false, false, false, false, false, false, false, false, false, false, false, false, false, false, false, false, false, false, false, false, false, false] (by kernel_rfl) rfl rfl ⟨g5, g6, u5, u6⟩ (fun hHeld => ?_)
              generalize hwe : wc.drew = w6 at g5 g6 u5 u6 HOd HBd hHeld ⊢
              clear hwe g5 g6 u5 u6
              refine pure_ (i := 0) (N := some 47) (v := ?_) (a' := ?_) #[true, false, false, false, false, false, false, false, false, false, false, false, false, false, false, false, false, false, false, false, false, false, false, false, false, false, false] rfl rfl (by kernel_rfl) (fun _ _ _ h => h) (Or.inl ⟨by rfl, ?_⟩) ?_ ?_
              rotate_left
              · intro w'
                go_simp
                with_reducible rfl
              rotate_left
              · simp only [Act.put, List.setIfInBounds_toArray, List.set_cons_zero, List.set_cons_succ, i64_w, i32_w]
                rfl
              refine pure_ (i := 1) (N := some 48) (v := ?_) (a' := ?_) #[true, true, false, false, false, false, false, false, false, false, false, false, false, false, false, false, false, false, false, false, false, false, false, false, false, false, false] rfl rfl (by kernel_rfl) (fun _ _ _ h => h) (Or.inl ⟨by rfl, ?_⟩) ?_ ?_
              rotate_left
              · intro w'
                go_simp
                with_reducible rfl
              rotate_left
              · simp only [Act.put, List.setIfInBounds_toArray, List.set_cons_zero, List.set_cons_succ, i64_w, i32_w]
                rfl
              refine pure_ (i := 2) (N := some 49) (v := ?_) (a' := ?_) #[true, true, true, false, false, false, false, false, false, false, false, false, false, false, false, false, false, false, false, false, false, false, false, false, false, false, false] rfl rfl (by kernel_rfl) (fun _ _ _ h => h) (Or.inl ⟨by rfl, ?_⟩) ?_ ?_
              rotate_left
              · intro w'
                go_simp
                with_reducible rfl
              rotate_left
              · simp only [Act.put, List.setIfInBounds_toArray, List.set_cons_zero, List.set_cons_succ, i64_w, i32_w]
                rfl
              refine pure_ (i := 3) (N := some 50) (v := ?_) (a' := ?_) #[true, true, true, true, false, false, false, false, false, false, false, false, false, false, false, false, false, false, false, false, false, false, false, false, false, false, false] rfl rfl (by kernel_rfl) (fun _ _ _ h => h) (Or.inl ⟨by rfl, ?_⟩) ?_ ?_
              rotate_left
              · intro w'
                go_simp
                with_reducible rfl
              rotate_left
              · simp only [Act.put, List.setIfInBounds_toArray, List.set_cons_zero, List.set_cons_succ, i64_w, i32_w]
                rfl
              refine pure_ (i := 4) (N := some 51) (v := ?_) (a' := ?_) #[true, true, true, true, true, false, false, false, false, false, false, false, false, false, false, false, false, false, false, false, false, false, false, false, false, false, false] rfl rfl (by kernel_rfl) (fun _ _ _ h => h) (Or.inl ⟨by rfl, ?_⟩) ?_ ?_
              rotate_left
              · intro w'
                go_simp
                with_reducible rfl
              rotate_left
              · simp only [Act.put, List.setIfInBounds_toArray, List.set_cons_zero, List.set_cons_succ, i64_w, i32_w]
                rfl
              refine pure_ (i := 5) (N := some 52) (v := ?_) (a' := ?_) #[true, true, true, true, true, true, false, false, false, false, false, false, false, false, false, false, false, false, false, false, false, false, false, false, false, false, false] rfl rfl (by kernel_rfl) (fun _ _ _ h => h) (Or.inl ⟨by rfl, ?_⟩) ?_ ?_
              rotate_left
              · intro w'
                go_simp
                with_reducible rfl
              rotate_left
              · simp only [Act.put, List.setIfInBounds_toArray, List.set_cons_zero, List.set_cons_succ, i64_w, i32_w]
                rfl
              refine pure_ (i := 6) (N := some 53) (v := ?_) (a' := ?_) #[true, true, true, true, true, true, true, false, false, false, false, false, false, false, false, false, false, false, false, false, false, false, false, false, false, false, false] rfl rfl (by kernel_rfl) (fun _ _ _ h => h) (Or.inl ⟨by rfl, ?_⟩) ?_ ?_
              rotate_left
              · intro w'
                go_simp
                with_reducible rfl
              rotate_left
              · simp only [Act.put, List.setIfInBounds_toArray, List.set_cons_zero, List.set_cons_succ, i64_w, i32_w]
                rfl
              refine pure_ (i := 8) (N := some 55) (v := ?_) (a' := ?_) #[true, true, true, true, true, true, true, false, true, false, false, false, false, false, false, false, false, false, false, false, false, false, false, false, false, false, false] rfl rfl (by kernel_rfl) (fun _ _ _ h => h) (Or.inl ⟨by rfl, ?_⟩) ?_ ?_
              rotate_left
              · intro w'
                go_simp
                with_reducible rfl
              rotate_left
              · simp only [Act.put, List.setIfInBounds_toArray, List.set_cons_zero, List.set_cons_succ, i64_w, i32_w]
                rfl
              refine pure_ (i := 9) (N := some 56) (v := ?_) (a' := ?_) #[true, true, true, true, true, true, true, false, true, true, false, false, false, false, false, false, false, false, false, false, false, false, false, false, false, false, false] rfl rfl (by kernel_rfl) (fun _ _ _ h => h) (Or.inl ⟨by rfl, ?_⟩) ?_ ?_
              rotate_left
              · intro w'
                go_simp
                with_reducible rfl
              rotate_left
              · simp only [Act.put, List.setIfInBounds_toArray, List.set_cons_zero, List.set_cons_succ, i64_w, i32_w]
                rfl
              refine pure_ (i := 10) (N := some 57) (v := ?_) (a' := ?_) #[true, true, true, true, true, true, true, false, true, true, true, false, false, false, false, false, false, false, false, false, false, false, false, false, false, false, false] rfl rfl (by kernel_rfl) (fun _ _ _ h => h) (Or.inl ⟨by rfl, ?_⟩) ?_ ?_
              rotate_left
              · intro w'
                go_simp
                with_reducible rfl
              rotate_left
              · simp only [Act.put, List.setIfInBounds_toArray, List.set_cons_zero, List.set_cons_succ, i64_w, i32_w]
                rfl
              refine pure_ (i := 11) (N := some 58) (v := ?_) (a' := ?_) #[true, true, true, true, true, true, true, false, true, true, true, true, false, false, false, false, false, false, false, false, false, false, false, false, false, false, false] rfl rfl (by kernel_rfl) (fun _ _ _ h => h) (Or.inl ⟨by rfl, ?_⟩) ?_ ?_
              rotate_left
              · intro w'
                go_simp
                with_reducible rfl
              rotate_left
              · simp only [Act.put, List.setIfInBounds_toArray, List.set_cons_zero, List.set_cons_succ, i64_w, i32_w]
                rfl
              refine pure_ (i := 14) (N := some 61) (v := ?_) (a' := ?_) #[true, true, true, true, true, true, true, false, true, true, true, true, false, false, true, false, false, false, false, false, false, false, false, false, false, false, false] rfl rfl (by kernel_rfl) (fun _ _ _ h => h) (Or.inl ⟨by rfl, ?_⟩) ?_ ?_
              rotate_left
              · intro w'
                go_simp
                with_reducible rfl
              rotate_left
              · simp only [Act.put, List.setIfInBounds_toArray, List.set_cons_zero, List.set_cons_succ, i64_w, i32_w]
                rfl
              refine pure_ (i := 15) (N := some 62) (v := ?_) (a' := ?_) #[true, true, true, true, true, true, true, false, true, true, true, true, false, false, true, true, false, false, false, false, false, false, false, false, false, false, false] rfl rfl (by kernel_rfl) (fun _ _ _ h => h) (Or.inl ⟨by rfl, ?_⟩) ?_ ?_
              rotate_left
              · intro w'
                go_simp
                with_reducible rfl
              rotate_left
              · simp only [Act.put, List.setIfInBounds_toArray, List.set_cons_zero, List.set_cons_succ, i64_w, i32_w]
                rfl
              refine pure_ (i := 16) (N := some 63) (v := ?_) (a' := ?_) #[true, true, true, true, true, true, true, false, true, true, true, true, false, false, true, true, true, false, false, false, false, false, false, false, false, false, false] rfl rfl (by kernel_rfl) (fun _ _ _ h => h) (Or.inl ⟨by rfl, ?_⟩) ?_ ?_
              rotate_left
              · intro w'
                go_simp
                with_reducible rfl
              rotate_left
              · simp only [Act.put, List.setIfInBounds_toArray, List.set_cons_zero, List.set_cons_succ, i64_w, i32_w]
                rfl
              refine pure_ (i := 17) (N := some 64) (v := ?_) (a' := ?_) #[true, true, true, true, true, true, true, false, true, true, true, true, false, false, true, true, true, true, false, false, false, false, false, false, false, false, false] rfl rfl (by kernel_rfl) (fun _ _ _ h => h) (Or.inl ⟨by rfl, ?_⟩) ?_ ?_
              rotate_left
              · intro w'
                go_simp
                with_reducible rfl
              rotate_left
              · simp only [Act.put, List.setIfInBounds_toArray, List.set_cons_zero, List.set_cons_succ, i64_w, i32_w]
                rfl
              refine pure_ (i := 19) (N := some 66) (v := ?_) (a' := ?_) #[true, true, true, true, true, true, true, false, true, true, true, true, false, false, true, true, true, true, false, true, false, false, false, false, false, false, false] rfl rfl (by kernel_rfl) (fun _ _ _ h => h) (Or.inl ⟨by rfl, ?_⟩) ?_ ?_
              rotate_left
              · intro w'
                go_simp
                with_reducible rfl
              rotate_left
              · simp only [Act.put, List.setIfInBounds_toArray, List.set_cons_zero, List.set_cons_succ, i64_w, i32_w]
                rfl
              refine pure_ (i := 20) (N := some 67) (v := ?_) (a' := ?_) #[true, true, true, true, true, true, true, false, true, true, true, true, false, false, true, true, true, true, false, true, true, false, false, false, false, false, false] rfl rfl (by kernel_rfl) (fun _ _ _ h => h) (Or.inl ⟨by rfl, ?_⟩) ?_ ?_
              rotate_left
              · intro w'
                go_simp
                with_reducible rfl
              rotate_left
              · simp only [Act.put, List.setIfInBounds_toArray, List.set_cons_zero, List.set_cons_succ, i64_w, i32_w]
                rfl
              refine pure_ (i := 21) (N := some 68) (v := ?_) (a' := ?_) #[true, true, true, true, true, true, true, false, true, true, true, true, false, false, true, true, true, true, false, true, true, true, false, false, false, false, false] rfl rfl (by kernel_rfl) (fun _ _ _ h => h) (Or.inl ⟨by rfl, ?_⟩) ?_ ?_
              rotate_left
              · intro w'
                go_simp
                with_reducible rfl
              rotate_left
              · simp only [Act.put, List.setIfInBounds_toArray, List.set_cons_zero, List.set_cons_succ, i64_w, i32_w]
                rfl
              refine pure_ (i := 22) (N := some 69) (v := ?_) (a' := ?_) #[true, true, true, true, true, true, true, false, true, true, true, true, false, false, true, true, true, true, false, true, true, true, true, false, false, false, false] rfl rfl (by kernel_rfl) (fun _ _ _ h => h) (Or.inl ⟨by rfl, ?_⟩) ?_ ?_
              rotate_left
              · intro w'
                go_simp
                with_reducible rfl
              rotate_left
              · simp only [Act.put, List.setIfInBounds_toArray, List.set_cons_zero, List.set_cons_succ, i64_w, i32_w]
                rfl
              refine take_ (i := 7) (N := some 54) (v := ?_) (a' := ?_) #[true, true, true, true, true, true, true, true, true, true, true, true, false, false, true, true, true, true, false, true, true, true, true, false, false, false, false] rfl rfl (by kernel_rfl) (fun _ _ _ h => h) (Or.inl ⟨by rfl, ?_⟩) hHeld ?_ ?_
              rotate_left
              · rintro w' ⟨s0, s1, s2, s3⟩
                go_simp
                with_reducible rfl
              rotate_left
              · simp only [Act.put, List.setIfInBounds_toArray, List.set_cons_zero, List.set_cons_succ, i64_w, i32_w]
                rfl
              refine take_ (i := 12) (N := some 59) (v := ?_) (a' := ?_) #[true, true, true, true, true, true, true, true, true, true, true, true, true, false, true, true, true, true, false, true, true, true, true, false, false, false, false] rfl rfl (by kernel_rfl) (fun _ _ _ h => h) (Or.inl ⟨by rfl, ?_⟩) hHeld ?_ ?_
              rotate_left
              · rintro w' ⟨s0, s1, s2, s3⟩
                go_simp
                with_reducible rfl
              rotate_left
              · simp only [Act.put, List.setIfInBounds_toArray, List.set_cons_zero, List.set_cons_succ, i64_w, i32_w]
                rfl
              refine pure_ (i := 13) (N := some 60) (v := ?_) (a' := ?_) #[true, true, true, true, true, true, true, true, true, true, true, true, true, true, true, true, true, true, false, true, true, true, true, false, false, false, false] rfl rfl (by kernel_rfl) (fun _ _ _ h => h) (Or.inl ⟨by rfl, ?_⟩) ?_ ?_
              rotate_left
              · intro w'
                go_simp
                with_reducible rfl
              rotate_left
              · simp only [Act.put, List.setIfInBounds_toArray, List.set_cons_zero, List.set_cons_succ, i64_w, i32_w]
                rfl
              refine take_ (i := 18) (N := some 65) (v := ?_) (a' := ?_) #[true, true, true, true, true, true, true, true, true, true, true, true, true, true, true, true, true, true, true, true, true, true, true, false, false, false, false] rfl rfl (by kernel_rfl) (fun _ _ _ h => h) (Or.inl ⟨by rfl, ?_⟩) hHeld ?_ ?_
              rotate_left
              · rintro w' ⟨s0, s1, s2, s3⟩
                go_simp
                with_reducible rfl
              rotate_left
              · simp only [Act.put, List.setIfInBounds_toArray, List.set_cons_zero, List.set_cons_succ, i64_w, i32_w]
                rfl
              refine take_ (i := 23) (N := some 70) (v := ?_) (a' := ?_) #[true, true, true, true, true, true, true, true, true, true, true, true, true, true, true, true, true, true, true, true, true, true, true, true, false, false, false] rfl rfl (by kernel_rfl) (fun _ _ _ h => h) (Or.inl ⟨by rfl, ?_⟩) hHeld ?_ ?_
              rotate_left
              · rintro w' ⟨s0, s1, s2, s3⟩
                go_simp
                with_reducible rfl
              rotate_left
              · simp only [Act.put, List.setIfInBounds_toArray, List.set_cons_zero, List.set_cons_succ, i64_w, i32_w]
                rfl
              refine pure_ (i := 24) (N := some 71) (v := ?_) (a' := ?_) #[true, true, true, true, true, true, true, true, true, true, true, true, true, true, true, true, true, true, true, true, true, true, true, true, true, false, false] rfl rfl (by kernel_rfl) (fun _ _ _ h => h) (Or.inl ⟨by rfl, ?_⟩) ?_ ?_
              rotate_left
              · intro w'
                go_simp
                with_reducible rfl
              rotate_left
              · simp only [Act.put, List.setIfInBounds_toArray, List.set_cons_zero, List.set_cons_succ, i64_w, i32_w]
                rfl
              refine pure_ (i := 25) (N := some 72) (v := ?_) (a' := ?_) #[true, true, true, true, true, true, true, true, true, true, true, true, true, true, true, true, true, true, true, true, true, true, true, true, true, true, false] rfl rfl (by kernel_rfl) (fun _ _ _ h => h) (Or.inl ⟨by rfl, ?_⟩) ?_ ?_
              rotate_left
              · intro w'
                go_simp
                with_reducible rfl
              rotate_left
              · simp only [Act.put, List.setIfInBounds_toArray, List.set_cons_zero, List.set_cons_succ, i64_w, i32_w]
                rfl
              refine pure_ (i := 26) (N := some 73) (v := ?_) (a' := ?_) #[true, true, true, true, true, true, true, true, true, true, true, true, true, true, true, true, true, true, true, true, true, true, true, true, true, true, true] rfl rfl (by kernel_rfl) (fun _ _ _ h => h) (Or.inl ⟨by rfl, ?_⟩) ?_ ?_
              rotate_left
              · intro w'
                go_simp
                with_reducible rfl
              rotate_left
              · simp only [Act.put, List.setIfInBounds_toArray, List.set_cons_zero, List.set_cons_succ, i64_w, i32_w]
                rfl
              refine done_ (by kernel_rfl) ?_
              by_cases hlt : enD b < enD s
              · have HBN := Lib.hid (bestAt.more (j := j) HBL.out HGS.out HCB.out hlt)
                go_wp2
                go_roundw
                case rel => exact ⟨k + 1, k, HK.out, rfl, by rw [HW1.out], HBN, HOd, HBd⟩
                case measure => exact meas_up HCM.out HK.out
              · have HBN := Lib.hid (bestAt.less HBL.out HJ.out HBJ.out HGS.out HCB.out hlt)
                have hle : enD s ≤ enD b := by omega
                clear hlt
                go_wp2
                go_roundw
                case rel => exact ⟨k + 1, j, HK.out, rfl, by rw [HW1.out], HBN, HOd, HBd⟩
                case measure => exact meas_up HCM.out HK.out
        · have hkl : k = C.length := by omega
          subst hkl
          have q : decide ((C.length : Int) < (C.length : Int)) = false := decide_eq_false (by omega)
          clear hlt hk
          go_wp2
          go_meet
          case rel => exact ⟨bv, rfl, HBA, HO, HB⟩
    clear HO HB
    obtain ⟨bv, rfl, HBA, HO, HB⟩ := hcut
    apply_assumption
    have HNX := Lib.hid (cand_next (C := C) HUP.out)
    have hba := HBA.out
    unfold bestAt at hba
    rw [List.take_length, ← HNX.out] at hba
    rcases hba with ⟨rfl, hbn⟩ | ⟨j, b, rfl, hj, hbj, hbl⟩
    · have HE := Lib.hid (HW.out.none hbn)
      have q1 : decide ((-1 : Int) < 0) = true := by decide
      clear hbn
      go_wp2
      go_ret
      exact ⟨_, rfl, by rw [← HE.out]; exact Kd.R_lower HO.out HN.out, bel_step HB1.out HN.out HB.out⟩
    · have HLS := Lib.hid hbl
      have HBJ := Lib.hid hbj
      have HOC := Lib.hid (show out.length + 1 ≤ C.length by
        have := (HW.out.add hbl).len HD.out
        rwa [List.length_append, List.length_singleton] at this)
      have q1 : decide ((j : Int) < 0) = false := decide_eq_false (by omega)
      have q2 : (j : Int) < (C.length : Int) := by omega
      obtain ⟨ad, rfl, g0, g1, g2, g3, g4, g5, g6, g7, g8, g9, g10⟩ := at_S (Kd.R_reads' (R_range HLR.out (fun k _ hk => HB.out.block k hk))).2.2 hbj
      have HSZ := Lib.hid (show N ≤ wc.heap.size by have h1 := HB.out.size; have h2 := HN1.out; omega)
      clear hbj hbl hj
      go_upto_region 14 with (first
          | ((with_reducible refine gate_dst (N := 82) rfl ?_); refine Kd.R_lit kS (w0 := wc) N 38 ?hg (N := 82) ?hd (xs := [b]) (inner := encS b) (ok := fun _ => True) (okp := fun _ => True) ?hr ?hp (fun _ hk => hk) trivial (Below.refl _ _) HSZ.out (by simp) ?_; (case hd => rfl); (case hg => rfl); (case hr => first | (go_simp; done) | (go_simp; rfl)); (case hp => exact reps_S _ _ _ _); intro v5 w5 ho hb hg_ hnew_; obtain ⟨A5, c5, rfl⟩ := Kd.R_slice ho; rw [show [b].length = 1 from rfl] at ho ⊢; have HO5 := Lib.hid (Kd.R_reads' ho).2.2; have HX5 := Lib.hid (row_keep HO.out hg_ (fun k hk e => by cases e)); have HB5 := Lib.hid (HB.out.trans hb); have HS5 := Lib.hid (Nat.le_trans HSZ.out hg_.size); clear ho hb hg_ hnew_)
          | ((with_reducible refine gate_builtin (b := .append) (xs := #[.tmp 77, .tmp 82]) rfl ?_); at_builtin; refine Kd.R_append_rows kS (w0 := w5) N rfl (.tmp 77) (.tmp 82) 22 38 (.agg #[(.int .u64 0), (.int .u64 0), (.int .u64 0), (.string ⟨#[]⟩), (.string ⟨#[]⟩), (.int .i64 0), (.int .i64 0), (.int .i64 0), (.slice none 0 0), (.slice none 0 0), (.slice none 0 0)]) 152 rfl Try.underlying22 infoS rfl (by decide) (by omega) (.slice Ao out.length co) out [b] A5 _ c5 (fun _ => True) (fun _ => False) rfl rfl HX5.out HO5.out (fun x_ cs_ h_ => h_) (fun _ h => h.elim) (fun _ _ => trivial) (Below.refl _ _) HS5.out (by have := HOC.out; have := HCN.out; simp; omega) ?_; intro v6 w7 ho hb hg_ hnew_; obtain ⟨A6, c6, rfl⟩ := Kd.R_slice ho; have HO7 := Lib.hid ho; have HB7 := Lib.hid (HB5.out.trans hb); clear ho hb hg_ hnew_))
      clear HO HB HX5 HO5 HB5 HS5 HSZ g0 g1 g2 g3 g4 g5 g6 g7 g8 g9 g10
      obtain ⟨ad2, he2, _, g1, _⟩ := at_S (Kd.R_reads' (R_range HLR.out (fun k _ hk => HB7.out.block k hk))).2.2 HBJ.out
      injection he2 with he2
      subst he2
      by_cases h0 : b.id = 0
      · have e1 : (b.id == 0) = true := beq_iff_eq.2 h0
        have HE := Lib.hid (HW.out.stop HD.out HLS.out h0)
        clear h0
        go_wp2
        go_ret
        exact ⟨_, rfl, by rw [← HE.out]; first | exact Kd.R_lower HO7.out HN.out | (have h := Kd.R_lower HO7.out HN.out; rw [List.length_append, List.length_singleton] at h; exact h), bel_step HB1.out HN.out HB7.out⟩
      · have e1 : (b.id == 0) = false := beq_eq_false_iff_ne.2 h0
        obtain ⟨m', hw'⟩ := HW.out.next HD.out HLS.out h0
        have HW2 := Lib.hid (show Wy C (out ++ [b]) (nextOf C (out ++ [b])) m' by rw [nextOf_snoc]; exact hw')
        have HU2 := Lib.hid (show ∀ x, (out ++ [b]).getLast? = some x → b.id = x.id from fun x hx => by rw [List.getLast?_concat] at hx; injection hx with hx; rw [hx])
        clear hw' h0
        go_wp2
        go_roundw
        case rel => exact ⟨A6, c6, out ++ [b], m', b.id, by rw [List.length_append, List.length_singleton], rfl, HW2, HU2, HO7, HB7⟩
        case measure =>
          have := HOC.out
          show C.length + 1 - (out.length + 1) < C.length + 1 - out.length
          omega

end Go.Proofs.Ytoigebnhnkdbbaa.Tr
