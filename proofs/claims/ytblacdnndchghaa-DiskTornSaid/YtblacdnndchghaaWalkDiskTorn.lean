/- The walk of DiskTorn, at any two bytes and two truths. -/
import Derived.Test.YtblacdnndchghaaDiskLaw1
import Derived.Test.YtblacdnndchghaaDiskLaw2
import Derived.Test.YtblacdnndchghaaReads
namespace Go.Proofs.Ytblacdnndchghaa.Walk
open Go.RowKit Go.Proofs.YtblacdnndchghaaW.PrintWords Go.Proofs.YtblacdnndchghaaW.PrintLast Go.Proofs.YtblacdnndchghaaW.PrintMore Go.Proofs.Ytblacdnndchghaa.Math Go.Proofs.Ytblacdnndchghaa.PAll Go.Proofs.Ytblacdnndchghaa.D Go.Proofs.Ytblacdnndchghaa.Open
set_option linter.unusedVariables false
set_option linter.unusedSimpArgs false

theorem cut1023 (A : Option Addr) (c : Nat) (hc : 1024 ≤ c) : ∀ W : World, (Instr.slice 34 (.slice A 1024 c) none (some (.int .i64 1023)) none).run Try.prog W = .ok (.slice A 1023 c) W := by
  obtain ⟨i0, hi, hzz⟩ := Option.map_eq_some_iff.1 info5
  simp only [Prod.mk.injEq] at hzz
  have := (print_take_of (P := Try.prog) (Value.int .u8) (0 : Int) 34 5 .i64 Try.underlying34 hi hzz.2.1 A c (List.replicate 1024 0) 1023 (by decide) (by rw [List.length_replicate]; decide) (by rw [List.length_replicate]; exact hc)).1
  intro W
  have h := this W
  rw [List.length_replicate, List.length_take, List.length_replicate] at h
  exact h
theorem t1 (z b : List Int) (hb : b.length = 1024) : write ⟨[z], [], 0, false⟩ 0 b = (0, ⟨[z], [(0, b)], 0, false⟩) := by
  unfold write
  rw [if_neg (by rintro (h | h); exact h ⟨Int.le_refl 0, show (0 : Int) < ((1 : Nat) : Int) by decide⟩; exact h hb), if_neg (by intro h; cases h)]
  rfl
theorem t2 (z a : List Int) : sync ⟨[z], [(0, a)], 0, false⟩ = (0, ⟨[a], [], 0, false⟩) := rfl
theorem t4 (a b : List Int) (h : Bool) (tn : Int) : crash ⟨[a], [(0, b)], 0, false⟩ [h] tn = ⟨[if h then (if 0 = tn then torn b else b) else a], [], 0, false⟩ := by
  cases h <;> rfl
theorem t5 (a : List Int) : safeP ⟨[a], [], 0, false⟩ 0 = a := rfl
theorem torn_take (x : Int) : (torn (fpage x)).take 1023 = (fpage x).take 1023 := by
  have hne : fpage x ≠ [] := by intro e; have := fpage_len x; rw [e] at this; cases this
  unfold torn
  rw [if_neg hne, fpage_len, List.take_set_of_le (by decide)]
set_option maxHeartbeats 8000000 in
set_option maxRecDepth 20000 in
theorem torn_calls (W : World) (a b : Int) (ha : 0 ≤ a ∧ a < 256) (hb0 : 0 ≤ b ∧ b < 256) (h0 h1 : Bool) :
    Calls Try.prog 4 #[.int .u8 a, .int .u8 b, .agg #[.bool h0, .bool h1]] W fun e w' => e = .returned (.bool true) ∧ Below W.heap.size W w' := by
  have hk := heap_alloc_new W (.cells #[.bool h0, .bool h1] 41)
  have hbw := below_alloc (Below.refl W.heap.size W) (.cells #[.bool h0, .bool h1] 41)
  have KH0 := Lib.hid hk
  have HB0 := Lib.hid hbw
  clear hk hbw
  have hu41 := Try.underlying41
  go_enter Try.func4, Try.ntmps4
  go_wp2_with fail
  refine (awake_calls _).mono ?_
  rintro e w1 ⟨rfl, hb⟩
  have HB1 := Lib.hid (below_step HB0.out hb)
  have KH1 := Lib.hid (block_below KH0.out hb)
  clear hb HB0 KH0
  go_wp2_with fail
  refine (LD.new2 W w1 HB1.out 1).mono ?_
  rintro e w2 ⟨p, rfl, gm, vS, hd, hb⟩
  have HD2 := Lib.hid (show LD W w2 p gm vS nilS ⟨[zpage], [], 0, false⟩ from hd)
  have KH2 := Lib.hid (block_below KH1.out hb)
  clear hd hb HB1 KH1
  go_wp2_with fail
  refine (filled_calls a w2).mono ?_
  rintro e w3 ⟨v3, rfl, hv, hb⟩
  have HV := Lib.hid hv
  have HD3 := Lib.hid (HD2.out.next hb)
  have KH3 := Lib.hid (block_below KH2.out hb)
  clear hv hb HD2 KH2
  go_wp2_with fail
  refine (HD3.out.write 0 HV.out (by rw [fpage_len]; decide) (fpage_isB ha.1 ha.2) (by show (0 : Nat) ≤ _; exact Nat.zero_le _)).mono ?_
  rintro e w4 ⟨rfl, vW4, hd, ht⟩
  rw [t1 _ _ (fpage_len a)] at hd ⊢
  have HD4 := Lib.hid hd
  have KH4 := Lib.hid (blk_turn ht KH3.out (HD3.out.d.notT KH3.out (by decide) (by decide) (by decide)))
  clear hd ht HV HD3 KH3
  go_wp2_with fail
  refine HD4.out.sync.mono ?_
  rintro e w5 ⟨rfl, vW5, hd, ht⟩
  rw [t2] at hd ⊢
  have HD5 := Lib.hid hd
  have KH5 := Lib.hid (blk_turn ht KH4.out (HD4.out.d.notT KH4.out (by decide) (by decide) (by decide)))
  clear hd ht HD4 KH4
  go_wp2_with fail
  refine (filled_calls b w5).mono ?_
  rintro e w6 ⟨v6, rfl, hv, hb⟩
  have HV := Lib.hid hv
  have HD6 := Lib.hid (HD5.out.next hb)
  have KH6 := Lib.hid (block_below KH5.out hb)
  clear hv hb HD5 KH5
  go_wp2_with fail
  refine (HD6.out.write 0 HV.out (by rw [fpage_len]; decide) (fpage_isB hb0.1 hb0.2) (by show (0 : Nat) ≤ _; exact Nat.zero_le _)).mono ?_
  rintro e w7 ⟨rfl, vW7, hd, ht⟩
  rw [t1 _ _ (fpage_len b)] at hd ⊢
  have HD7 := Lib.hid hd
  have KH7 := Lib.hid (blk_turn ht KH6.out (HD6.out.d.notT KH6.out (by decide) (by decide) (by decide)))
  clear hd ht HV HD6 KH6
  have z0 : w7.cell? ⟨W.heap.size, 0, none⟩ = some (.bool h0) := (blk_cell KH7.out 0).trans rfl
  have z1 : w7.cell? ⟨W.heap.size, 1, none⟩ = some (.bool h1) := (blk_cell KH7.out 1).trans rfl
  have hn7 := heap_alloc_new w7 (.cells #[.bool h0] 4)
  have hd7 := HD7.out.next (below_alloc (Below.refl _ _) (.cells #[.bool h0] 4))
  have kh7 := block_below KH7.out (below_alloc (Below.refl _ _) (.cells #[.bool h0] 4))
  have hC := C_bools [h0] (by show (1 : Nat) ≤ _; decide) hn7
  have hcr : ∀ tn : Int, Calls Try.prog 20 #[.pointer (some ⟨p, 0, none⟩), .slice (some ⟨w7.heap.size, 0, none⟩) 1 1, .int .i64 tn] (w7.alloc (.cells #[.bool h0] 4)) fun e w' => e = .returned (.tuple #[]) ∧ LD W w' p gm vS nilS ⟨[if h0 then (if 0 = tn then torn (fpage b) else fpage b) else fpage a], [], 0, false⟩ ∧ w'.heap[W.heap.size]? = some (.cells #[.bool h0, .bool h1] 41 (0, 0)) := by
    intro tn
    refine (hd7.crash (some ⟨w7.heap.size, 0, none⟩) 1 [h0] (by show (1 : Nat) ≤ 1; decide) hC (fun ad ha => by injection ha with ha; subst ha; exact ⟨blk_lt hn7, hd7.d.notbool hn7⟩) tn (by show (1 : Nat) ≤ _; decide)).mono ?_
    rintro e w' ⟨rfl, hd, ht⟩
    rw [t4] at hd
    exact ⟨rfl, hd, blk_turn ht kh7 (hd7.d.notT kh7 (by decide) (by decide) (by decide))⟩
  have HCR := Lib.hid hcr
  clear hn7 hd7 kh7 hC hcr HD7 KH7
  cases h1 with
  | false =>
    go_wp2_with fail
    refine (HCR.out (-1)).mono ?_
    rintro e w8 ⟨rfl, hd, kh⟩
    have HD8 := Lib.hid hd
    have KH8 := Lib.hid kh
    clear hd kh HCR z0 z1
    go_wp2_with fail
    refine (safe_calls HD8.out.d 0).mono ?_
    rintro e w9 ⟨v9, rfl, hm, hb⟩
    have hr9 := Rw.of_R hm
    rw [t5] at hr9
    have KH9 := Lib.hid (block_below KH8.out hb)
    have HB9 := Lib.hid (below_step HD8.out.below hb)
    clear hm hb HD8 KH8
    have z0 : w9.cell? ⟨W.heap.size, 0, none⟩ = some (.bool h0) := (blk_cell KH9.out 0).trans rfl
    have z1 : w9.cell? ⟨W.heap.size, 1, none⟩ = some (.bool false) := (blk_cell KH9.out 1).trans rfl
    cases h0 with
    | false =>
      rw [if_neg (by decide)] at hr9
      have HR9 := Lib.hid hr9
      clear hr9
      go_wp2_with fail
      refine (filled_calls a w9).mono ?_
      rintro e w10 ⟨v10, rfl, hv, hb⟩
      have HV := Lib.hid hv
      have HR10 := Lib.hid (HR9.out.below hb)
      have HB10 := Lib.hid (below_step HB9.out hb)
      clear hv hb HR9 z0 z1
      go_wp2_with fail
      refine (same_rw HR10.out HV.out (by rw [fpage_len]; decide) w10 (Below.refl _ _)).mono ?_
      rintro e w11 ⟨rfl, hb⟩
      rw [decide_eq_true (rfl : fpage a = fpage a)]
      have HB11 := Lib.hid (below_step HB10.out hb)
      clear hb
      go_wp2
      go_ret
      exact ⟨rfl, HB11.out⟩
    | true =>
      rw [if_pos rfl] at hr9
      first | rw [if_neg (by decide)] at hr9 | rw [if_neg id] at hr9
      have hl9 : (fpage b).length = 1024 := by rw [fpage_len]
      obtain ⟨g, c, rfl, hc, hcell⟩ := hr9.at_ (by rw [hl9]; decide)
      have y0 := hcell 1023 (by rw [hl9]; decide)
      rw [show ((1023 : Nat) : Int) = 1023 from rfl, show (1023 : Int) = ((1023 : Nat) : Int) from rfl, fpage_rd b 1023 (by decide)] at y0
      obtain ⟨_, _, hsl, _, hCC⟩ := hr9.reads
      injection hsl with hA _ hcc
      subst hA
      have htk := Kd.C_take (m := 1023) hCC (by rw [hl9]; decide)
      rw [hl9] at hc
      have hcut := cut1023 (some ⟨g, 0, none⟩) c hc
      rw [hl9]
      have HTK := Lib.hid htk
      have HHC := Lib.hid hc
      have HY := Lib.hid y0
      have ht10 : ((fpage b).take 1023).length = 1023 := by rw [List.length_take, hl9]; decide
      have HT10 := Lib.hid ht10
      clear hr9 hl9 hcell hcc hCC htk hc y0 ht10
      go_wp2
      have hbd := HB9.out.drew
      have kd := blk_drew KH9.out
      have hck : Kd.C (Kd.int .u8) w9.drew (some ⟨g, 0, none⟩) ((fpage b).take 1023).length ((fpage b).take 1023) := Kd.C_below HTK.out (Below.refl _ _).drew
      have yd : w9.drew.cell? ⟨g, 1023, none⟩ = some (.int .u8 (b)) := HY.out
      clear HTK HY HB9 KH9 z0 z1
      refine start_ (n := 12) (S := fun w' => True) (ds := []) #[false, false, false, false, false, false, false, false, false, false, false, false] (by kernel_rfl) rfl rfl trivial (fun hHeld => ?_)
      generalize w9.drew = w5_ at hbd kd hck yd hHeld ⊢
      have HBD := Lib.hid hbd
      have KD := Lib.hid kd
      have HCK := Lib.hid hck
      have YD := Lib.hid yd
      clear hbd kd hck yd
      refine pure_ (i := 0) (N := some 51) (v := ?_) (a' := ?_) #[true, false, false, false, false, false, false, false, false, false, false, false] rfl rfl (by kernel_rfl) (fun _ _ _ h => h) (Or.inl ⟨by rfl, ?_⟩) ?_ ?_
      rotate_left
      · intro w'
        go_simp
        with_reducible rfl
      rotate_left
      · simp only [Act.put, List.setIfInBounds_toArray, List.set_cons_zero, List.set_cons_succ, i64_w, i32_w]
        rfl
      refine pure_ (i := 1) (N := some 52) (v := ?_) (a' := ?_) #[true, true, false, false, false, false, false, false, false, false, false, false] rfl rfl (by kernel_rfl) (fun _ _ _ h => h) (Or.inl ⟨by rfl, ?_⟩) ?_ ?_
      rotate_left
      · intro w'
        go_simp
        with_reducible rfl
      rotate_left
      · simp only [Act.put, List.setIfInBounds_toArray, List.set_cons_zero, List.set_cons_succ, i64_w, i32_w]
        rfl
      refine pure_ (i := 2) (N := some 53) (v := ?_) (a' := ?_) #[true, true, true, false, false, false, false, false, false, false, false, false] rfl rfl (by kernel_rfl) (fun _ _ _ h => h) (Or.inl ⟨by rfl, ?_⟩) ?_ ?_
      rotate_left
      · intro w'
        go_simp
        with_reducible rfl
      rotate_left
      · simp only [Act.put, List.setIfInBounds_toArray, List.set_cons_zero, List.set_cons_succ, i64_w, i32_w]
        rfl
      refine pure_ (i := 3) (N := some 54) (v := ?_) (a' := ?_) #[true, true, true, true, false, false, false, false, false, false, false, false] rfl rfl (by kernel_rfl) (fun _ _ _ h => h) (Or.inl ⟨by rfl, ?_⟩) ?_ ?_
      rotate_left
      · intro w'
        go_simp
        with_reducible rfl
      rotate_left
      · simp only [Act.put, List.setIfInBounds_toArray, List.set_cons_zero, List.set_cons_succ, i64_w, i32_w]
        rfl
      refine pure_ (i := 4) (N := some 55) (v := ?_) (a' := ?_) #[true, true, true, true, true, false, false, false, false, false, false, false] rfl rfl (by kernel_rfl) (fun _ _ _ h => h) (Or.inl ⟨by rfl, ?_⟩) ?_ ?_
      rotate_left
      · intro w'
        go_simp
        with_reducible rfl
      rotate_left
      · simp only [Act.put, List.setIfInBounds_toArray, List.set_cons_zero, List.set_cons_succ, i64_w, i32_w]
        rfl
      refine pure_ (i := 5) (N := some 56) (v := ?_) (a' := ?_) #[true, true, true, true, true, true, false, false, false, false, false, false] rfl rfl (by kernel_rfl) (fun _ _ _ h => h) (Or.inl ⟨by rfl, ?_⟩) ?_ ?_
      rotate_left
      · intro w'
        go_simp
        with_reducible rfl
      rotate_left
      · simp only [Act.put, List.setIfInBounds_toArray, List.set_cons_zero, List.set_cons_succ, i64_w, i32_w]
        rfl
      refine pure_ (i := 6) (N := some 57) (v := ?_) (a' := ?_) #[true, true, true, true, true, true, true, false, false, false, false, false] rfl rfl (by kernel_rfl) (fun _ _ _ h => h) (Or.inl ⟨by rfl, ?_⟩) ?_ ?_
      rotate_left
      · intro w'
        go_simp
        with_reducible rfl
      rotate_left
      · simp only [Act.put, List.setIfInBounds_toArray, List.set_cons_zero, List.set_cons_succ, i64_w, i32_w]
        rfl
      refine one_ (i := 7) (N := some 58) #[true, true, true, true, true, true, true, true, false, false, false, false] rfl rfl (by kernel_rfl) (by decide) (fun K hK => ?_)
      refine goes_ Try.func13 (by kernel_rfl) rfl #[.int .u8 b] (by rfl) rfl rfl (by simp only [List.map_toArray, List.map_cons, List.map_nil]; rfl) ?_
      with_reducible refine (filled_calls b w5_).mono ?_
      rintro e w10 ⟨v10, rfl, hv, hb⟩
      refine ⟨_, rfl, ?_⟩
      obtain ⟨A10, c10, rfl, hc10, hC10⟩ := hv.reads
      have htk10 := Kd.C_take (m := 1023) hC10 (by rw [fpage_len]; decide)
      rw [fpage_len] at hc10 ⊢
      have hcut10 := cut1023 A10 c10 hc10
      have HTK10 := Lib.hid htk10
      have HCK10 := Lib.hid (Kd.C_below HCK.out hb)
      have HBD10 := Lib.hid (below_step HBD.out hb)
      have KD10 := Lib.hid (block_below KD.out hb)
      have YD10 := Lib.hid ((hb.cell (World.block_lt_of_cell? w5_ _ YD.out)).trans YD.out)
      have HC10 := Lib.hid hc10
      clear hv hb hC10 htk10 hc10
      refine hK.out _ _ trivial (fun hHeld => ?_)
      clear hK K
      refine norm_ (a' := ?_) ?_ ?_
      rotate_left
      · show Act.put _ (some 58) _ = _
        simp only [Act.put, List.setIfInBounds_toArray, List.set_cons_zero, List.set_cons_succ, i64_w, i32_w]
        rfl
      refine pure_ (i := 8) (N := some 59) (v := ?_) (a' := ?_) #[true, true, true, true, true, true, true, true, true, false, false, false] rfl rfl (by kernel_rfl) (fun _ _ _ h => h) (Or.inl ⟨by rfl, ?_⟩) ?_ ?_
      rotate_left
      · intro w'
        go_simp
        with_reducible rfl
      rotate_left
      · simp only [Act.put, List.setIfInBounds_toArray, List.set_cons_zero, List.set_cons_succ, i64_w, i32_w]
        rfl
      refine one_ (i := 9) (N := some 60) #[true, true, true, true, true, true, true, true, true, true, false, false] rfl rfl (by kernel_rfl) (by decide) (fun K hK => ?_)
      refine goes_ Try.func17 (by kernel_rfl) rfl #[.slice (some ⟨g, 0, none⟩) 1023 c, .slice A10 1023 c10] (by rfl) rfl rfl (by simp only [List.map_toArray, List.map_cons, List.map_nil]; rfl) ?_
      with_reducible refine (same_take HT10.out HCK10.out (by have := HHC.out; omega) HTK10.out (by rw [List.length_take, fpage_len]; decide) (by have := HC10.out; omega)).mono ?_
      rintro e w11 ⟨rfl, hb⟩
      refine ⟨_, rfl, ?_⟩
      rw [decide_eq_true (show (fpage b).take 1023 = (fpage b).take 1023 from rfl)]
      have HB11 := Lib.hid (below_step HBD10.out hb)
      have KD11 := Lib.hid (block_below KD10.out hb)
      have yd11 : w11.cell? ⟨g, 1023, none⟩ = some (.int .u8 (b)) := (hb.cell (World.block_lt_of_cell? w10 _ YD10.out)).trans YD10.out
      clear hb
      refine hK.out _ _ trivial (fun hHeld => ?_)
      clear hK K
      refine norm_ (a' := ?_) ?_ ?_
      rotate_left
      · show Act.put _ (some 60) _ = _
        simp only [Act.put, List.setIfInBounds_toArray, List.set_cons_zero, List.set_cons_succ, i64_w, i32_w]
        rfl
      refine pure_ (i := 10) (N := some 61) (v := ?_) (a' := ?_) #[true, true, true, true, true, true, true, true, true, true, true, false] rfl rfl (by kernel_rfl) (fun _ _ _ h => h) (Or.inl ⟨by rfl, ?_⟩) ?_ ?_
      rotate_left
      · intro w'
        go_simp
        with_reducible rfl
      rotate_left
      · simp only [Act.put, List.setIfInBounds_toArray, List.set_cons_zero, List.set_cons_succ, i64_w, i32_w]
        rfl
      refine pure_ (i := 11) (N := some 62) (v := ?_) (a' := ?_) #[true, true, true, true, true, true, true, true, true, true, true, true] rfl rfl (by kernel_rfl) (fun _ _ _ h => h) (Or.inl ⟨by rfl, ?_⟩) ?_ ?_
      rotate_left
      · intro w'
        go_simp
        with_reducible rfl
      rotate_left
      · simp only [Act.put, List.setIfInBounds_toArray, List.set_cons_zero, List.set_cons_succ, i64_w, i32_w]
        rfl
      refine done_ (by kernel_rfl) ?_
      have z1 : w11.cell? ⟨W.heap.size, 1, none⟩ = some (.bool false) := (blk_cell KD11.out 1).trans rfl
      have he : (b == b) = true := beq_self_eq_true _
      go_wp2
      go_ret
      exact ⟨rfl, HB11.out⟩
  | true =>
    go_wp2_with fail
    refine (HCR.out (0)).mono ?_
    rintro e w8 ⟨rfl, hd, kh⟩
    have HD8 := Lib.hid hd
    have KH8 := Lib.hid kh
    clear hd kh HCR z0 z1
    go_wp2_with fail
    refine (safe_calls HD8.out.d 0).mono ?_
    rintro e w9 ⟨v9, rfl, hm, hb⟩
    have hr9 := Rw.of_R hm
    rw [t5] at hr9
    have KH9 := Lib.hid (block_below KH8.out hb)
    have HB9 := Lib.hid (below_step HD8.out.below hb)
    clear hm hb HD8 KH8
    have z0 : w9.cell? ⟨W.heap.size, 0, none⟩ = some (.bool h0) := (blk_cell KH9.out 0).trans rfl
    have z1 : w9.cell? ⟨W.heap.size, 1, none⟩ = some (.bool true) := (blk_cell KH9.out 1).trans rfl
    cases h0 with
    | false =>
      rw [if_neg (by decide)] at hr9
      have HR9 := Lib.hid hr9
      clear hr9
      go_wp2_with fail
      refine (filled_calls a w9).mono ?_
      rintro e w10 ⟨v10, rfl, hv, hb⟩
      have HV := Lib.hid hv
      have HR10 := Lib.hid (HR9.out.below hb)
      have HB10 := Lib.hid (below_step HB9.out hb)
      clear hv hb HR9 z0 z1
      go_wp2_with fail
      refine (same_rw HR10.out HV.out (by rw [fpage_len]; decide) w10 (Below.refl _ _)).mono ?_
      rintro e w11 ⟨rfl, hb⟩
      rw [decide_eq_true (rfl : fpage a = fpage a)]
      have HB11 := Lib.hid (below_step HB10.out hb)
      clear hb
      go_wp2
      go_ret
      exact ⟨rfl, HB11.out⟩
    | true =>
      rw [if_pos rfl] at hr9
      first | rw [if_pos rfl] at hr9 | rw [if_pos trivial] at hr9
      have hl9 : (torn (fpage b)).length = 1024 := by rw [torn_len, fpage_len]
      obtain ⟨g, c, rfl, hc, hcell⟩ := hr9.at_ (by rw [hl9]; decide)
      have y0 := hcell 1023 (by rw [hl9]; decide)
      rw [show ((1023 : Nat) : Int) = 1023 from rfl, torn_last] at y0
      obtain ⟨_, _, hsl, _, hCC⟩ := hr9.reads
      injection hsl with hA _ hcc
      subst hA
      have htk := Kd.C_take (m := 1023) hCC (by rw [hl9]; decide)
      rw [hl9] at hc
      have hcut := cut1023 (some ⟨g, 0, none⟩) c hc
      rw [hl9]
      have HTK := Lib.hid htk
      have HHC := Lib.hid hc
      have HY := Lib.hid y0
      have ht10 : ((torn (fpage b)).take 1023).length = 1023 := by rw [List.length_take, hl9]; decide
      have HT10 := Lib.hid ht10
      clear hr9 hl9 hcell hcc hCC htk hc y0 ht10
      go_wp2
      have hbd := HB9.out.drew
      have kd := blk_drew KH9.out
      have hck : Kd.C (Kd.int .u8) w9.drew (some ⟨g, 0, none⟩) ((torn (fpage b)).take 1023).length ((torn (fpage b)).take 1023) := Kd.C_below HTK.out (Below.refl _ _).drew
      have yd : w9.drew.cell? ⟨g, 1023, none⟩ = some (.int .u8 (255 - b)) := HY.out
      clear HTK HY HB9 KH9 z0 z1
      refine start_ (n := 12) (S := fun w' => True) (ds := []) #[false, false, false, false, false, false, false, false, false, false, false, false] (by kernel_rfl) rfl rfl trivial (fun hHeld => ?_)
      generalize w9.drew = w5_ at hbd kd hck yd hHeld ⊢
      have HBD := Lib.hid hbd
      have KD := Lib.hid kd
      have HCK := Lib.hid hck
      have YD := Lib.hid yd
      clear hbd kd hck yd
      refine pure_ (i := 0) (N := some 51) (v := ?_) (a' := ?_) #[true, false, false, false, false, false, false, false, false, false, false, false] rfl rfl (by kernel_rfl) (fun _ _ _ h => h) (Or.inl ⟨by rfl, ?_⟩) ?_ ?_
      rotate_left
      · intro w'
        go_simp
        with_reducible rfl
      rotate_left
      · simp only [Act.put, List.setIfInBounds_toArray, List.set_cons_zero, List.set_cons_succ, i64_w, i32_w]
        rfl
      refine pure_ (i := 1) (N := some 52) (v := ?_) (a' := ?_) #[true, true, false, false, false, false, false, false, false, false, false, false] rfl rfl (by kernel_rfl) (fun _ _ _ h => h) (Or.inl ⟨by rfl, ?_⟩) ?_ ?_
      rotate_left
      · intro w'
        go_simp
        with_reducible rfl
      rotate_left
      · simp only [Act.put, List.setIfInBounds_toArray, List.set_cons_zero, List.set_cons_succ, i64_w, i32_w]
        rfl
      refine pure_ (i := 2) (N := some 53) (v := ?_) (a' := ?_) #[true, true, true, false, false, false, false, false, false, false, false, false] rfl rfl (by kernel_rfl) (fun _ _ _ h => h) (Or.inl ⟨by rfl, ?_⟩) ?_ ?_
      rotate_left
      · intro w'
        go_simp
        with_reducible rfl
      rotate_left
      · simp only [Act.put, List.setIfInBounds_toArray, List.set_cons_zero, List.set_cons_succ, i64_w, i32_w]
        rfl
      refine pure_ (i := 3) (N := some 54) (v := ?_) (a' := ?_) #[true, true, true, true, false, false, false, false, false, false, false, false] rfl rfl (by kernel_rfl) (fun _ _ _ h => h) (Or.inl ⟨by rfl, ?_⟩) ?_ ?_
      rotate_left
      · intro w'
        go_simp
        with_reducible rfl
      rotate_left
      · simp only [Act.put, List.setIfInBounds_toArray, List.set_cons_zero, List.set_cons_succ, i64_w, i32_w]
        rfl
      refine pure_ (i := 4) (N := some 55) (v := ?_) (a' := ?_) #[true, true, true, true, true, false, false, false, false, false, false, false] rfl rfl (by kernel_rfl) (fun _ _ _ h => h) (Or.inl ⟨by rfl, ?_⟩) ?_ ?_
      rotate_left
      · intro w'
        go_simp
        with_reducible rfl
      rotate_left
      · simp only [Act.put, List.setIfInBounds_toArray, List.set_cons_zero, List.set_cons_succ, i64_w, i32_w]
        rfl
      refine pure_ (i := 5) (N := some 56) (v := ?_) (a' := ?_) #[true, true, true, true, true, true, false, false, false, false, false, false] rfl rfl (by kernel_rfl) (fun _ _ _ h => h) (Or.inl ⟨by rfl, ?_⟩) ?_ ?_
      rotate_left
      · intro w'
        go_simp
        with_reducible rfl
      rotate_left
      · simp only [Act.put, List.setIfInBounds_toArray, List.set_cons_zero, List.set_cons_succ, i64_w, i32_w]
        rfl
      refine pure_ (i := 6) (N := some 57) (v := ?_) (a' := ?_) #[true, true, true, true, true, true, true, false, false, false, false, false] rfl rfl (by kernel_rfl) (fun _ _ _ h => h) (Or.inl ⟨by rfl, ?_⟩) ?_ ?_
      rotate_left
      · intro w'
        go_simp
        with_reducible rfl
      rotate_left
      · simp only [Act.put, List.setIfInBounds_toArray, List.set_cons_zero, List.set_cons_succ, i64_w, i32_w]
        rfl
      refine one_ (i := 7) (N := some 58) #[true, true, true, true, true, true, true, true, false, false, false, false] rfl rfl (by kernel_rfl) (by decide) (fun K hK => ?_)
      refine goes_ Try.func13 (by kernel_rfl) rfl #[.int .u8 b] (by rfl) rfl rfl (by simp only [List.map_toArray, List.map_cons, List.map_nil]; rfl) ?_
      with_reducible refine (filled_calls b w5_).mono ?_
      rintro e w10 ⟨v10, rfl, hv, hb⟩
      refine ⟨_, rfl, ?_⟩
      obtain ⟨A10, c10, rfl, hc10, hC10⟩ := hv.reads
      have htk10 := Kd.C_take (m := 1023) hC10 (by rw [fpage_len]; decide)
      rw [fpage_len] at hc10 ⊢
      have hcut10 := cut1023 A10 c10 hc10
      have HTK10 := Lib.hid htk10
      have HCK10 := Lib.hid (Kd.C_below HCK.out hb)
      have HBD10 := Lib.hid (below_step HBD.out hb)
      have KD10 := Lib.hid (block_below KD.out hb)
      have YD10 := Lib.hid ((hb.cell (World.block_lt_of_cell? w5_ _ YD.out)).trans YD.out)
      have HC10 := Lib.hid hc10
      clear hv hb hC10 htk10 hc10
      refine hK.out _ _ trivial (fun hHeld => ?_)
      clear hK K
      refine norm_ (a' := ?_) ?_ ?_
      rotate_left
      · show Act.put _ (some 58) _ = _
        simp only [Act.put, List.setIfInBounds_toArray, List.set_cons_zero, List.set_cons_succ, i64_w, i32_w]
        rfl
      refine pure_ (i := 8) (N := some 59) (v := ?_) (a' := ?_) #[true, true, true, true, true, true, true, true, true, false, false, false] rfl rfl (by kernel_rfl) (fun _ _ _ h => h) (Or.inl ⟨by rfl, ?_⟩) ?_ ?_
      rotate_left
      · intro w'
        go_simp
        with_reducible rfl
      rotate_left
      · simp only [Act.put, List.setIfInBounds_toArray, List.set_cons_zero, List.set_cons_succ, i64_w, i32_w]
        rfl
      refine one_ (i := 9) (N := some 60) #[true, true, true, true, true, true, true, true, true, true, false, false] rfl rfl (by kernel_rfl) (by decide) (fun K hK => ?_)
      refine goes_ Try.func17 (by kernel_rfl) rfl #[.slice (some ⟨g, 0, none⟩) 1023 c, .slice A10 1023 c10] (by rfl) rfl rfl (by simp only [List.map_toArray, List.map_cons, List.map_nil]; rfl) ?_
      with_reducible refine (same_take HT10.out HCK10.out (by have := HHC.out; omega) HTK10.out (by rw [List.length_take, fpage_len]; decide) (by have := HC10.out; omega)).mono ?_
      rintro e w11 ⟨rfl, hb⟩
      refine ⟨_, rfl, ?_⟩
      rw [decide_eq_true (show (torn (fpage b)).take 1023 = (fpage b).take 1023 from torn_take b)]
      have HB11 := Lib.hid (below_step HBD10.out hb)
      have KD11 := Lib.hid (block_below KD10.out hb)
      have yd11 : w11.cell? ⟨g, 1023, none⟩ = some (.int .u8 (255 - b)) := (hb.cell (World.block_lt_of_cell? w10 _ YD10.out)).trans YD10.out
      clear hb
      refine hK.out _ _ trivial (fun hHeld => ?_)
      clear hK K
      refine norm_ (a' := ?_) ?_ ?_
      rotate_left
      · show Act.put _ (some 60) _ = _
        simp only [Act.put, List.setIfInBounds_toArray, List.set_cons_zero, List.set_cons_succ, i64_w, i32_w]
        rfl
      refine pure_ (i := 10) (N := some 61) (v := ?_) (a' := ?_) #[true, true, true, true, true, true, true, true, true, true, true, false] rfl rfl (by kernel_rfl) (fun _ _ _ h => h) (Or.inl ⟨by rfl, ?_⟩) ?_ ?_
      rotate_left
      · intro w'
        go_simp
        with_reducible rfl
      rotate_left
      · simp only [Act.put, List.setIfInBounds_toArray, List.set_cons_zero, List.set_cons_succ, i64_w, i32_w]
        rfl
      refine pure_ (i := 11) (N := some 62) (v := ?_) (a' := ?_) #[true, true, true, true, true, true, true, true, true, true, true, true] rfl rfl (by kernel_rfl) (fun _ _ _ h => h) (Or.inl ⟨by rfl, ?_⟩) ?_ ?_
      rotate_left
      · intro w'
        go_simp
        with_reducible rfl
      rotate_left
      · simp only [Act.put, List.setIfInBounds_toArray, List.set_cons_zero, List.set_cons_succ, i64_w, i32_w]
        rfl
      refine done_ (by kernel_rfl) ?_
      have z1 : w11.cell? ⟨W.heap.size, 1, none⟩ = some (.bool true) := (blk_cell KD11.out 1).trans rfl
      have hw : IntKind.u8.wrap (255 - b) = 255 - b := by rw [show IntKind.u8.wrap (255 - b) = (255 - b) % 256 from IntKind.wrap_u8 _]; omega
      by_cases hbb : 255 - b = b
      · have he : (255 - b == b) = true := beq_iff_eq.2 hbb
        have he2 : (255 - b == 255 - b) = true := beq_self_eq_true _
        clear hbb
        go_wp2
        go_ret
        exact ⟨rfl, HB11.out⟩
      · have he : (255 - b == b) = false := beq_eq_false_iff_ne.2 hbb
        have he2 : (255 - b == 255 - b) = true := beq_self_eq_true _
        clear hbb
        go_wp2
        go_ret
        exact ⟨rfl, HB11.out⟩
theorem two_bools {W : World} {l : List Bool} {cs : Array Value} (hk : (Kd.arr 2 Kd.bool (of_decide_eq_true (by kernel_rfl))).K W l cs.toList) (hl : l.length = 2) : ∃ h0 h1 : Bool, cs = #[.bool h0, .bool h1] := by
  match l, hl with
  | [h0, h1], _ =>
  obtain ⟨hlen, hg⟩ := hk.2
  have g0 := hg 0 h0 rfl
  have g1 := hg 1 h1 rfl
  have hsz : Kd.bool.sz = 1 := rfl
  rw [hsz] at hlen g0 g1
  have e0 : (cs.toList.drop (0 * 1)).take 1 = [.bool h0] := g0
  have e1 : (cs.toList.drop (1 * 1)).take 1 = [.bool h1] := g1
  refine ⟨h0, h1, ?_⟩
  have hc : cs.toList = [.bool h0, .bool h1] := by
    match hm : cs.toList, (show cs.toList.length = 2 from hlen) with
    | [x, y], _ =>
      rw [hm] at e0 e1
      simp at e0 e1
      rw [e0, e1]
  exact (Array.toArray_toList (xs := cs)).symm.trans (congrArg List.toArray hc)
theorem u8_wf {n : Int} (h : (Lit.int .u8 n).wf = true) : 0 ≤ n ∧ n < 256 := by
  have h0 : IntKind.u8.min ≤ n ∧ n ≤ IntKind.u8.max := by simpa [Lit.wf] using h
  have h1 : (0 : Int) ≤ n ∧ n ≤ 255 := h0
  omega
theorem DiskTorn (W : World) (a : Int) (ha : (Lit.int .u8 a).wf = true) (b : Int) (hb : (Lit.int .u8 b).wf = true) (l : List Bool) (cs : Array Value) (hk : (Kd.arr 2 Kd.bool (of_decide_eq_true (by kernel_rfl))).K W l cs.toList) (hg : List.length l = 2 ∧ ∀ x_ ∈ l, True) :
    Calls Try.prog 4 #[.int .u8 a, .int .u8 b, .agg cs] W fun e w' => e = .returned (.bool true) ∧ Below W.heap.size W w' := by
  obtain ⟨h0, h1, rfl⟩ := two_bools hk hg.1
  exact torn_calls W a b (u8_wf ha) (u8_wf hb) h0 h1
end Go.Proofs.Ytblacdnndchghaa.Walk
