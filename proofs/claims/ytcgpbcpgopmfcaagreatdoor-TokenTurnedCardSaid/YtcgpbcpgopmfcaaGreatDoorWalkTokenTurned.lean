/- TokenTurned, walked. -/
import Derived.Test.YtcgpbcpgopmfcaaGreatDoorTokAwake
namespace Go.Proofs.YtcgpbcpgopmfcaaGreatDoor.Walk
open Go.RowKit Go.Proofs.YtcgpbcpgopmfcaaGreatDoorW.PrintWords Go.Proofs.YtcgpbcpgopmfcaaGreatDoorW.PrintLast Go.Proofs.YtcgpbcpgopmfcaaGreatDoorW.PrintMore Go.Proofs.YtcgpbcpgopmfcaaGreatDoor.Math Go.Proofs.YtcgpbcpgopmfcaaGreatDoor.PAll Go.Proofs.YtcgpbcpgopmfcaaGreatDoor.NumFacts Go.Proofs.YtcgpbcpgopmfcaaGreatDoor.Hex Go.Proofs.YtcgpbcpgopmfcaaGreatDoor.Tok
set_option linter.unusedVariables false
set_option linter.unusedSimpArgs false

/-- A row in a block of the call's own, each cell of which may be written. -/
structure Row1 (w : World) (N : Nat) (xs : List Int) : Prop where
  cell : ∀ j, j < xs.length → w.cell? ⟨N, j, none⟩ = some (.int .u8 (rd xs (j : Int)))
  frz : ∀ j, j < xs.length → w.frozen? ⟨N, j, none⟩ = false
theorem Row1.put {w : World} {N k : Nat} {xs : List Int} (h : Row1 w N xs) (hk : k < xs.length) (v : Int) : Row1 (w.setCell ⟨N, k, none⟩ (.int .u8 v)) N (xs.set k v) := by
  refine ⟨fun j hj => ?_, fun j hj => ?_⟩
  · rw [List.length_set] at hj
    by_cases e : j = k
    · subst e
      rw [World.cell?_setCell_same _ _ _ (h.cell j hj)]
      simp [rd, hj]
    · rw [World.cell?_setCell_other _ _ _ _ (by intro h; injection h with _ h; exact e h.symm), h.cell j hj]
      simp [rd, List.getD_eq_getElem?_getD, List.getElem?_set_ne (Ne.symm e)]
  · rw [List.length_set] at hj
    rw [World.frozen?_setCell]
    exact h.frz j hj
theorem Row1.C {w : World} {N : Nat} {xs : List Int} (h : Row1 w N xs) (hl : xs.length ≤ 9223372036854775807) : Kd.C (Kd.int .u8) w (some ⟨N, 0, none⟩) xs.length xs := by
  refine Kd.C_of_reads (d := (0 : Int)) ⟨rfl, hl, fun _ => ⟨_, rfl, ?_⟩⟩
  intro j hj
  rw [add_plain, h.cell j hj]
  simp [rd, List.getD_eq_getElem?_getD]
theorem Row1.below {w w1 : World} {N : Nat} {xs : List Int} (h : Row1 w N xs) (hN : N < w.heap.size) (hb : Below w.heap.size w w1) : Row1 w1 N xs :=
  ⟨fun j hj => (hb.cell (p := ⟨N, j, none⟩) hN).trans (h.cell j hj), fun j hj => (hb.frozen (p := ⟨N, j, none⟩) hN).trans (h.frz j hj)⟩
theorem Row1.bytes (W : World) (e : TypeId) (s : ByteArray) : Row1 (Lib.bytesWorld W e s) W.heap.size (bytesOf s) := by
  have hl := bytesOf_length s
  have hnew := Lib.bytesWorld_at_new W e s
  have hs := grownCap_ge W s.size 0 e
  refine ⟨fun j hj => ?_, fun j hj => ?_⟩
  · rw [hl] at hj
    rw [Lib.bytesWorld_cell W e s j hj]
    have h' : j < s.data.toList.length := by rw [data_length]; exact hj
    simp [rd, bytesOf, List.getD_eq_getElem?_getD, List.getElem?_eq_getElem h']
  · rw [hl] at hj
    have hsz : s.size ≤ (Lib.bytesCells W e s).size := by
      simp only [Lib.bytesCells, Array.size_append, Array.size_map]
      have : s.data.size = s.size := rfl
      omega
    simp only [World.frozen?, hnew]
    simp
    omega

set_option maxHeartbeats 8000000 in
set_option maxRecDepth 100000 in
theorem TokenTurned (W : World) (ver : Int) (hw : (Lit.int .u64 ver).wf = true) (A : Option Addr) (c : Nat) (l : List Int) (hl : l.length ≤ c) (hc : Kd.C (Kd.int .u8) W A l.length l) (hg : (∀ x ∈ l, (Lit.int .u8 x).wf = true) ∧ l.length * 1 ≤ 140737488351232)
    (v : List Int) (hv : v.length = 2) (hvw : ∀ x ∈ v, (Lit.int .u8 x).wf = true) (_hT : True) :
    Calls Tryz.prog 3 #[.int .u64 ver, .slice A l.length c, .agg (v.map (Value.int .u8)).toArray] W fun e w' => e = .returned (.bool true) ∧ Below W.heap.size W w' := by
  match v, hv with
  | [t0, t1], _ =>
  simp only [List.map_cons, List.map_nil]
  have hb := isB_of_wf hg.1
  have wt := isB_of_wf hvw
  have h0 := wt t0 (by simp)
  have h1 := wt t1 (by simp)
  simp [Lit.wf, IntKind.min, IntKind.max, IntKind.bits, IntKind.signed] at hw
  have HV := Lib.hid (show 0 ≤ ver ∧ ver < 18446744073709551616 by omega)
  have HAw := Lib.hid (fun w => awake_calls w)
  have HC := Lib.hid hc
  have HBi := Lib.hid hb
  clear hw hc hb wt hvw hg
  have HB0 := Lib.hid (below_alloc (Below.refl W.heap.size W) (.cells #[.int .u8 t0, .int .u8 t1] 24))
  have KB0 := Lib.hid (heap_alloc_new W (.cells #[.int .u8 t0, .int .u8 t1] 24))
  go_enter Tryz.func3, Tryz.ntmps3
  go_wp2_with fail
  refine (HAw.out _).mono ?_
  rintro e w1 ⟨rfl, hb⟩
  have HB1 := Lib.hid (below_step HB0.out hb)
  have KB1 := Lib.hid (block_below KB0.out hb)
  clear hb HB0 KB0 HAw
  by_cases hk : 1 ≤ l.length ∧ l.length ≤ 24
  · obtain ⟨k1, k2⟩ := hk
    have d1 : decide ((l.length : Int) < 1) = false := decide_eq_false (by omega)
    have d2 : decide ((24 : Int) < (l.length : Int)) = false := decide_eq_false (by omega)
    obtain ⟨T, hT⟩ : ∃ T, T = tokT ver (sumQ 1) l := ⟨_, rfl⟩
    have hsz := tokT_size ver HV.out.2 1 l k1 k2
    have hTi : IsB T := by rw [hT]; exact tokT_isB HV.out.1 HBi.out
    have hlen : 24 ≤ T.length ∧ T.length ≤ 100 := by
      rw [hT, tokT_len, sumQ_len]
      have := vput_len10 HV.out.2
      have := vput_len_pos ver
      omega
    have hbs : bytesOf (strOfNums T) = T := bytes_str hTi
    have hss : (strOfNums T).size = T.length := strOf_size T
    have HM := Lib.hid (fun w hr => make_calls ver 1 A c l w HV.out.1 HV.out.2 (.inr rfl) HBi.out hl hr k1 k2)
    rw [← hT] at HM hsz
    obtain ⟨i, hi⟩ : ∃ i : Nat, i = t0.toNat % T.length := ⟨_, rfl⟩
    have hil : i < T.length := by rw [hi]; exact Nat.mod_lt _ (by omega)
    have hmod : t0 % (T.length : Int) = (i : Int) := by
      obtain ⟨n0, rfl⟩ := Int.eq_ofNat_of_zero_le h0.1
      rw [hi, Int.toNat_natCast]
      exact (Int.natCast_emod n0 T.length).symm
    have htmod : t0.tmod (T.length : Int) = (i : Int) := by rw [Int.tmod_eq_emod_of_nonneg h0.1]; exact hmod
    obtain ⟨x, hx⟩ : ∃ x, x = rd T (i : Int) := ⟨_, rfl⟩
    have hT2 : IsB (T.set i t1) := fun y hy => by
      rcases List.mem_or_eq_of_mem_set hy with hy | rfl
      · exact hTi y hy
      · exact h1
    have hgx : T[i]? = some x := by
      rw [hx, List.getElem?_eq_getElem hil]
      simp [rd, List.getD_eq_getElem?_getD, List.getElem?_eq_getElem hil]
    have hbs2 : bytesOf (strOfNums (T.set i t1)) = T.set i t1 := bytes_str hT2
    have hss2 : (strOfNums (T.set i t1)).size = T.length := by rw [strOf_size, List.length_set]
    have HRsame := Lib.hid (fun (he : x = t1) => (show readT ver (sumQ 1) (bytesOf (strOfNums (T.set i t1))) = some l by
      rw [hbs2, show T.set i t1 = T by
        rw [← he]
        have : x = T[i] := by
          rw [List.getElem?_eq_getElem hil] at hgx
          injection hgx with hgx
          exact hgx.symm
        rw [this, List.set_getElem_self], hT]
      exact tok_reads HV.out.1 (sumQ_isB 1) HBi.out k1 k2))
    have HRnot := Lib.hid (fun (he : x ≠ t1) => (show readT ver (sumQ 1) (bytesOf (strOfNums (T.set i t1))) = none by
      rw [hbs2, hT]
      refine tok_turned HV.out.1 (sumQ_isB 1) HBi.out (by rw [← hT]; exact hil) ?_
      rw [← hT, hgx]
      intro e
      injection e with e
      exact he e))
    have HH := Lib.hid (show 24 ≤ T.length ∧ T.length ≤ 100 ∧ i < T.length from ⟨hlen.1, hlen.2, hil⟩)
    have HSS2 := Lib.hid hss2
    have HBS := Lib.hid hbs
    have HX := Lib.hid hx
    have h26 : ((T.length : Int) == 0) = false := beq_eq_false_iff_ne.2 (by omega)
    clear hT hTi hgx hbs2 hT2 hi hx hss2 hbs
    go_wp2_with fail
    refine (HM.out _ (Kd.C_alloc (Kd.C_below HC.out HB1.out) _)).mono ?_
    rintro e w2 ⟨rfl, hb⟩
    have HB2 := Lib.hid (below_step (below_alloc HB1.out (.cells #[.slice none 0 0, .int .i64 1] 28)) hb)
    have KB2 := Lib.hid (block_below (block_below KB1.out (below_alloc (Below.refl _ _) (.cells #[.slice none 0 0, .int .i64 1] 28))) hb)
    have KQ2 := Lib.hid (block_below (heap_alloc_new w1 (.cells #[.slice none 0 0, .int .i64 1] 28)) hb)
    have HLt := Lib.hid (show W.heap.size < w1.heap.size ∧ w1.heap.size < w2.heap.size from ⟨blk_lt KB1.out, blk_lt KQ2.out⟩)
    clear hb HM HC HB1 KB1
    have hR := Row1.bytes w2 5 (strOfNums T)
    rw [HBS.out] at hR
    generalize strOfNums T = sT at *
    have kb := print_bytes (P := Tryz.prog) 9 23 5 Tryz.underlying9 Tryz.underlying23 Tryz.underlying5 sT w2
    have hB : Below w2.heap.size w2 (Lib.bytesWorld w2 5 sT) := bytes_below (Below.refl _ _) (Nat.le_refl _) _ _
    have hcap := grownCap_ge w2 sT.size 0 5
    have hN : w2.heap.size < (Lib.bytesWorld w2 5 sT).heap.size := by rw [Lib.bytesWorld_size]; omega
    rw [hss] at kb hcap
    generalize grownCap w2 T.length 0 5 = cap at kb hcap
    generalize Lib.bytesWorld w2 5 sT = w3 at kb hR hB hN
    have HR3 := Lib.hid hR
    have HB3 := Lib.hid (below_step HB2.out hB)
    have KB3 := Lib.hid (block_below KB2.out hB)
    have KQ3 := Lib.hid (block_below KQ2.out hB)
    have HCap := Lib.hid hcap
    have HN3 := Lib.hid hN
    have x0 : w3.cell? ⟨W.heap.size, 0, none⟩ = some (.int .u8 t0) := (blk_cell KB3.out 0).trans rfl
    clear hR hB hcap hss hsz hlen hN
    have q0 : (0 : Int) ≤ (i : Int) := by omega
    have q1 : (i : Int) < (T.length : Int) := by omega
    go_wp2
    clear x0 kb
    have c1 : w3.drew.cell? ⟨w2.heap.size, i, none⟩ = some (.int .u8 x) := by rw [HX.out]; exact HR3.out.cell i HH.out.2.2
    have c2 : w3.drew.cell? ⟨W.heap.size, 1, none⟩ = some (.int .u8 t1) := (blk_cell KB3.out 1).trans rfl
    have hR4 : Row1 w3.drew w2.heap.size T := ⟨HR3.out.cell, HR3.out.frz⟩
    have hB4 := HB3.out.drew
    have kB4 := blk_drew KB3.out
    have kQ4 := blk_drew KQ3.out
    have hN4 : w2.heap.size < w3.drew.heap.size := HN3.out
    refine start_ (n := 8) (S := fun w' => w'.cell? ⟨w2.heap.size, i, none⟩ = some (.int .u8 x) ∧ w'.cell? ⟨W.heap.size, 1, none⟩ = some (.int .u8 t1)) (ds := []) #[false, false, false, false, false, false, false, false] (by kernel_rfl) rfl rfl ⟨c1, c2⟩ (fun hHeld => ?_)
    generalize w3.drew = w4 at c1 c2 hR4 hB4 kB4 kQ4 hN4 hHeld ⊢
    have HR4 := Lib.hid hR4
    have HB4 := Lib.hid hB4
    have KQ4 := Lib.hid kQ4
    have HN4 := Lib.hid hN4
    clear hR4 hB4 kB4 kQ4 hN4
    refine pure_ (i := 0) (N := some 38) (v := ?_) (a' := ?_) #[true, false, false, false, false, false, false, false] rfl rfl (by kernel_rfl) (fun _ _ _ h => h) (Or.inl ⟨by rfl, ?_⟩) ?_ ?_
    rotate_left
    · intro w'
      go_simp
      with_reducible rfl
    rotate_left
    · simp only [Act.put, List.setIfInBounds_toArray, List.set_cons_zero, List.set_cons_succ, i64_w, i32_w]
      rfl
    refine pure_ (i := 1) (N := some 39) (v := ?_) (a' := ?_) #[true, true, false, false, false, false, false, false] rfl rfl (by kernel_rfl) (fun _ _ _ h => h) (Or.inl ⟨by rfl, ?_⟩) ?_ ?_
    rotate_left
    · intro w'
      go_simp
      with_reducible rfl
    rotate_left
    · simp only [Act.put, List.setIfInBounds_toArray, List.set_cons_zero, List.set_cons_succ, i64_w, i32_w]
      rfl
    refine pure_ (i := 2) (N := some 40) (v := ?_) (a' := ?_) #[true, true, true, false, false, false, false, false] rfl rfl (by kernel_rfl) (fun _ _ _ h => h) (Or.inl ⟨by rfl, ?_⟩) ?_ ?_
    rotate_left
    · intro w'
      go_simp
      with_reducible rfl
    rotate_left
    · simp only [Act.put, List.setIfInBounds_toArray, List.set_cons_zero, List.set_cons_succ, i64_w, i32_w]
      rfl
    refine pure_ (i := 4) (N := some 42) (v := ?_) (a' := ?_) #[true, true, true, false, true, false, false, false] rfl rfl (by kernel_rfl) (fun _ _ _ h => h) (Or.inl ⟨by rfl, ?_⟩) ?_ ?_
    rotate_left
    · intro w'
      go_simp
      with_reducible rfl
    rotate_left
    · simp only [Act.put, List.setIfInBounds_toArray, List.set_cons_zero, List.set_cons_succ, i64_w, i32_w]
      rfl
    refine take_ (i := 3) (N := some 41) (v := ?_) (a' := ?_) #[true, true, true, true, true, false, false, false] rfl rfl (by kernel_rfl) (fun _ _ _ h => h) (Or.inl ⟨by rfl, ?_⟩) hHeld ?_ ?_
    rotate_left
    · rintro w' ⟨s0, s1⟩
      go_simp
      with_reducible rfl
    rotate_left
    · simp only [Act.put, List.setIfInBounds_toArray, List.set_cons_zero, List.set_cons_succ, i64_w, i32_w]
      rfl
    refine take_ (i := 5) (N := some 43) (v := ?_) (a' := ?_) #[true, true, true, true, true, true, false, false] rfl rfl (by kernel_rfl) (fun _ _ _ h => h) (Or.inl ⟨by rfl, ?_⟩) hHeld ?_ ?_
    rotate_left
    · rintro w' ⟨s0, s1⟩
      go_simp
      with_reducible rfl
    rotate_left
    · simp only [Act.put, List.setIfInBounds_toArray, List.set_cons_zero, List.set_cons_succ, i64_w, i32_w]
      rfl
    refine pure_ (i := 6) (N := some 44) (v := ?_) (a' := ?_) #[true, true, true, true, true, true, true, false] rfl rfl (by kernel_rfl) (fun _ _ _ h => h) (Or.inl ⟨by rfl, ?_⟩) ?_ ?_
    rotate_left
    · intro w'
      go_simp
      with_reducible rfl
    rotate_left
    · simp only [Act.put, List.setIfInBounds_toArray, List.set_cons_zero, List.set_cons_succ, i64_w, i32_w]
      rfl
    refine pure_ (i := 7) (N := some 10) (v := ?_) (a' := ?_) #[true, true, true, true, true, true, true, true] rfl rfl (by kernel_rfl) (fun _ _ _ h => h) (Or.inl ⟨by rfl, ?_⟩) ?_ ?_
    rotate_left
    · intro w'
      go_simp
      with_reducible rfl
    rotate_left
    · simp only [Act.put, List.setIfInBounds_toArray, List.set_cons_zero, List.set_cons_succ, i64_w, i32_w]
      rfl
    refine done_ (by kernel_rfl) ?_
    have f1 := HR4.out.frz i HH.out.2.2
    have hR5 := HR4.out.put HH.out.2.2 t1
    have hC5 := hR5.C (by rw [List.length_set]; have := HH.out; omega)
    have hcv := Kd.C_string (P := Tryz.prog) (c := cap) Tryz.underlying23 Tryz.underlying5 Tryz.underlying9 hC5
    rw [List.length_set] at hcv
    have hB5 : Below W.heap.size W (w4.setCell ⟨w2.heap.size, i, none⟩ (.int .u8 t1)) := HB4.out.setCell (by have := HLt.out; simp; omega) _
    have kQ5 : (w4.setCell ⟨w2.heap.size, i, none⟩ (.int .u8 t1)).heap[w1.heap.size]? = some (.cells #[.slice none 0 0, .int .i64 1] 28 (0, 0)) := by
      rw [Below.heap_setCell _ _ _ _ (by have := HLt.out; simp; omega)]
      exact KQ4.out
    have y0 : (w4.setCell ⟨w2.heap.size, i, none⟩ (.int .u8 t1)).cell? ⟨w1.heap.size, 0, none⟩ = some (.slice none 0 0) := (blk_cell kQ5 0).trans rfl
    have y1 : (w4.setCell ⟨w2.heap.size, i, none⟩ (.int .u8 t1)).cell? ⟨w1.heap.size, 1, none⟩ = some (.int .i64 1) := (blk_cell kQ5 1).trans rfl
    have HB5 := Lib.hid hB5
    clear hR5 hC5 kQ5 hB5
    have hst : strOfNums (T.set i t1) = strOfNums (T.set i t1) := rfl
    by_cases he : x = t1
    · have e1 : (x == t1) = true := beq_iff_eq.2 he
      have HRd := Lib.hid (HRsame.out he)
      clear he hst
      generalize strOfNums (T.set i t1) = s5 at *
      have HS5 := Lib.hid (show s5.size ≤ 1000000 ∧ s5.size ≠ 0 by have := HH.out; rw [HSS2.out]; omega)
      go_wp2_with fail
      refine (read_key s5 ver 1 _ HV.out.1 HV.out.2 (.inr rfl) HS5.out.1 HS5.out.2 l HRd.out).mono ?_
      rintro e w6 ⟨A6, c6, rfl, _, hb⟩
      have HB6 := Lib.hid (below_step HB5.out hb)
      clear hb hcv y0 y1
      go_wp2
      go_ret
      exact ⟨rfl, HB6.out⟩
    · have e1 : (x == t1) = false := beq_eq_false_iff_ne.2 he
      have HRd := Lib.hid (HRnot.out he)
      clear he hst
      generalize strOfNums (T.set i t1) = s5 at *
      have HS5 := Lib.hid (show s5.size ≤ 1000000 ∧ s5.size ≠ 0 by have := HH.out; rw [HSS2.out]; omega)
      go_wp2_with fail
      refine (read_none s5 ver 1 _ HV.out.1 HV.out.2 (.inr rfl) HS5.out.1 HS5.out.2 HRd.out).mono ?_
      rintro e w6 ⟨rfl, hb⟩
      have HB6 := Lib.hid (below_step HB5.out hb)
      clear hb hcv y0 y1
      go_wp2
      go_ret
      exact ⟨rfl, HB6.out⟩
  · by_cases k1 : 1 ≤ l.length
    · have d1 : decide ((l.length : Int) < 1) = false := decide_eq_false (by omega)
      have d2 : decide ((24 : Int) < (l.length : Int)) = true := decide_eq_true (by omega)
      go_wp2
      go_ret
      exact ⟨rfl, HB1.out⟩
    · have d1 : decide ((l.length : Int) < 1) = true := decide_eq_true (by omega)
      go_wp2
      go_ret
      exact ⟨rfl, HB1.out⟩

end Go.Proofs.YtcgpbcpgopmfcaaGreatDoor.Walk
