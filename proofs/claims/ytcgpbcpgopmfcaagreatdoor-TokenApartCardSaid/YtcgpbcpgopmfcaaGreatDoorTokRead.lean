/- token.Make and token.Read (chapter 24), by hand. -/
import Derived.Test.YtcgpbcpgopmfcaaGreatDoorTokHead
import Derived.Test.YtcgpbcpgopmfcaaGreatDoorTokText
import Derived.Test.YtcgpbcpgopmfcaaGreatDoorExtClone
import Derived.Test.YtcgpbcpgopmfcaaGreatDoorPAllx1
namespace Go.Proofs.YtcgpbcpgopmfcaaGreatDoor.Tok
open Go.RowKit Go.Proofs.YtcgpbcpgopmfcaaGreatDoorW.PrintWords Go.Proofs.YtcgpbcpgopmfcaaGreatDoorW.PrintLast Go.Proofs.YtcgpbcpgopmfcaaGreatDoorW.PrintMore Go.Proofs.YtcgpbcpgopmfcaaGreatDoor.Math Go.Proofs.YtcgpbcpgopmfcaaGreatDoor.PAll Go.Proofs.YtcgpbcpgopmfcaaGreatDoor.NumFacts Go.Proofs.YtcgpbcpgopmfcaaGreatDoor.Hex
set_option linter.unusedVariables false
set_option linter.unusedSimpArgs false

theorem strOf_list (l : List Int) : (strOfNums l).data.toList = l.map fun x => UInt8.ofNat x.toNat := by simp [strOfNums]
theorem strOf_inj {a b : List Int} (ha : IsB a) (hb : IsB b) (h : strOfNums a = strOfNums b) : a = b := by
  have h2 := congrArg (fun s : ByteArray => s.data.toList) h
  simp only [strOf_list] at h2
  clear h
  induction a generalizing b with
  | nil => cases b with | nil => rfl | cons _ _ => simp at h2
  | cons x a ih =>
    cases b with
    | nil => simp at h2
    | cons y b =>
      rw [List.map_cons, List.map_cons, List.cons.injEq] at h2
      have hx := isB_head ha
      have hy := isB_head hb
      have e := congrArg UInt8.toNat h2.1
      simp only [UInt8.toNat_ofNat'] at e
      rw [ih (isB_tail ha) (isB_tail hb) h2.2]
      congr 1
      omega
theorem bytes_str {l : List Int} (h : IsB l) : bytesOf (strOfNums l) = l := by
  unfold bytesOf
  rw [strOf_list, List.map_map]
  conv => rhs; rw [← List.map_id l]
  refine List.map_congr_left fun x hx => ?_
  have := h x hx
  simp only [Function.comp_apply, UInt8.toNat_ofNat', id_eq]
  omega
theorem strOf_size (l : List Int) : (strOfNums l).size = l.length := by
  have := congrArg List.length (strOf_list l)
  simpa using this

theorem tokB_head (ver o : Int) (key : List Int) : ([99, 116] ++ (vput ver ++ sumQ o)) ++ key = tokB ver (sumQ o) key := by unfold tokB; simp [List.append_assoc]

set_option maxHeartbeats 400000 in
set_option maxRecDepth 100000 in
theorem make_calls (ver o : Int) (A : Option Addr) (c : Nat) (key : List Int) (w : World) (h0 : 0 ≤ ver) (h1 : ver < 18446744073709551616) (ho : o = 0 ∨ o = 1) (hk : IsB key) (hc : key.length ≤ c) (hr : Kd.C (Kd.int .u8) w A key.length key) (k1 : 1 ≤ key.length) (k2 : key.length ≤ 24) :
    Calls Tryz.prog 6 #[.int .u64 ver, .agg #[.slice none 0 0, .int .i64 o], .slice A key.length c] w fun e w' => e = .returned (.string (strOfNums (tokT ver (sumQ o) key))) ∧ Below w.heap.size w w' := by
  have hB := tokB_isB (S := sumQ o) (key := key) h0 (sumQ_isB o) hk
  have hBl : (tokB ver (sumQ o) key).length ≤ 60 := by
    have := vput_len10 h1
    unfold tokB
    simp only [List.length_append, List.length_cons, List.length_nil, sumQ_len]
    omega
  have HH := Lib.hid (fun w => head_calls ver o w h0 h1 ho)
  have HR := Lib.hid hr
  have HK := Lib.hid hk
  have hcs := crcSum_bounds (tokB ver (sumQ o) key)
  have HP := Lib.hid (show num_Put32.f 9 (crcSum (tokB ver (sumQ o) key)) = some (p32 (crcSum (tokB ver (sumQ o) key))) from put32_eq 9 _ hcs.1 hcs.2 (by omega))
  have HC := Lib.hid (show crc_Sum.f (tokB ver (sumQ o) key) = some (crcSum (tokB ver (sumQ o) key)) by unfold crc_Sum.f; rw [if_pos hB])
  have HT := Lib.hid (tokB_head ver o key)
  have HTB := Lib.hid (isB_app hB (p32_isB (crcSum (tokB ver (sumQ o) key))))
  have HBl := Lib.hid hBl
  have HTT := Lib.hid (show tokT ver (sumQ o) key = hexT (tokB ver (sumQ o) key ++ p32 (crcSum (tokB ver (sumQ o) key))) from rfl)
  have HhL := Lib.hid (show ([99, 116] ++ (vput ver ++ sumQ o)).length ≤ 60 by
    have := vput_len10 h1
    simp only [List.length_append, List.length_cons, List.length_nil, sumQ_len]
    omega)
  clear hr hk h0 h1 ho hB hBl hcs
  generalize tokB ver (sumQ o) key = B at *
  generalize crcSum B = cs at *
  generalize [99, 116] ++ (vput ver ++ sumQ o) = Hd at *
  have d1 : decide ((key.length : Int) < 1) = false := decide_eq_false (by omega)
  have d2 : decide ((24 : Int) < (key.length : Int)) = false := decide_eq_false (by omega)
  go_enter Tryz.func6, Tryz.ntmps6
  go_wp2_with fail
  refine (HH.out _).mono ?_
  rintro e w1 ⟨v1, rfl, hv1, hb1⟩
  have HV1 := Lib.hid hv1
  have HB1 := Lib.hid (below_step (below_alloc (Below.refl w.heap.size w) (.cells #[.slice none 0 0, .int .i64 o] 28)) hb1)
  have HR1 := Lib.hid (Kd.C_below HR.out HB1.out)
  have HLo := Lib.hid (Kd.R_lower hv1 (below_alloc (Below.refl w.heap.size w) (.cells #[.slice none 0 0, .int .i64 o] 28)).size)
  clear hv1 hb1
  go_wp2_with (first | ((with_reducible refine gate_builtin (b := .append) (xs := #[.tmp 18, .tmp 19]) rfl ?_); at_builtin; refine Kd.R_append_rows (Kd.int .u8) (w0 := w) w.heap.size rfl (.tmp 18) (.tmp 19) 23 5 (.int .u8 0) 1 rfl Tryz.underlying23 info5 rfl (by decide) (by omega) _ Hd key A _ c (fun _ => True) (fun _ => False) rfl rfl HLo.out HR1.out (fun _ _ h => h) (fun _ h => h.elim) (fun _ _ => trivial) HB1.out HB1.out.size (by have := HhL.out; omega) ?_; intro v2 w2 ho hb hg_ hnew_; clear hg_ hnew_; rw [HT.out] at ho; obtain ⟨A2, c2, rfl⟩ := Kd.R_slice ho; have HV2 := Lib.hid ho; have HC2 := Lib.hid (Kd.R_reads' ho).2; have HB2 := Lib.hid hb; clear ho hb) | fail)
  refine (crc_Sum.calls A2 c2 B cs _ HC2.out.2 HC2.out.1 HC.out).mono ?_
  rintro e w3 ⟨rfl, hb3⟩
  have HV3 := Lib.hid (Kd.R_below HV2.out hb3)
  have HB3 := Lib.hid (below_step HB2.out hb3)
  clear hb3
  go_wp2_with fail
  refine (num_Put32.calls 9 cs _ _ HP.out).mono ?_
  rintro e w4 ⟨v4, rfl, hv4, hb4⟩
  obtain ⟨A4, c4, rfl, hc4, hr4⟩ := RdB.of_Q hv4
  have HV4 := Lib.hid (Kd.R_below HV3.out hb4)
  have HB4 := Lib.hid (below_step HB3.out hb4)
  have HR4 := Lib.hid hr4
  clear hv4 hb4 hr4 HV3 HB3 HB2 HV2 HC2
  go_wp2_with (first | ((with_reducible refine gate_builtin (b := .append) (xs := #[.tmp 21, .tmp 24]) rfl ?_); at_builtin; refine Kd.R_append_rows (Kd.int .u8) (w0 := w) w.heap.size rfl (.tmp 21) (.tmp 24) 23 5 (.int .u8 0) 1 rfl Tryz.underlying23 info5 rfl (by decide) (by omega) _ B (p32 cs) A4 _ c4 (fun _ => True) (fun _ => False) rfl rfl HV4.out HR4.out (fun _ _ h => h) (fun _ h => h.elim) (fun _ _ => trivial) HB4.out HB4.out.size (by have := HBl.out; have : (p32 cs).length = 4 := rfl; omega) ?_; intro v5 w5 ho hb hg_ hnew_; clear hg_ hnew_; obtain ⟨A5, c5, rfl⟩ := Kd.R_slice ho; have HC5 := Lib.hid (Kd.R_reads' ho).2; have HB5 := Lib.hid hb; clear ho hb) | fail)
  rw [show B.length + (p32 cs).length = (B ++ p32 cs).length from List.length_append.symm]
  refine (text_digits A5 c5 (B ++ p32 cs) _ HC5.out.2 HC5.out.1 (by have := HBl.out; rw [List.length_append]; have : (p32 cs).length = 4 := rfl; omega) HTB.out).mono ?_
  rintro e w6 ⟨rfl, hb6⟩
  have HB6 := Lib.hid (below_step HB5.out hb6)
  clear hb6
  go_wp2
  go_ret
  exact ⟨by rw [HTT.out]; rfl, HB6.out⟩

end Go.Proofs.YtcgpbcpgopmfcaaGreatDoor.Tok
