/- slices.Concat of any rows, bytes.Equal | HasPrefix | CutPrefix: contracts by hand. -/
import Derived.Test.YtcgpbcpgopmfcaaGreatDoorExtConcat
import Derived.Test.YtcgpbcpgopmfcaaGreatDoorPAllx1
import Derived.Test.YtcgpbcpgopmfcaaGreatDoorCuts
namespace Go.Proofs.YtcgpbcpgopmfcaaGreatDoor.PAll
open Go.RowKit Go.Proofs.YtcgpbcpgopmfcaaGreatDoorW.PrintWords Go.Proofs.YtcgpbcpgopmfcaaGreatDoorW.PrintLast Go.Proofs.YtcgpbcpgopmfcaaGreatDoorW.PrintMore Go.Proofs.YtcgpbcpgopmfcaaGreatDoor.Math
set_option linter.unusedVariables false
set_option linter.unusedSimpArgs false

/-- Rows, where they lie, what they are; one behind the other. -/
def flatR (rs : List (Option Addr × Nat × List Int)) : List Int := (rs.map (·.2.2)).flatten
theorem flatR_take {rs : List (Option Addr × Nat × List Int)} {k : Nat} {r : Option Addr × Nat × List Int} (h : rs[k]? = some r) : flatR (rs.take (k + 1)) = flatR (rs.take k) ++ r.2.2 := by
  obtain ⟨hk, h⟩ := List.getElem?_eq_some_iff.1 h
  unfold flatR
  rw [List.take_succ_eq_append_getElem hk, h]
  simp
theorem flatR_app (a b : List (Option Addr × Nat × List Int)) : flatR (a ++ b) = flatR a ++ flatR b := by simp [flatR]
theorem flatR_le (rs : List (Option Addr × Nat × List Int)) (k : Nat) : (flatR (rs.take k)).length ≤ (flatR rs).length := by
  have h := flatR_app (rs.take k) (rs.drop k)
  rw [List.take_append_drop] at h
  rw [h, List.length_append]
  omega

set_option maxHeartbeats 2000000 in
theorem concat_calls (g : Nat) (rs : List (Option Addr × Nat × List Int)) (w : World) (hb : w.heap[g]? = some (.cells (rs.map fun r => Value.slice r.1 r.2.2.length r.2.1).toArray 23 (0, 0)))
    (hr : ∀ r ∈ rs, Kd.C (Kd.int .u8) w r.1 r.2.2.length r.2.2) (hn : rs.length ≤ 1000000) (h0 : 0 < (flatR rs).length) (h1 : (flatR rs).length ≤ 70368744177664) :
    Calls Tryz.prog 19 #[.slice (some ⟨g, 0, none⟩) rs.length rs.length] w fun e w' => ∃ v, e = .returned v ∧ Kd.R (Kd.int .u8) 5 w' w.heap.size (fun _ => True) v (flatR rs) ∧ Below w.heap.size w w' := by
  have HBK := Lib.hid hb
  have HR := Lib.hid hr
  have HN := Lib.hid hn
  have H0 := Lib.hid h0
  have H1 := Lib.hid h1
  clear hb hr hn h0 h1
  have HC := Lib.hid (show ∀ (W : World) (k : Nat) r, W.heap[g]? = some (.cells (rs.map fun r => Value.slice r.1 r.2.2.length r.2.1).toArray 23 (0, 0)) → rs[k]? = some r → W.cell? ⟨g, k, none⟩ = some (.slice r.1 r.2.2.length r.2.1) by
    intro W k r hW hk
    refine (blk_cell hW k).trans ?_
    simp [List.getElem?_toArray, hk])
  obtain ⟨n, hn⟩ : ∃ n, n = rs.length := ⟨_, rfl⟩
  have HNn := Lib.hid hn
  rw [← hn]
  have hn1 : n ≤ 1000000 := by have := HN.out; omega
  clear hn
  go_enter Tryz.func19, Tryz.ntmps19
  go_wp2
  go_loopw [3, 5, 11] (fun v _ i wr => wr = w ∧ ∃ k : Nat, k ≤ n ∧ i = .int .i64 k ∧ v = .int .i64 ((flatR (rs.take k)).length : Int)) (fun _ _ i _ => n - (intOf i).toNat)
  case atStart => exact ⟨rfl, 0, by omega, rfl, rfl⟩
  case round =>
    obtain ⟨hwe, k, hk, rfl, rfl⟩ := hrel
    obtain rfl := hwe.symm
    by_cases hlt : k < n
    · obtain ⟨r, hkr⟩ : ∃ r, rs[k]? = some r := ⟨_, List.getElem?_eq_getElem (by rw [← HNn.out]; exact hlt)⟩
      have k0 := HC.out _ k r HBK.out hkr
      have HT := Lib.hid (flatR_take hkr)
      have HL := Lib.hid (flatR_le rs k)
      have HL2 := Lib.hid (flatR_le rs (k + 1))
      have q : (k : Int) < (n : Int) := by omega
      have hsum : ((flatR (rs.take k)).length : Int) + (r.2.2.length : Int) = ((flatR (rs.take (k + 1))).length : Int) := by rw [HT.out, List.length_append]; omega
      have hw : wrap64 ((flatR (rs.take k)).length + (r.2.2.length : Int)) = ((flatR (rs.take (k + 1))).length : Int) := by
        rw [hsum]; exact wrap_id (by omega) (by have := HL2.out; have := H1.out; omega)
      have hd : decide (((flatR (rs.take (k + 1))).length : Int) < 0) = false := decide_eq_false (by omega)
      have hd2 : ¬ (((flatR (rs.take (k + 1))).length : Int) < 0) := by omega
      clear hkr hsum
      obtain ⟨m2, hm2⟩ : ∃ m2, (flatR (rs.take (k + 1))).length = m2 := ⟨_, rfl⟩
      rw [hm2] at hw hd hd2
      have HM2 := Lib.hid hm2
      clear hm2
      generalize (flatR (rs.take k)).length = m1 at hw
      have HW := Lib.hid hw
      go_wp2
      go_roundw
      case rel => exact ⟨by first | rfl | trivial, k + 1, by omega, by go_num, by rw [HM2.out]; first | rfl | rw [HW.out]⟩
      case measure => simp [intOf]; omega
    · obtain rfl : k = n := by omega
      have HF := Lib.hid (show (flatR (rs.take k)) = flatR rs by rw [List.take_of_length_le (by rw [← HNn.out]; omega)])
      rw [HF.out]
      obtain ⟨m, hm⟩ : ∃ m, m = (flatR rs).length := ⟨_, rfl⟩
      rw [← hm]
      have HM := Lib.hid hm
      clear hm
      go_wp2_with fail
      refine (grow_calls m _ (by rw [HM.out]; exact H0.out) (by rw [HM.out]; exact H1.out)).mono ?_
      rintro e w1 ⟨v, rfl, hv, hb⟩
      have HV := Lib.hid hv
      have HB := Lib.hid hb
      clear hv hb
      go_wp2
      go_loopw [6, 8, 27] (fun v _ i wr => Hid (Below w.heap.size w wr) ∧ ∃ j : Nat, j ≤ k ∧ i = .int .i64 j ∧ Hid (Kd.R (Kd.int .u8) 5 wr w.heap.size (fun _ => True) v (flatR (rs.take j)))) (fun _ _ i _ => k - (intOf i).toNat)
      case atStart => exact ⟨HB, 0, by omega, rfl, HV⟩
      case round =>
        clear HV HB
        obtain ⟨HB, j, hj, rfl, HV⟩ := hrel
        by_cases hjl : j < k
        · obtain ⟨r, hkr⟩ : ∃ r, rs[j]? = some r := ⟨_, List.getElem?_eq_getElem (by rw [← HNn.out]; exact hjl)⟩
          have k0 := HC.out _ j r (block_below HBK.out HB.out) hkr
          have HRr := Lib.hid (Kd.C_below (HR.out r (List.mem_of_getElem? hkr)) HB.out)
          have HT := Lib.hid (flatR_take hkr)
          have HL2 := Lib.hid (flatR_le rs (j + 1))
          have q : (j : Int) < (k : Int) := by omega
          clear hkr
          go_wp2_with (first | ((with_reducible refine gate_dst (N := 33) rfl ?_); refine Kd.R_append_rows (Kd.int .u8) (w0 := w) w.heap.size rfl (.tmp 31) (.tmp 32) 23 5 (.int .u8 0) 1 rfl Tryz.underlying23 info5 rfl (by decide) (by omega) u6 (flatR (rs.take j)) r.2.2 r.1 r.2.2.length r.2.1 (fun _ => True) (fun _ => False) rfl rfl HV.out HRr.out (fun _ _ h => h) (fun _ h => h.elim) (fun _ _ => trivial) HB.out HB.out.size (by have := H1.out; have h2 := HL2.out; rw [HT.out, List.length_append] at h2; omega) ?_; intro v1 w2 ho hb2 hg_ hnew_; have HV2 := Lib.hid ho; have HB2 := Lib.hid hb2; clear hg_ hnew_ ho hb2))
          go_roundw
          case rel => exact ⟨HB2, j + 1, by omega, by go_num, by have h := HV2.out; rw [← HT.out] at h; exact Lib.hid h⟩
          case measure => simp [intOf]; omega
        · obtain rfl : j = k := by omega
          go_wp2
          go_ret
          exact ⟨_, rfl, by have h := HV.out; rw [HF.out] at h; exact h, HB.out⟩

end Go.Proofs.YtcgpbcpgopmfcaaGreatDoor.PAll
