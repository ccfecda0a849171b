/- slices.Grow (of nil), slices.Concat: contracts by hand. -/
import Derived.Test.YtcgpbcpgopmfcaaGreatDoorPAllx0
import Derived.Test.YtcgpbcpgopmfcaaGreatDoorBlocks
import Derived.Lib.SliceRun
import Derived.Outline
import Derived.Test.YtcgpbcpgopmfcaaGreatDoorWZeros
namespace Go.Proofs.YtcgpbcpgopmfcaaGreatDoor.PAll
open Go.RowKit Go.Proofs.YtcgpbcpgopmfcaaGreatDoorW.PrintWords Go.Proofs.YtcgpbcpgopmfcaaGreatDoorW.PrintLast Go.Proofs.YtcgpbcpgopmfcaaGreatDoorW.PrintMore Go.Proofs.YtcgpbcpgopmfcaaGreatDoor.Math
set_option linter.unusedVariables false
set_option linter.unusedSimpArgs false

set_option maxHeartbeats 1000000 in
theorem grow_calls (n : Nat) (w : World) (h0 : 0 < n) (hn : n ≤ 70368744177664) :
    Calls Tryz.prog 28 #[.slice none 0 0, .int .i64 (n : Int)] w fun e w' => ∃ v, e = .returned v ∧ Kd.R (Kd.int .u8) 5 w' w.heap.size (fun _ => True) v [] ∧ Below w.heap.size w w' := by
  have q : (0 : Int) < (n : Int) := by omega
  have hw : wrap64 (n : Int) = (n : Int) := wrap_id (by omega) (by omega)
  go_enter Tryz.func28, Tryz.ntmps28
  have HN := Lib.hid hn
  clear h0 hn
  go_wp2_with ((with_reducible refine gate_dst (N := 22) rfl ?_); refine Kd.R_append_zeros (Kd.int .u8) (w0 := w) w.heap.size rfl (.tmp 20) (.tmp 21) 23 3 5 (.int .u8 0) 1 rfl Tryz.underlying23 Tryz.underlying3 info5 rfl (by decide) (by omega) (.slice none 0 0) ([] : List Int) 0 (wrap64 (n : Int)) (fun _ => True) rfl rfl rfl (fun _ _ => trivial) (Kd.R_nil _ _ _ _ _) (by rw [hw]; exact Int.natCast_nonneg n) (Below.refl _ _) (Nat.le_refl _) (by rw [hw]; clear hw; have := HN.out; simp; omega) ?_; intro v1 w1 ho hb hg hat; generalize (([] : List Int) ++ List.replicate (wrap64 (n : Int)).toNat 0) = zs at ho; obtain ⟨A, c, rfl⟩ := Kd.R_slice ho; obtain ⟨i0, hi0, _, _, _⟩ := info_parts info5; have hcut := cut_to (P := Tryz.prog) 23 5 .i64 Tryz.underlying23 hi0 A zs.length c 0 (by omega) (by omega) (Kd.R_reads' ho).2.1; have HO := Lib.hid (Kd.R_take (m := 0) ho (by omega)); have HB := Lib.hid hb; clear ho hb hg hat hi0)
  go_ret
  exact ⟨_, rfl, by simpa using HO.out, HB.out⟩

/-- slices.Concat of two rows. -/
def slices_Concat2.f (x y : List Int) : Option (List Int) := if 0 < x.length + y.length ∧ x.length + y.length ≤ 70368744177664 then some (x ++ y) else none

set_option maxHeartbeats 1000000 in
theorem concat2_calls (g : Nat) (A1 A2 : Option Addr) (c1 c2 : Nat) (x y : List Int) (w : World) (hb : w.heap[g]? = some (.cells #[.slice A1 x.length c1, .slice A2 y.length c2] 23 (0, 0)))
    (h1 : Kd.C (Kd.int .u8) w A1 x.length x) (h2 : Kd.C (Kd.int .u8) w A2 y.length y) (hx : x.length ≤ 35184372088832) (hy : y.length ≤ 35184372088832) (hx0 : 0 < x.length) (hy0 : 0 < y.length) :
    Calls Tryz.prog 19 #[.slice (some ⟨g, 0, none⟩) 2 2] w fun e w' => ∃ v, e = .returned v ∧ Kd.R (Kd.int .u8) 5 w' w.heap.size (fun _ => True) v (x ++ y) ∧ Below w.heap.size w w' := by
  have k0 : w.cell? ⟨g, 0, none⟩ = some (.slice A1 x.length c1) := (blk_cell hb 0).trans rfl
  have k1 : w.cell? ⟨g, 1, none⟩ = some (.slice A2 y.length c2) := (blk_cell hb 1).trans rfl
  have K0 := Lib.hid k0
  have K1 := Lib.hid k1
  have H1 := Lib.hid h1
  have H2 := Lib.hid h2
  have HX := Lib.hid hx
  have HY := Lib.hid hy
  have HX0 := Lib.hid hx0
  have HBK := Lib.hid hb
  clear k0 k1 h1 h2 hx hy hb hx0 hy0
  go_enter Tryz.func19, Tryz.ntmps19
  go_wp2
  go_loopw [3, 5, 11] (fun v _ i wr => wr = w ∧ ((i = .int .i64 0 ∧ v = .int .i64 0) ∨ (i = .int .i64 1 ∧ v = .int .i64 (x.length : Int)) ∨ (i = .int .i64 2 ∧ v = .int .i64 ((x.length + y.length : Nat) : Int)))) (fun _ _ i _ => 2 - (intOf i).toNat)
  case atStart => exact ⟨rfl, .inl ⟨rfl, rfl⟩⟩
  case round =>
    obtain ⟨hwe, hcase⟩ := hrel
    obtain rfl := hwe.symm
    rcases hcase with ⟨rfl, rfl⟩ | ⟨rfl, rfl⟩ | ⟨rfl, rfl⟩
    · have k0 := K0.out
      have hw : wrap64 (x.length : Int) = (x.length : Int) := wrap_id (by omega) (by have := HX.out; omega)
      have hd : decide ((x.length : Int) < 0) = false := decide_eq_false (by omega)
      have hd2 : ¬ ((x.length : Int) < 0) := by omega
      go_wp2
      go_roundw
      case rel => exact ⟨by first | rfl | trivial, .inr (.inl ⟨rfl, by rw [hw]⟩)⟩
      case measure => simp [intOf]
    · have k1 := K1.out
      have hw : wrap64 ((x.length : Int) + (y.length : Int)) = ((x.length + y.length : Nat) : Int) := wrap_id (by omega) (by have := HX.out; have := HY.out; omega)
      have hd : decide (((x.length + y.length : Nat) : Int) < 0) = false := decide_eq_false (by omega)
      have hd2 : ¬ (((x.length + y.length : Nat) : Int) < 0) := by omega
      go_wp2
      go_roundw
      case rel => exact ⟨by first | rfl | trivial, .inr (.inr ⟨rfl, by rw [hw]⟩)⟩
      case measure => simp [intOf]
    · go_wp2_with fail
      refine (grow_calls (x.length + y.length) _ (by have := HX0.out; omega) (by have := HX.out; have := HY.out; omega)).mono ?_
      rintro e w1 ⟨v, rfl, hv, hb⟩
      have HV := Lib.hid hv
      have HB := Lib.hid hb
      clear hv hb
      go_wp2
      go_loopw [6, 8, 27] (fun v _ i wr => Hid (Below w.heap.size w wr) ∧ ((i = .int .i64 0 ∧ Hid (Kd.R (Kd.int .u8) 5 wr w.heap.size (fun _ => True) v [])) ∨ (i = .int .i64 1 ∧ Hid (Kd.R (Kd.int .u8) 5 wr w.heap.size (fun _ => True) v x)) ∨ (i = .int .i64 2 ∧ Hid (Kd.R (Kd.int .u8) 5 wr w.heap.size (fun _ => True) v (x ++ y))))) (fun _ _ i _ => 2 - (intOf i).toNat)
      case atStart => exact ⟨HB, .inl ⟨rfl, HV⟩⟩
      case round =>
        clear HV HB
        obtain ⟨HB, hcase⟩ := hrel
        rcases hcase with ⟨rfl, HV⟩ | ⟨rfl, HV⟩ | ⟨rfl, HV⟩
        · have k0 : wr.cell? ⟨g, 0, none⟩ = some (.slice A1 x.length c1) := (blk_cell (block_below HBK.out HB.out) 0).trans rfl
          go_wp2_with (first | ((with_reducible refine gate_dst (N := 33) rfl ?_); refine Kd.R_append_rows (Kd.int .u8) (w0 := w) w.heap.size rfl (.tmp 31) (.tmp 32) 23 5 (.int .u8 0) 1 rfl Tryz.underlying23 info5 rfl (by decide) (by omega) u6 ([] : List Int) x A1 x.length c1 (fun _ => True) (fun _ => False) rfl rfl HV.out (Kd.C_below H1.out HB.out) (fun _ _ h => h) (fun _ h => h.elim) (fun _ _ => trivial) HB.out HB.out.size (by have := HX.out; simp only [List.length_nil]; omega) ?_; intro v1 w2 ho hb2 hg_ hnew_; have HV2 := Lib.hid ho; have HB2 := Lib.hid hb2; clear hg_ hnew_ ho hb2))
          go_roundw
          case rel => exact ⟨HB2, .inr (.inl ⟨rfl, by have h := HV2.out; rw [List.nil_append] at h; exact Lib.hid h⟩)⟩
          case measure => simp [intOf]
        · have k1 : wr.cell? ⟨g, 1, none⟩ = some (.slice A2 y.length c2) := (blk_cell (block_below HBK.out HB.out) 1).trans rfl
          go_wp2_with (first | ((with_reducible refine gate_dst (N := 33) rfl ?_); refine Kd.R_append_rows (Kd.int .u8) (w0 := w) w.heap.size rfl (.tmp 31) (.tmp 32) 23 5 (.int .u8 0) 1 rfl Tryz.underlying23 info5 rfl (by decide) (by omega) u6 x y A2 y.length c2 (fun _ => True) (fun _ => False) rfl rfl HV.out (Kd.C_below H2.out HB.out) (fun _ _ h => h) (fun _ h => h.elim) (fun _ _ => trivial) HB.out HB.out.size (by have := HX.out; have := HY.out; omega) ?_; intro v1 w2 ho hb2 hg_ hnew_; have HV2 := Lib.hid ho; have HB2 := Lib.hid hb2; clear hg_ hnew_ ho hb2))
          go_roundw
          case rel => exact ⟨HB2, .inr (.inr ⟨rfl, HV2⟩)⟩
          case measure => simp [intOf]
        · go_wp2
          go_ret
          exact ⟨_, rfl, HV.out, HB.out⟩

end Go.Proofs.YtcgpbcpgopmfcaaGreatDoor.PAll
