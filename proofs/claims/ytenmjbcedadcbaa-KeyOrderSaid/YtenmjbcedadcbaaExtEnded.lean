/- Contracts of functions of key, by hand: ended, Service, Name. -/
import Derived.Test.YtenmjbcedadcbaaPAllx0
import Derived.Test.YtenmjbcedadcbaaMarked
namespace Go.Proofs.Ytenmjbcedadcbaa.PAll
open Go.RowKit Go.Proofs.YtenmjbcedadcbaaW.PrintWords Go.Proofs.YtenmjbcedadcbaaW.PrintLast Go.Proofs.YtenmjbcedadcbaaW.PrintMore Go.Proofs.Ytenmjbcedadcbaa.Math
set_option linter.unusedVariables false
set_option linter.unusedSimpArgs false

set_option maxHeartbeats 1000000 in
/-- A text's bytes, and a byte 0. -/
theorem ended_calls (s : ByteArray) (w : World) (hs : s.size ≤ 70368744177664) :
    Calls Try.prog 32 #[.string s] w fun e w' => ∃ v, e = .returned v ∧ MRow w' w.heap.size v (bytesOf s ++ [0]) ∧ Below w.heap.size w w' := by
  have hl := bytesOf_length s
  have hmax : s.size ≤ maxLen := by unfold maxLen; omega
  have kb := print_bytes (P := Try.prog) 9 22 5 Try.underlying9 Try.underlying22 Try.underlying5 s w
  have hM := M_bytes w 5 s hmax
  have hB : Below w.heap.size w (Lib.bytesWorld w 5 s) := bytes_below (Below.refl _ _) (Nat.le_refl _) _ _
  generalize grownCap w s.size 0 5 = cap at kb hM
  generalize Lib.bytesWorld w 5 s = w1 at kb hM hB
  have HM := Lib.hid hM
  have HB := Lib.hid hB
  have HL := Lib.hid hl
  have HS := Lib.hid hs
  clear hM hB hl hs hmax
  go_enter Try.func32, Try.ntmps32
  go_wp2_with (first
    | ((with_reducible refine gate_dst (N := 5) rfl ?_); refine Kd.R_lit (Kd.int .u8) _ 5 ?hg (N := 5) ?hd (xs := ([0] : List Int)) (inner := [.int .u8 0]) (ok := fun _ => True) (okp := fun _ => True) ?hr ?hp (fun _ hk => hk) trivial (Below.refl _ _) (Nat.le_refl _) (by simp) ?_; (case hd => rfl); (case hg => rfl); (case hr => first | (go_simp; done) | (go_simp; rfl)); (case hp => exact (Reps.one (show Kd.M (Kd.int .u8) _ _ _ 0 [.int .u8 0] from rfl) (Reps.none _ _))); intro v1 w2 ho hb hg_ hnew_; clear hg_ hnew_; obtain ⟨A1, c1, rfl⟩ := Kd.R_slice ho; have HO := Lib.hid (Kd.R_reads' ho).2.2; have HM2 := Lib.hid (M_below HM.out hb); have HB2 := Lib.hid (below_step HB.out hb); clear ho hb)
    | ((with_reducible refine gate_builtin (b := .append) (xs := #[.tmp 4, .tmp 5]) rfl ?_); at_builtin; refine wpList_plain rfl fun K hK => ?_; refine wp_append_M w _ w.heap.size (.tmp 4) (.tmp 5) 22 5 rfl Try.underlying22 info5 _ (bytesOf s) [0] A1 c1 rfl rfl HM2.out HO.out (by simp) HB2.out HB2.out.size (by rw [HL.out]; have := HS.out; simp; omega) ?_; intro v3 w3 hm hb; refine hK _ _ ?_; have HM3 := Lib.hid hm; have HB3 := Lib.hid hb; clear hm hb))
  go_ret
  exact ⟨_, rfl, HM3.out, HB3.out⟩

/-- Service: the same. -/
theorem service_calls (s : ByteArray) (w : World) (hs : s.size ≤ 70368744177664) :
    Calls Try.prog 18 #[.string s] w fun e w' => ∃ v, e = .returned v ∧ MRow w' w.heap.size v (bytesOf s ++ [0]) ∧ Below w.heap.size w w' := by
  have HS := Lib.hid hs
  clear hs
  go_enter Try.func18, Try.ntmps18
  go_wp2_with fail
  refine (ended_calls s w HS.out).mono ?_
  rintro e w1 ⟨v, rfl, hm, hb⟩
  have HM := Lib.hid hm
  have HB := Lib.hid hb
  clear hm hb
  go_wp2
  go_ret
  exact ⟨_, rfl, HM.out, HB.out⟩

set_option maxHeartbeats 1000000 in
/-- Operation: both, one behind the other. -/
theorem operation_calls (s t : ByteArray) (w : World) (hs : s.size ≤ 35184372088832) (ht : t.size ≤ 35184372088832) :
    Calls Try.prog 19 #[.string s, .string t] w fun e w' => ∃ v, e = .returned v ∧ MRow w' w.heap.size v (bytesOf s ++ [0] ++ (bytesOf t ++ [0])) ∧ Below w.heap.size w w' := by
  have l1 := bytesOf_length s
  have l2 := bytesOf_length t
  have HS := Lib.hid hs
  have HT := Lib.hid ht
  have L1 := Lib.hid l1
  have L2 := Lib.hid l2
  clear hs ht l1 l2
  go_enter Try.func19, Try.ntmps19
  go_wp2_with fail
  refine (ended_calls s w (by have := HS.out; omega)).mono ?_
  rintro e w1 ⟨v1, rfl, hm1, hb1⟩
  have HM1 := Lib.hid hm1
  have HB1 := Lib.hid hb1
  clear hm1 hb1
  go_wp2_with fail
  refine (ended_calls t w1 (by have := HT.out; omega)).mono ?_
  rintro e w2 ⟨v2, rfl, hm2, hb2⟩
  obtain ⟨ys, hys⟩ : ∃ ys, ys = bytesOf t ++ [0] := ⟨_, rfl⟩
  rw [← hys] at hm2
  have HYs := Lib.hid hys
  clear hys
  obtain ⟨A2, c2, rfl, _, hc2⟩ := M_C hm2
  have HM2 := Lib.hid (M_below HM1.out hb2)
  have HB2 := Lib.hid (below_step HB1.out hb2)
  have HC2 := Lib.hid hc2
  clear hm2 hb2 hc2 HM1 HB1
  go_wp2_with ((with_reducible refine gate_builtin (b := .append) (xs := #[.tmp 6, .tmp 8]) rfl ?_); at_builtin; refine wpList_plain rfl fun K hK => ?_; refine wp_append_M w _ w.heap.size (.tmp 6) (.tmp 8) 22 5 rfl Try.underlying22 info5 _ (bytesOf s ++ [0]) ys A2 c2 rfl rfl HM2.out HC2.out (by rw [HYs.out]; simp) HB2.out HB2.out.size (by rw [HYs.out, List.length_append, List.length_append, L1.out, L2.out]; have := HS.out; have := HT.out; simp; omega) ?_; intro v3 w3 hm hb; refine hK _ _ ?_; have HM3 := Lib.hid hm; have HB3 := Lib.hid hb; clear hm hb)
  go_ret
  exact ⟨_, rfl, by rw [← HYs.out]; exact HM3.out, HB3.out⟩

end Go.Proofs.Ytenmjbcedadcbaa.PAll
