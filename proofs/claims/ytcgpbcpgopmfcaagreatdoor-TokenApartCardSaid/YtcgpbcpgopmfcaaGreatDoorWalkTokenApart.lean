/- TokenApart, walked; the reference's text of a query without terms. -/
import Derived.Test.YtcgpbcpgopmfcaaGreatDoorTokAwake
namespace Go.Proofs.YtcgpbcpgopmfcaaGreatDoor.Walk
open Go.RowKit Go.Proofs.YtcgpbcpgopmfcaaGreatDoorW.PrintWords Go.Proofs.YtcgpbcpgopmfcaaGreatDoorW.PrintLast Go.Proofs.YtcgpbcpgopmfcaaGreatDoorW.PrintMore Go.Proofs.YtcgpbcpgopmfcaaGreatDoor.Math Go.Proofs.YtcgpbcpgopmfcaaGreatDoor.PAll Go.Proofs.YtcgpbcpgopmfcaaGreatDoor.NumFacts Go.Proofs.YtcgpbcpgopmfcaaGreatDoor.Hex Go.Proofs.YtcgpbcpgopmfcaaGreatDoor.Tok
set_option linter.unusedVariables false
set_option linter.unusedSimpArgs false

set_option maxHeartbeats 2000000 in
set_option maxRecDepth 100000 in
theorem rmay_calls (w : World) :
    Calls Tryz.prog 17 #[.agg #[.slice none 0 0, .int .i64 1]] w fun e w' => e = .returned (.bool true) ∧ Below w.heap.size w w' := by
  go_enter Tryz.func17, Tryz.ntmps17
  go_wp2
  have c0 : (w.alloc (.cells #[.slice none 0 0, .int .i64 1] 28)).cell? ⟨w.heap.size, 0, none⟩ = some (.slice none 0 0) := (blk_cell (heap_alloc_new w _) 0).trans rfl
  have c1 : (w.alloc (.cells #[.slice none 0 0, .int .i64 1] 28)).cell? ⟨w.heap.size, 1, none⟩ = some (.int .i64 1) := (blk_cell (heap_alloc_new w _) 1).trans rfl
  have HB := Lib.hid (below_alloc (Below.refl w.heap.size w) (.cells #[.slice none 0 0, .int .i64 1] 28))
  generalize (w.alloc (.cells #[.slice none 0 0, .int .i64 1] 28)) = w1 at *
  go_loopw [3] (fun i wr => i = .int .i64 0 ∧ w1 = wr) (fun i _ => (intOf i).toNat)
  case atStart => exact ⟨rfl, rfl⟩
  case round =>
    obtain ⟨rfl, rfl⟩ := hrel
    go_wp2
    go_ret
    exact ⟨rfl, HB.out⟩

set_option maxHeartbeats 2000000 in
set_option maxRecDepth 100000 in
theorem rtext_calls (w : World) :
    Calls Tryz.prog 8 #[.agg #[.slice none 0 0, .int .i64 1]] w fun e w' => e = .returned (.string ⟨#[98, 121, 58, 116, 105, 109, 101]⟩) ∧ Below w.heap.size w w' := by
  go_enter Tryz.func8, Tryz.ntmps8
  go_wp2_with fail
  refine (rmay_calls _).mono ?_
  rintro e w1 ⟨rfl, hb⟩
  have HB1 := Lib.hid (below_step (below_alloc (Below.refl w.heap.size w) (.cells #[.slice none 0 0, .int .i64 1] 28)) hb)
  have KB1 := Lib.hid (block_below (heap_alloc_new w (.cells #[.slice none 0 0, .int .i64 1] 28)) hb)
  clear hb
  go_wp2
  go_loopw [4, 5] (fun s i wr => s = .string ⟨#[]⟩ ∧ i = .int .i64 0 ∧ Hid (Below w.heap.size w wr) ∧ Hid (wr.heap[w.heap.size]? = some (.cells #[.slice none 0 0, .int .i64 1] 28 (0, 0)))) (fun _ i _ => (intOf i).toNat)
  case atStart => exact ⟨rfl, rfl, Lib.hid (below_alloc HB1.out _), Lib.hid (block_below KB1.out (below_alloc (Below.refl _ _) _))⟩
  case round =>
    clear HB1 KB1
    obtain ⟨rfl, rfl, HB, KB⟩ := hrel
    have c0 : wr.cell? ⟨w.heap.size, 0, none⟩ = some (.slice none 0 0) := (blk_cell KB.out 0).trans rfl
    have c1 : wr.cell? ⟨w.heap.size, 1, none⟩ = some (.int .i64 1) := (blk_cell KB.out 1).trans rfl
    go_wp2
    go_ret
    exact ⟨by first | rfl | (congr 1), HB.out⟩

set_option maxHeartbeats 8000000 in
set_option maxRecDepth 100000 in
theorem TokenApart (W : World) (v : List Int) (hv : v.length = 2) (hvw : ∀ x ∈ v, (Lit.int .u64 x).wf = true)
    (A : Option Addr) (c : Nat) (l : List Int) (hl : l.length ≤ c) (hc : Kd.C (Kd.int .u8) W A l.length l) (hg : (∀ x ∈ l, (Lit.int .u8 x).wf = true) ∧ l.length * 1 ≤ 140737488351232)
    (A2 : Option Addr) (c2 : Nat) (l2 : List Int) (hl2 : l2.length ≤ c2) (hc2 : Kd.C (Kd.int .u8) W A2 l2.length l2) (hg2 : (∀ x ∈ l2, (Lit.int .u8 x).wf = true) ∧ l2.length * 1 ≤ 140737488351232) (_hT : True) :
    Calls Tryz.prog 4 #[.agg (v.map (Value.int .u64)).toArray, .slice A l.length c, .slice A2 l2.length c2] W fun e w' => e = .returned (.bool true) ∧ Below W.heap.size W w' := by
  match v, hv with
  | [v0, v1], _ =>
  simp only [List.map_cons, List.map_nil]
  have hb := isB_of_wf hg.1
  have hb2 := isB_of_wf hg2.1
  have w0 := hvw v0 (by simp)
  have w1 := hvw v1 (by simp)
  simp [Lit.wf, IntKind.min, IntKind.max, IntKind.bits, IntKind.signed] at w0 w1
  have HV0 := Lib.hid (show 0 ≤ v0 ∧ v0 < 18446744073709551616 by omega)
  have HV1 := Lib.hid (show 0 ≤ v1 ∧ v1 < 18446744073709551616 by omega)
  have HAw := Lib.hid (fun w => awake_calls w)
  have HC := Lib.hid hc
  have HC2 := Lib.hid hc2
  have HBi := Lib.hid hb
  have HBi2 := Lib.hid hb2
  clear w0 w1 hc hc2 hb hb2 hvw hg hg2
  have HB0 := Lib.hid (below_alloc (Below.refl W.heap.size W) (.cells #[.int .u64 v0, .int .u64 v1] 34))
  have KB0 := Lib.hid (heap_alloc_new W (.cells #[.int .u64 v0, .int .u64 v1] 34))
  go_enter Tryz.func4, Tryz.ntmps4
  go_wp2_with fail
  refine (HAw.out _).mono ?_
  rintro e w1 ⟨rfl, hb⟩
  have HB1 := Lib.hid (below_step HB0.out hb)
  have KB1 := Lib.hid (block_below KB0.out hb)
  clear hb HB0 KB0 HAw
  by_cases hk : (1 ≤ l.length ∧ l.length ≤ 24) ∧ 1 ≤ l2.length ∧ l2.length ≤ 24
  · obtain ⟨⟨k1, k2⟩, k3, k4⟩ := hk
    have d1 : decide ((l.length : Int) < 1) = false := decide_eq_false (by omega)
    have d2 : decide ((24 : Int) < (l.length : Int)) = false := decide_eq_false (by omega)
    have d3 : decide ((l2.length : Int) < 1) = false := decide_eq_false (by omega)
    have d4 : decide ((24 : Int) < (l2.length : Int)) = false := decide_eq_false (by omega)
    have hap := tok_apart (S := sumQ 1) (a := l) (b := l2) HV0.out HV1.out (sumQ_isB 1) HBi.out HBi2.out
    have hsz1 := (tokT_size v0 HV0.out.2 1 l k1 k2).1
    have hsz2 := (tokT_size v1 HV1.out.2 1 l2 k3 k4).1
    have ht1 := tokT_isB (o := 1) HV0.out.1 HBi.out
    have ht2 := tokT_isB (o := 1) HV1.out.1 HBi2.out
    have heq : strOfNums (tokT v0 (sumQ 1) l) = strOfNums (tokT v1 (sumQ 1) l2) ↔ v0 = v1 ∧ l = l2 := ⟨fun h => hap.1 (strOf_inj ht1 ht2 h), fun h => by rw [hap.2 h]⟩
    have HM1 := Lib.hid (fun w hr => make_calls v0 1 A c l w HV0.out.1 HV0.out.2 (.inr rfl) HBi.out hl hr k1 k2)
    have HM2 := Lib.hid (fun w hr => make_calls v1 1 A2 c2 l2 w HV1.out.1 HV1.out.2 (.inr rfl) HBi2.out hl2 hr k3 k4)
    have n1 := str_ne hsz1
    have n2 := str_ne hsz2
    clear hap hsz1 hsz2 ht1 ht2
    generalize strOfNums (tokT v0 (sumQ 1) l) = s1 at *
    generalize strOfNums (tokT v1 (sumQ 1) l2) = s2 at *
    have z1 : (s1.toList == ([] : List UInt8)) = false := by simpa using n1
    have z2 : s1.toList.isEmpty = false := by simpa using n1
    have z3 : (s2.toList == ([] : List UInt8)) = false := by simpa using n2
    have z4 : s2.toList.isEmpty = false := by simpa using n2
    have HEq := Lib.hid heq
    clear heq
    have x0 : (w1.alloc (.cells #[.slice none 0 0, .int .i64 1] 28)).cell? ⟨W.heap.size, 0, none⟩ = some (.int .u64 v0) := (blk_cell (block_below KB1.out (below_alloc (Below.refl _ _) (.cells #[.slice none 0 0, .int .i64 1] 28))) 0).trans rfl
    go_wp2_with fail
    refine (HM1.out _ (Kd.C_alloc (Kd.C_below HC.out HB1.out) _)).mono ?_
    rintro e w2 ⟨rfl, hb⟩
    have HB2 := Lib.hid (below_step (below_alloc HB1.out (.cells #[.slice none 0 0, .int .i64 1] 28)) hb)
    have KB2 := Lib.hid (block_below (block_below KB1.out (below_alloc (Below.refl _ _) (.cells #[.slice none 0 0, .int .i64 1] 28))) hb)
    have KQ2 := Lib.hid (block_below (heap_alloc_new w1 (.cells #[.slice none 0 0, .int .i64 1] 28)) hb)
    have HCl := Lib.hid (Kd.C_below (Kd.C_alloc (Kd.C_below HC.out HB1.out) (.cells #[.slice none 0 0, .int .i64 1] 28)) hb)
    clear hb HM1 HB1 KB1 x0
    have x1 : w2.cell? ⟨W.heap.size, 1, none⟩ = some (.int .u64 v1) := (blk_cell KB2.out 1).trans rfl
    have y0 : w2.cell? ⟨w1.heap.size, 0, none⟩ = some (.slice none 0 0) := (blk_cell KQ2.out 0).trans rfl
    have y1 : w2.cell? ⟨w1.heap.size, 1, none⟩ = some (.int .i64 1) := (blk_cell KQ2.out 1).trans rfl
    go_wp2_with fail
    refine (HM2.out _ (Kd.C_below HC2.out HB2.out)).mono ?_
    rintro e w3 ⟨rfl, hb⟩
    have HB3 := Lib.hid (below_step HB2.out hb)
    have KB3 := Lib.hid (block_below KB2.out hb)
    have KQ3 := Lib.hid (block_below KQ2.out hb)
    clear hb HM2 x1 y0 y1
    have y0 : w3.cell? ⟨w1.heap.size, 0, none⟩ = some (.slice none 0 0) := (blk_cell KQ3.out 0).trans rfl
    have y1 : w3.cell? ⟨w1.heap.size, 1, none⟩ = some (.int .i64 1) := (blk_cell KQ3.out 1).trans rfl
    go_wp2_with fail
    refine (rtext_calls _).mono ?_
    rintro e w4 ⟨rfl, hb⟩
    have HB4 := Lib.hid (below_step HB3.out hb)
    have KB4 := Lib.hid (block_below KB3.out hb)
    clear hb y0 y1
    have x0 : w4.cell? ⟨W.heap.size, 0, none⟩ = some (.int .u64 v0) := (blk_cell KB4.out 0).trans rfl
    have x1 : w4.cell? ⟨W.heap.size, 1, none⟩ = some (.int .u64 v1) := (blk_cell KB4.out 1).trans rfl
    by_cases hv : v0 = v1
    · have e1 : (v0 == v1) = true := beq_iff_eq.2 hv
      have hcv1 := Kd.C_string (P := Tryz.prog) (c := c) Tryz.underlying23 Tryz.underlying5 Tryz.underlying9 (Kd.C_below HC.out HB4.out)
      have hcv2 := Kd.C_string (P := Tryz.prog) (c := c2) Tryz.underlying23 Tryz.underlying5 Tryz.underlying9 (Kd.C_below HC2.out HB4.out)
      by_cases hll : l = l2
      · have hs : s1.toList = s2.toList := by rw [HEq.out.2 ⟨hv, hll⟩]
        have hs2 : (s1.toList == s2.toList) = true := beq_iff_eq.2 hs
        have ht : ((strOfNums l).toList == (strOfNums l2).toList) = true := beq_iff_eq.2 (by rw [hll])
        clear hs hll hv
        generalize strOfNums l = r1 at *
        generalize strOfNums l2 = r2 at *
        go_wp2
        go_ret
        exact ⟨rfl, HB4.out⟩
      · have hs : ¬ (s1.toList = s2.toList) := fun h => hll (HEq.out.1 (by
          rw [Lib.toList_data, Lib.toList_data] at h
          have := Array.toList_inj.1 h
          cases s1; cases s2; simp at this; rw [this])).2
        have hs2 : (s1.toList == s2.toList) = false := beq_eq_false_iff_ne.2 hs
        have ht : ((strOfNums l).toList == (strOfNums l2).toList) = false := beq_eq_false_iff_ne.2 (fun h => hll (strOf_inj HBi.out HBi2.out (by
          rw [Lib.toList_data, Lib.toList_data] at h
          have := Array.toList_inj.1 h
          generalize strOfNums l = r1 at *
          generalize strOfNums l2 = r2 at *
          cases r1; cases r2; simp at this; rw [this])))
        clear hs hll hv
        generalize strOfNums l = r1 at *
        generalize strOfNums l2 = r2 at *
        go_wp2
        go_ret
        exact ⟨rfl, HB4.out⟩
    · have e1 : (v0 == v1) = false := beq_eq_false_iff_ne.2 hv
      have hs : ¬ (s1.toList = s2.toList) := fun h => hv (HEq.out.1 (by
        rw [Lib.toList_data, Lib.toList_data] at h
        have := Array.toList_inj.1 h
        cases s1; cases s2; simp at this; rw [this])).1
      have hs2 : (s1.toList == s2.toList) = false := beq_eq_false_iff_ne.2 hs
      go_wp2
      go_ret
      exact ⟨rfl, HB4.out⟩
  · by_cases k1 : 1 ≤ l.length
    · have d1 : decide ((l.length : Int) < 1) = false := decide_eq_false (by omega)
      by_cases k2 : l.length ≤ 24
      · have d2 : decide ((24 : Int) < (l.length : Int)) = false := decide_eq_false (by omega)
        by_cases k3 : 1 ≤ l2.length
        · have d3 : decide ((l2.length : Int) < 1) = false := decide_eq_false (by omega)
          have d4 : decide ((24 : Int) < (l2.length : Int)) = true := decide_eq_true (by omega)
          go_wp2
          go_ret
          exact ⟨rfl, HB1.out⟩
        · have d3 : decide ((l2.length : Int) < 1) = true := decide_eq_true (by omega)
          go_wp2
          go_ret
          exact ⟨rfl, HB1.out⟩
      · have d2 : decide ((24 : Int) < (l.length : Int)) = true := decide_eq_true (by omega)
        go_wp2
        go_ret
        exact ⟨rfl, HB1.out⟩
    · have d1 : decide ((l.length : Int) < 1) = true := decide_eq_true (by omega)
      go_wp2
      go_ret
      exact ⟨rfl, HB1.out⟩

end Go.Proofs.YtcgpbcpgopmfcaaGreatDoor.Walk
