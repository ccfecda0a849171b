/- page.Frame: its contract, by hand. -/
import Derived.Test.YtmbhedlplmbfoaaExtPage
namespace Go.Proofs.Ytmbhedlplmbfoaa.PAll
open Go.RowKit Go.Proofs.YtmbhedlplmbfoaaW.PrintWords Go.Proofs.YtmbhedlplmbfoaaW.PrintLast Go.Proofs.YtmbhedlplmbfoaaW.PrintMore Go.Proofs.Ytmbhedlplmbfoaa.Math
set_option linter.unusedVariables false
set_option linter.unusedSimpArgs false

/-- A page's bytes. -/
def body (no : Int) (l : List Int) : List Int := l ++ List.replicate (1016 - l.length) 0 ++ be4 no
def pageOf (no : Int) (l : List Int) : List Int := body no l ++ be4 (crcSum (body no l))

def page_Frame.f (a0 : Int) (l1 : List Int) : Option (List Int × Int) :=
  if a0 < 0 ∨ 2147483647 < a0 ∨ 1016 < l1.length then some ([], 1) else if IsB l1 then some (pageOf a0 l1, 0) else none

theorem body_len {no : Int} {l : List Int} (h : l.length ≤ 1016) : (body no l).length = 1020 := by simp [body, be4]; omega
theorem page_len {no : Int} {l : List Int} (h : l.length ≤ 1016) : (pageOf no l).length = 1024 := by
  unfold pageOf; rw [List.length_append, body_len h]; rfl
theorem body_isB {no : Int} {l : List Int} (h : IsB l) : IsB (body no l) := by
  unfold body
  refine isB_append (isB_append h ?_) (be4_isB _)
  intro x hx
  obtain ⟨_, rfl⟩ := List.mem_replicate.1 hx
  omega
theorem page_isB {no : Int} {l : List Int} (h : IsB l) : IsB (pageOf no l) := isB_append (body_isB h) (be4_isB _)

theorem splice_one {l : List Int} (h : l.length ≤ 1016) : splice (List.replicate 1024 (0 : Int)) 0 l = l ++ List.replicate (1016 - l.length) 0 ++ List.replicate 8 0 := by
  unfold splice
  rw [List.take_zero, List.nil_append, Nat.zero_add, List.drop_replicate, List.append_assoc, List.replicate_append_replicate, show 1024 - l.length = 1016 - l.length + 8 by omega]
theorem splice_two {no : Int} {l : List Int} (h : l.length ≤ 1016) : splice (l ++ List.replicate (1016 - l.length) 0 ++ List.replicate 8 0) 1016 (be4 no) = body no l ++ [0, 0, 0, 0] := by
  have hl : (l ++ List.replicate (1016 - l.length) (0 : Int)).length = 1016 := by simp; omega
  unfold splice body
  generalize l ++ List.replicate (1016 - l.length) (0 : Int) = m at hl ⊢
  rw [List.take_append_of_le_length (by omega), List.take_of_length_le (by omega), show 1016 + (be4 no).length = 1016 + 4 from rfl, List.append_assoc]
  congr 2
  rw [List.drop_append, hl, List.drop_of_length_le (by omega)]
  rfl
theorem splice_three {no s : Int} {l : List Int} (h : l.length ≤ 1016) : splice (body no l ++ [0, 0, 0, 0]) 1020 (be4 s) = body no l ++ be4 s := by
  have hl := body_len (no := no) h
  unfold splice
  rw [List.take_append_of_le_length (by omega), List.take_of_length_le (by omega), show 1020 + (be4 s).length = 1020 + 4 from rfl]
  congr 1
  rw [List.drop_append, hl, List.drop_of_length_le (by omega)]
  simp

set_option maxHeartbeats 4000000 in
set_option maxRecDepth 100000 in
theorem page_Frame.calls (a0 : Int) (A1 : Option Addr) (c1 : Nat) (l1 : List Int) (r1 : List Int) (r2 : Int) (w : World) (hr1 : Kd.C (Kd.int .u8) w A1 l1.length l1) (hc1 : l1.length ≤ c1) (h : page_Frame.f a0 l1 = some (r1, r2)) :
    Calls Try.prog 7 #[.int .i64 a0, .slice A1 l1.length c1] w fun e w' => ∃ v0_ : Value, e = .returned (.tuple #[v0_, .int .i64 r2]) ∧ Kd.R (Kd.int .u8) 5 w' w.heap.size (fun _ => True) v0_ r1 ∧ Below w.heap.size w w' := by
  unfold page_Frame.f at h
  by_cases d1 : a0 < 0
  · rw [if_pos (Or.inl d1)] at h
    simp only [Option.some.injEq, Prod.mk.injEq] at h
    obtain ⟨rfl, rfl⟩ := h
    have d1b := decide_eq_true d1
    clear d1
    go_enter Try.func7, Try.ntmps7
    go_wp2
    go_ret2
    exact ⟨_, rfl, Kd.R_nil _ _ _ _ _, Below.refl _ _⟩
  by_cases d2 : a0 > 2147483647
  · rw [if_pos (Or.inr (Or.inl d2))] at h
    simp only [Option.some.injEq, Prod.mk.injEq] at h
    obtain ⟨rfl, rfl⟩ := h
    have d1b := decide_eq_false d1
    have d2b : decide (2147483647 < a0) = true := decide_eq_true d2
    clear d1 d2
    go_enter Try.func7, Try.ntmps7
    go_wp2
    go_ret2
    exact ⟨_, rfl, Kd.R_nil _ _ _ _ _, Below.refl _ _⟩
  by_cases d3 : 1016 < l1.length
  · rw [if_pos (Or.inr (Or.inr d3))] at h
    simp only [Option.some.injEq, Prod.mk.injEq] at h
    obtain ⟨rfl, rfl⟩ := h
    have d1b := decide_eq_false d1
    have d2b : decide (2147483647 < a0) = false := decide_eq_false d2
    have d3b : decide (1016 < l1.length) = true := decide_eq_true d3
    have d3c : decide (1016 < (l1.length : Int)) = true := decide_eq_true (by omega)
    clear d1 d2 d3
    go_enter Try.func7, Try.ntmps7
    go_wp2
    go_ret2
    exact ⟨_, rfl, Kd.R_nil _ _ _ _ _, Below.refl _ _⟩
  rw [if_neg (by omega)] at h
  by_cases hb : IsB l1
  case neg => rw [if_neg hb] at h; cases h
  rw [if_pos hb] at h
  simp only [Option.some.injEq, Prod.mk.injEq] at h
  obtain ⟨rfl, rfl⟩ := h
  have hlen : l1.length ≤ 1016 := by omega
  have hr0 : 0 ≤ a0 ∧ a0 < 4294967296 := by omega
  have d1b := decide_eq_false d1
  have d2b : decide (2147483647 < a0) = false := decide_eq_false d2
  have d3b : decide (1016 < l1.length) = false := decide_eq_false d3
  have d3c : decide (1016 < (l1.length : Int)) = false := decide_eq_false (by omega)
  have hsz : (Try.prog.info? 5).map (·.size) = some 1 := by kernel_rfl
  obtain ⟨ZV, hZV⟩ : ∃ ZV : List Value, ZV = (List.replicate 1024 (0 : Int)).map (Value.int .u8) := ⟨_, rfl⟩
  obtain ⟨cs, hcs⟩ : ∃ cs : List Value, cs = l1.map (Value.int .u8) := ⟨_, rfl⟩
  have hm := run_make_zeros (P := Try.prog) 23 5 .u8 Try.underlying23 info5 1024 (by omega) 1024 rfl ZV hZV
  have hcl : cs.length = l1.length := by rw [hcs, List.length_map]
  have hsrc : 0 < l1.length → ∃ ad, A1 = some ad ∧ ∀ (j : Nat) v, cs[j]? = some v → w.cell? (ad.add j) = some v := by rw [hcs]; exact C_src hr1
  have hsum : crc_Sum.f (body a0 l1) = some (crcSum (body a0 l1)) := by unfold crc_Sum.f; rw [if_pos (body_isB hb)]
  have hz : ZV.length = 1024 := by rw [hZV, List.length_map, List.length_replicate]
  have hone : ∀ v ∈ cs, v.oneCell' = true := by intro v hv; rw [hcs] at hv; obtain ⟨x, _, rfl⟩ := List.mem_map.1 hv; rfl
  have HZ := Lib.hid hZV
  have HC := Lib.hid hcs
  have HS := Lib.hid hsrc
  have HSum := Lib.hid hsum
  have HBy := Lib.hid hb
  have HLen := Lib.hid hlen
  have HCl := Lib.hid hcl
  have HZl := Lib.hid hz
  have HA := Lib.hid hr0
  have H1 := Lib.hid hone
  have HM := Lib.hid hr1
  clear hZV hcs hsrc hsum hb hlen hcl hz hr0 hone hr1 d1 d2 d3
  go_enter Try.func7, Try.ntmps7
  go_wp2_with ((with_reducible refine gate_dst (N := 21) rfl ?_); (refine wpList_copy_splice rfl (.tmp 19) (.tmp 20) 23 23 rfl 5 Try.underlying23 hsz (some ⟨w.heap.size, 0, none⟩) A1 1024 1024 l1.length c1 rfl rfl w.heap.size 0 ZV 5 ?hg cs ?hn ?hpos ?hfit ?h1 w.heap.size w ?hb (Nat.le_refl _) ?h))
  case hg => exact heap_alloc_new w _
  case hn => rw [HCl.out]; have := HLen.out; exact (Nat.min_eq_left (by omega)).symm
  case hpos =>
    rw [HCl.out]
    intro hp
    obtain ⟨ad, hA, hc⟩ := HS.out hp
    refine ⟨ad, hA, fun j v hv => pw_cell_below ((Below.refl _ _).alloc (Nat.le_refl _) _) (hc j v hv)⟩
  case hfit => rw [HCl.out, HZl.out]; have := HLen.out; omega
  case h1 => exact H1.out
  case hb => exact (Below.refl _ _).alloc (Nat.le_refl _) _
  case h =>
    intro w2 HG HB2
    obtain ⟨F1, hF1⟩ : ∃ F1 : List Value, F1 = splice ZV 0 cs := ⟨_, rfl⟩
    rw [← hF1] at HG
    obtain ⟨PV, hPV⟩ : ∃ PV : List Value, PV = (be4 a0).map (Value.int .u8) := ⟨_, rfl⟩
    have hpl : PV.length = 4 := by rw [hPV, List.length_map]; rfl
    have hp1 : ∀ v ∈ PV, v.oneCell' = true := by intro v hv; rw [hPV] at hv; obtain ⟨x, _, rfl⟩ := List.mem_map.1 hv; rfl
    have hfl : F1.length = 1024 := by
      rw [hF1, length_splice _ _ _ (by rw [HCl.out, HZl.out]; have := HLen.out; omega), HZl.out]
    have e37 := Lib.hid (show IntKind.u32.wrap a0 = a0 by rw [IntKind.wrap_u32]; have := HA.out; omega)
    have HPV := Lib.hid hPV
    have HPl := Lib.hid hpl
    have HP1 := Lib.hid hp1
    have HFl := Lib.hid hfl
    have HF1 := Lib.hid hF1
    have HB := Lib.hid HB2
    clear hPV hpl hp1 hfl hF1 HB2
    go_wp2
    go_region_law (first
      | (refine step_copy_splice (by rfl) (.tmp 23) (.tmp 26) 23 23 (by rfl) 5 Try.underlying23 hsz (some ⟨w.heap.size, 1016, none⟩) (some ad) 8 8 4 c (by rfl) (by rfl) w.heap.size 1016 F1 5 HG3.out PV (by rw [HPl.out]; rfl) (fun _ => ⟨rfl, ad, rfl, HS3.out⟩) (by rw [HPl.out, HFl.out]; omega) HP1.out w.heap.size w HB3.out (Nat.le_refl _) ?_; intro w4 HG4 hb4; have HB4 := Lib.hid hb4; clear hb4)
      | (go_simp; rw [e37.out]; go_at_call 13; refine (put_calls a0 _ HA.out.1 HA.out.2).mono ?_; rintro e w3 ⟨ad, c, rfl, hs, hb⟩; rw [← HPV.out] at hs; have HS3 := Lib.hid hs; have HG3 := Lib.hid (block_below (w := w2.drew) (o := Obj.cells F1.toArray 5 (0, 0)) HG.out hb); have HB3 := Lib.hid (below_step (below_drew1 HB.out) hb); clear hs hb))
    obtain ⟨F2, hF2⟩ : ∃ F2 : List Value, F2 = splice F1 1016 PV := ⟨_, rfl⟩
    rw [← hF2] at HG4
    have hf2 : F2 = (body a0 l1 ++ [0, 0, 0, 0]).map (Value.int .u8) := by
      rw [hF2, HF1.out, HPV.out, HZ.out, HC.out, splice_map, splice_map, splice_one HLen.out, splice_two HLen.out]
    have hf2l : F2.length = 1024 := by rw [hf2, List.length_map, List.length_append, body_len HLen.out]; rfl
    obtain ⟨sv, hsv⟩ : ∃ sv : Int, sv = crcSum (body a0 l1) := ⟨_, rfl⟩
    have hs0 : 0 ≤ sv ∧ sv < 4294967296 := by rw [hsv]; exact crcMore_bounds 0 _
    have hcall : ∀ W : World, W.heap[w.heap.size]? = some (Obj.cells F2.toArray 5 (0, 0)) → Calls Try.prog 14 #[.slice (some ⟨w.heap.size, 0, none⟩) 1020 1020] W fun e w' => e = .returned (.int .u32 sv) ∧ Below W.heap.size W w' := by
      intro W hW
      rw [hf2] at hW
      have hc := C_block_pre _ _ (by rw [body_len HLen.out]; omega) hW
      have h2 := crc_Sum.calls (some ⟨w.heap.size, 0, none⟩) 1020 (body a0 l1) sv W hc (by rw [body_len HLen.out]; exact Nat.le_refl _) (by rw [hsv]; exact HSum.out)
      rw [body_len HLen.out] at h2
      exact h2
    obtain ⟨SV, hSV⟩ : ∃ SV : List Value, SV = (be4 sv).map (Value.int .u8) := ⟨_, rfl⟩
    have hsl : SV.length = 4 := by rw [hSV, List.length_map]; rfl
    have hs1 : ∀ v ∈ SV, v.oneCell' = true := by intro v hv; rw [hSV] at hv; obtain ⟨x, _, rfl⟩ := List.mem_map.1 hv; rfl
    have HF2 := Lib.hid hf2
    have HF2l := Lib.hid hf2l
    have HSV := Lib.hid hSV
    have HSl := Lib.hid hsl
    have HS1 := Lib.hid hs1
    have HSv := Lib.hid hsv
    have HS0 := Lib.hid hs0
    have HCall := Lib.hid hcall
    clear hF2 hf2 hf2l hSV hsl hs1 hsv hs0 hcall HS3 HG3 HB3
    go_wp2
    go_region_law (first
      | (refine step_copy_splice (by rfl) (.tmp 29) (.tmp 33) 23 23 (by rfl) 5 Try.underlying23 hsz (some ⟨w.heap.size, 1020, none⟩) (some ad6) 4 4 4 c6 (by rfl) (by rfl) w.heap.size 1020 F2 5 HG6.out SV (by rw [HSl.out]; rfl) (fun _ => ⟨rfl, ad6, rfl, HS6.out⟩) (by rw [HSl.out, HF2l.out]; omega) HS1.out w.heap.size w HB6.out (Nat.le_refl _) ?_; intro w7 HG7 hb7; have HB7 := Lib.hid hb7; clear hb7)
      | (go_simp; go_at_call 14; refine (HCall.out w4.drew HG4.out).mono ?_; rintro e w5 ⟨rfl, hb⟩; have HG5 := Lib.hid (block_below (w := w4.drew) (o := Obj.cells F2.toArray 5 (0, 0)) HG4.out hb); have HB5 := Lib.hid (below_step (below_drew1 HB4.out) hb); clear hb)
      | (go_simp; go_at_call 13; refine (put_calls sv w5 HS0.out.1 HS0.out.2).mono ?_; rintro e w6 ⟨ad6, c6, rfl, hs, hb⟩; rw [← HSV.out] at hs; have HS6 := Lib.hid hs; have HG6 := Lib.hid (block_below (w := w5) (o := Obj.cells F2.toArray 5 (0, 0)) HG5.out hb); have HB6 := Lib.hid (below_step HB5.out hb); clear hs hb))
    go_wp2
    go_ret2
    refine ⟨_, rfl, ?_, HB7.out⟩
    have hfin : splice F2 1020 SV = (pageOf a0 l1).map (Value.int .u8) := by
      rw [HF2.out, HSV.out, splice_map, splice_three HLen.out, HSv.out]; rfl
    exact R_block _ (page_len HLen.out) (by omega) (Nat.le_refl _) (by rw [← hfin]; exact HG7.out)

end Go.Proofs.Ytmbhedlplmbfoaa.PAll
