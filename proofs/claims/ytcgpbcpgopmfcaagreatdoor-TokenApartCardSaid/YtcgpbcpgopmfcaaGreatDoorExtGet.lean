/- A contract of num by hand: the number of four bytes. -/
import Derived.Test.YtcgpbcpgopmfcaaGreatDoorPAllx0
import Derived.Test.YtcgpbcpgopmfcaaGreatDoorRd
import Derived.Lib.Hide
import Derived.Laws.CopyOwn
import Derived.WalkLawsBesides
namespace Go.Proofs.YtcgpbcpgopmfcaaGreatDoor.PAll
open Go.RowKit Go.Proofs.YtcgpbcpgopmfcaaGreatDoorW.PrintWords Go.Proofs.YtcgpbcpgopmfcaaGreatDoorW.PrintLast Go.Proofs.YtcgpbcpgopmfcaaGreatDoorW.PrintMore Go.Proofs.YtcgpbcpgopmfcaaGreatDoor.Math
set_option linter.unusedVariables false
set_option linter.unusedSimpArgs false

/-- What bytes come to, the greatest first. -/
def vbig (l : List Int) : Int := l.foldl (fun v b => v * 256 + b) 0
theorem vbig_snoc (l : List Int) (b : Int) : vbig (l ++ [b]) = vbig l * 256 + b := by simp [vbig]
theorem vbig_nonneg {l : List Int} : IsB l → 0 ≤ vbig l := by
  induction l using snoc_ind with
  | h0 => intro _; simp [vbig]
  | h1 l b ih =>
    intro h
    rw [vbig_snoc]
    have h1 := ih (fun x hx => h x (List.mem_append_left _ hx))
    have h2 := h b (by simp)
    omega

theorem vbig_lt {l : List Int} : IsB l → vbig l < 256 ^ l.length := by
  induction l using snoc_ind with
  | h0 => intro _; simp [vbig]
  | h1 l b ih =>
    intro h
    rw [vbig_snoc, List.length_append, List.length_singleton, Int.pow_succ]
    have h1 := ih (fun x hx => h x (List.mem_append_left _ hx))
    have h2 := h b (by simp)
    omega

/-- Four bytes, those that there aren't being 0. -/
def pad4 (l : List Int) : List Int := (l ++ [0, 0, 0, 0]).take 4

def num_Get32.f (l0 : List Int) : Option (Int) := if IsB (l0.take 4) then some (vbig (pad4 l0)) else none

theorem or_u32 {x y : Int} (i : Nat) (h0 : 0 ≤ x) (h1 : x < 4294967296) (hx : x.toNat % 2 ^ i = 0) (g0 : 0 ≤ y) (g1 : y.toNat < 2 ^ i ∧ y < 4294967296) : Go.bits .or .u32 x y = x + y := by
  rw [u32_or x y h0 h1 g0 g1.2, nat_join i _ _ hx g1.1]; omega

theorem pad4_rd (l : List Int) {i : Nat} (hi : i < 4) : rd (pad4 l) (i : Int) = if i < l.length then rd l (i : Int) else 0 := by
  unfold pad4 rd
  simp only [Int.toNat_natCast, List.getD_eq_getElem?_getD, List.getElem?_take, hi, if_true]
  split
  · rename_i h; rw [List.getElem?_append_left h]
  · rename_i h
    rw [List.getElem?_append_right (by omega)]
    have : i - l.length < 4 := by omega
    match i - l.length, this with
    | 0, _ => rfl
    | 1, _ => rfl
    | 2, _ => rfl
    | 3, _ => rfl

set_option maxHeartbeats 400000 in
set_option maxRecDepth 100000 in
theorem num_Get32.calls (A0 : Option Addr) (c0 : Nat) (l0 : List Int) (r : Int) (w : World) (hr0 : Kd.C (Kd.int .u8) w A0 l0.length l0) (hc0 : l0.length ≤ c0) (h : num_Get32.f l0 = some r) :
    Calls Tryz.prog 14 #[.slice A0 l0.length c0] w fun e w' => e = .returned (.int .u32 r) ∧ Below w.heap.size w w' := by
  have hlen := Kd.C_max hr0
  have hsz : (Tryz.prog.info? 5).map (·.size) = some 1 := by kernel_rfl
  obtain ⟨cs, hcs⟩ : ∃ cs : List Value, cs = (l0.take 4).map (Value.int .u8) := ⟨_, rfl⟩
  have HC := Lib.hid hcs
  clear hcs
  go_enter Tryz.func14, Tryz.ntmps14
  go_wp2_with ((with_reducible refine gate_dst (N := 6) rfl ?_); (refine wpList_copy_splice rfl (.tmp 4) (.tmp 5) 23 23 rfl 5 Tryz.underlying23 hsz (some ⟨w.heap.size, 0, none⟩) A0 4 4 l0.length c0 rfl rfl w.heap.size 0 [.int .u8 0, .int .u8 0, .int .u8 0, .int .u8 0] 59 ?hg cs ?hn ?hpos ?hfit ?h1 w.heap.size w ?hb ?hBg ?h))
  case hg => exact heap_alloc_new w _
  case hn => rw [HC.out, List.length_map, List.length_take, Nat.min_comm]
  case hpos =>
    rw [HC.out, List.length_map, List.length_take]
    intro hp
    obtain ⟨ad, rfl, _⟩ := Kd.at_int hr0 0 (by omega) (by omega)
    refine ⟨ad, rfl, ?_⟩
    intro j v hv
    rw [List.getElem?_map, List.getElem?_take] at hv
    by_cases hj : j < 4
    · rw [if_pos hj] at hv
      have hjl : j < l0.length := by
        rcases Nat.lt_or_ge j l0.length with h1 | h1
        · exact h1
        · rw [List.getElem?_eq_none h1] at hv; cases hv
      obtain ⟨ad', hA, hc⟩ := Kd.at_int hr0 (j : Int) (by omega) (by omega)
      injection hA with hA
      subst hA
      rw [Int.toNat_natCast] at hc
      rw [List.getElem?_eq_getElem hjl] at hv
      simp only [Option.map_some, Option.some.injEq] at hv
      subst hv
      have e : rd l0 (j : Int) = l0[j] := by simp [rd, List.getD_eq_getElem?_getD, List.getElem?_eq_getElem hjl]
      rw [e] at hc
      exact pw_cell_below ((Below.refl _ _).alloc (Nat.le_refl _) _) hc
    · rw [if_neg hj] at hv; cases hv
  case hfit => rw [HC.out, List.length_map, List.length_take]; simp; omega
  case h1 => intro v hv; rw [HC.out] at hv; obtain ⟨x, _, rfl⟩ := List.mem_map.1 hv; rfl
  case hb => exact (Below.refl _ _).alloc (Nat.le_refl _) _
  case hBg => exact Nat.le_refl _
  case h =>
    intro w2 HG HB2
    have HB := Lib.hid HB2
    have hcell : ∀ i : Nat, i < 4 → w2.cell? ⟨w.heap.size, i, none⟩ = some (.int .u8 (rd (pad4 l0) (i : Int))) := by
      intro i hi
      rw [blk_cell HG.out i, List.getElem?_toArray, pad4_rd l0 hi, HC.out]
      unfold splice
      rw [List.take_zero, List.nil_append, Nat.zero_add]
      by_cases hl : i < l0.length
      · rw [if_pos hl, List.getElem?_append_left (by simp; omega), List.getElem?_map, List.getElem?_take, if_pos hi, List.getElem?_eq_getElem hl]
        simp [rd, List.getD_eq_getElem?_getD, List.getElem?_eq_getElem hl]
      · rw [if_neg hl, List.getElem?_append_right (by simp; omega)]
        simp only [List.length_map, List.length_take, List.getElem?_drop]
        rw [show min 4 l0.length + (i - min 4 l0.length) = i by omega]
        match i, hi with
        | 0, _ => rfl
        | 1, _ => rfl
        | 2, _ => rfl
        | 3, _ => rfl
    have g0 := hcell 0 (by omega)
    have g1 := hcell 1 (by omega)
    have g2 := hcell 2 (by omega)
    have g3 := hcell 3 (by omega)
    unfold num_Get32.f at h
    by_cases hb4 : IsB (l0.take 4)
    · rw [if_pos hb4] at h
      injection h with h
      have hv : ∀ i : Nat, i < 4 → 0 ≤ rd (pad4 l0) (i : Int) ∧ rd (pad4 l0) (i : Int) < 256 := by
        intro i hi
        rw [pad4_rd l0 hi]
        split
        · rename_i hl
          have : rd (l0.take 4) (i : Int) = rd l0 (i : Int) := by simp [rd, List.getD_eq_getElem?_getD, List.getElem?_take, hi]
          rw [← this]
          exact hb4 _ (rd_mem (by rw [List.length_take]; omega))
        · omega
      have hbig : vbig (pad4 l0) = ((rd (pad4 l0) (0 : Nat) * 256 + rd (pad4 l0) (1 : Nat)) * 256 + rd (pad4 l0) (2 : Nat)) * 256 + rd (pad4 l0) (3 : Nat) := by
        have hl : (pad4 l0).length = 4 := by unfold pad4; simp
        match hp : pad4 l0, hl with
        | [a, b, c, d], _ => simp [vbig, rd]
      have v0 := hv 0 (by omega)
      have v1 := hv 1 (by omega)
      have v2 := hv 2 (by omega)
      have v3 := hv 3 (by omega)
      clear hv hcell HB2 hr0 hb4
      generalize rd (pad4 l0) ((0 : Nat) : Int) = b0 at *
      generalize rd (pad4 l0) ((1 : Nat) : Int) = b1 at *
      generalize rd (pad4 l0) ((2 : Nat) : Int) = b2 at *
      generalize rd (pad4 l0) ((3 : Nat) : Int) = b3 at *
      rw [hbig] at h
      have H := Lib.hid h
      clear h hbig
      go_wp2
      go_ret
      refine ⟨?_, HB.out⟩
      have e1 : Go.bits .or .u32 (b0 * 16777216) (b1 * 65536) = b0 * 16777216 + b1 * 65536 := or_u32 24 (by omega) (by omega) (by omega) (by omega) (by omega)
      have e2 : Go.bits .or .u32 (b0 * 16777216 + b1 * 65536) (b2 * 256) = b0 * 16777216 + b1 * 65536 + b2 * 256 := or_u32 16 (by omega) (by omega) (by omega) (by omega) (by omega)
      have e3 : Go.bits .or .u32 (b0 * 16777216 + b1 * 65536 + b2 * 256) b3 = b0 * 16777216 + b1 * 65536 + b2 * 256 + b3 := or_u32 8 (by omega) (by omega) (by omega) (by omega) (by omega)
      show Ending.returned (.int .u32 _) = _
      rw [e1, e2, e3, ← H.out]
      congr 2
      omega
    · rw [if_neg hb4] at h; cases h

end Go.Proofs.YtcgpbcpgopmfcaaGreatDoor.PAll
