/- Contracts of functions of num that the print doesn't take, proved by hand: the number of eight bytes. -/
import Derived.Test.YtenmjbcedadcbaaPAllx0
import Derived.Test.YtenmjbcedadcbaaRd
import Derived.Lib.Hide
import Derived.Laws.CopyOwn
import Derived.WalkLawsBesides
namespace Go.Proofs.Ytenmjbcedadcbaa.PAll
open Go.RowKit Go.Proofs.YtenmjbcedadcbaaW.PrintWords Go.Proofs.YtenmjbcedadcbaaW.PrintLast Go.Proofs.YtenmjbcedadcbaaW.PrintMore Go.Proofs.Ytenmjbcedadcbaa.Math
set_option linter.unusedVariables false
set_option linter.unusedSimpArgs false

/-- What bytes come to, the greatest first. -/
def vbig (l : List Int) : Int := l.foldl (fun v b => v * 256 + b) 0
theorem vbig_snoc (l : List Int) (b : Int) : vbig (l ++ [b]) = vbig l * 256 + b := by simp [vbig]
theorem vbig_nonneg {l : List Int} : IsB l → 0 ≤ vbig l := by
  induction l using snoc_ind with
  | h0 => intro _; simp [vbig]
  | h1 l b ih =>
    intro h
    rw [vbig_snoc]
    have h1 := ih (fun x hx => h x (List.mem_append_left _ hx))
    have h2 := h b (by simp)
    omega

/-- The part that the first bytes come to. -/
def vpart (l : List Int) (k : Nat) : Int := vbig (l.take k) * 256 ^ (8 - k)

def num_Unkey.f (l0 : List Int) : Option (Int × Bool) := if l0.length = 8 then (if IsB l0 then some (vbig l0, true) else none) else some (0, false)

theorem vbig_lt {l : List Int} : IsB l → vbig l < 256 ^ l.length := by
  induction l using snoc_ind with
  | h0 => intro _; simp [vbig]
  | h1 l b ih =>
    intro h
    rw [vbig_snoc, List.length_append, List.length_singleton, Int.pow_succ]
    have h1 := ih (fun x hx => h x (List.mem_append_left _ hx))
    have h2 := h b (by simp)
    omega

theorem pow256 (i : Nat) : (256 : Int) ^ i = ((2 ^ (8 * i) : Nat) : Int) := by
  rw [Nat.pow_mul]; exact (Int.natCast_pow 256 i).symm

theorem part_step {l : List Int} (hb : IsB l) (h8 : l.length = 8) {k : Nat} (hk : k < 8) :
    Go.bits .or .u64 (vpart l k) (rd l (k : Int) * 256 ^ (7 - k)) = vpart l (k + 1) := by
  have hr := hb _ (rd_mem (l := l) (k := k) (by omega))
  have h0 := vbig_nonneg (isB_take hb k)
  have h1 := vbig_lt (isB_take hb k)
  rw [List.length_take, show min k l.length = k by omega] at h1
  have e1 : (256 : Int) ^ (8 - k) = 256 ^ (7 - k) * 256 := by rw [show 8 - k = (7 - k) + 1 by omega, Int.pow_succ]
  have hp : (0 : Int) < 256 ^ (7 - k) := Int.pow_pos (by omega)
  have e8 : (256 : Int) ^ k * 256 ^ (8 - k) = 18446744073709551616 := by
    rw [← Int.pow_add, show k + (8 - k) = 8 by omega]; rfl
  have ep : vpart l (k + 1) = vpart l k + rd l (k : Int) * 256 ^ (7 - k) := by
    unfold vpart
    rw [rd_take_succ (by omega), vbig_snoc, Int.add_mul, show 8 - (k + 1) = 7 - k by omega, e1, Int.mul_assoc, Int.mul_comm 256]
  have hy : rd l (k : Int) * 256 ^ (7 - k) < 256 ^ (8 - k) := by
    rw [e1, Int.mul_comm]; exact Int.mul_lt_mul_of_pos_left hr.2 hp
  have hy0 : 0 ≤ rd l (k : Int) * 256 ^ (7 - k) := Int.mul_nonneg hr.1 (by omega)
  have hx0 : 0 ≤ vpart l k := Int.mul_nonneg h0 (by rw [e1]; omega)
  have hx1 : vpart l k + 256 ^ (8 - k) ≤ 18446744073709551616 := by
    unfold vpart
    have : (vbig (l.take k) + 1) * 256 ^ (8 - k) ≤ 256 ^ k * 256 ^ (8 - k) := Int.mul_le_mul_of_nonneg_right (by omega) (by rw [e1]; omega)
    rw [e8, Int.add_mul] at this
    omega
  rw [u64_or _ _ hx0 (by omega) hy0 (by omega), ep]
  rw [nat_join (8 * (8 - k)) (vpart l k).toNat (rd l (k : Int) * 256 ^ (7 - k)).toNat ?_ ?_]
  · omega
  · unfold vpart
    rw [pow256]
    obtain ⟨n, hn⟩ := Int.eq_ofNat_of_zero_le h0
    rw [hn]
    have : ((n : Int) * ((2 ^ (8 * (8 - k)) : Nat) : Int)).toNat = n * 2 ^ (8 * (8 - k)) := by
      rw [← Int.natCast_mul, Int.toNat_natCast]
    rw [this]; exact Nat.mul_mod_left _ _
  · rw [pow256 (8 - k)] at hy
    omega

set_option maxHeartbeats 400000 in
/-- The closure in Unkey: a byte in its place. -/
theorem unkey1 (k : Nat) (hk : k < 8) (g : Nat) (A0 : Option Addr) (c0 : Nat) (l0 : List Int) (w : World) (hb : w.heap[g]? = some (.cells #[.slice A0 l0.length c0] 22 (0, 0))) (hr0 : Kd.C (Kd.int .u8) w A0 l0.length l0) (hlt : k < l0.length) (hv : 0 ≤ rd l0 (k : Int) ∧ rd l0 (k : Int) < 256) :
    Calls Try.prog 34 #[.int .i64 (k : Int), .pointer (some ⟨g, 0, none⟩)] w fun e w' => e = .returned (.int .u64 (rd l0 (k : Int) * 256 ^ (7 - k))) ∧ w = w' := by
  have hcell : w.cell? ⟨g, 0, none⟩ = some (.slice A0 l0.length c0) := (blk_cell hb 0).trans rfl
  obtain ⟨ad, rfl, hx⟩ := Kd.at_int hr0 (k : Int) (by omega) (by omega)
  rw [Int.toNat_natCast] at hx
  have e1 : IntKind.u64.wrap (rd l0 (k : Int) * 2 ^ (8 * (7 - k))) = rd l0 (k : Int) * 256 ^ (7 - k) := by
    have hp : (256 : Int) ^ (7 - k) ≤ 256 ^ 7 := by
      rw [pow256, pow256]; exact_mod_cast Nat.pow_le_pow_right (by decide) (by omega)
    have h7 : (256 : Int) ^ 7 = 72057594037927936 := by decide
    have hp0 : (0 : Int) < 256 ^ (7 - k) := Int.pow_pos (by omega)
    have hm : rd l0 (k : Int) * 256 ^ (7 - k) ≤ 255 * 256 ^ (7 - k) := Int.mul_le_mul_of_nonneg_right (by omega) (by omega)
    have hm0 : 0 ≤ rd l0 (k : Int) * 256 ^ (7 - k) := Int.mul_nonneg hv.1 (by omega)
    have e3 : (2 : Int) ^ (8 * (7 - k)) = 256 ^ (7 - k) := by rw [pow256]; exact (Int.natCast_pow 2 _).symm
    rw [e3, IntKind.wrap_u64]; omega
  have E1 := Lib.hid e1
  clear e1 hb hr0
  have q1 : ((k : Int)) < (l0.length : Int) := by omega
  have q0 : (0 : Int) ≤ 7 - (k : Int) := by omega
  go_enter Try.func34, Try.ntmps34
  go_wp2
  go_ret
  have E2 := E1.out
  exact ⟨by simp [E2], rfl⟩

set_option maxHeartbeats 400000 in
theorem num_Unkey.calls (A0 : Option Addr) (c0 : Nat) (l0 : List Int) (r1 : Int) (r2 : Bool) (w : World) (hr0 : Kd.C (Kd.int .u8) w A0 l0.length l0) (hc0 : l0.length ≤ c0) (h : num_Unkey.f l0 = some (r1, r2)) :
    Calls Try.prog 24 #[.slice A0 l0.length c0] w fun e w' => e = .returned (.tuple #[.int .u64 r1, .bool r2]) ∧ Below w.heap.size w w' := by
  unfold num_Unkey.f at h
  by_cases h8 : l0.length = 8
  · rw [if_pos h8] at h
    by_cases hb : IsB l0
    · rw [if_pos hb] at h
      simp only [Option.some.injEq, Prod.mk.injEq] at h
      obtain ⟨rfl, rfl⟩ := h
      have H8 := Lib.hid h8
      have HBy := Lib.hid hb
      clear h8 hb
      have c8 : ((l0.length : Int) != 8) = false := by rw [H8.out]; rfl
      go_enter Try.func24, Try.ntmps24
      go_wp2
      have hblk : (w.alloc (Obj.cells #[Value.slice A0 l0.length c0] 22)).heap[w.heap.size]? = some (.cells #[Value.slice A0 l0.length c0] 22 (0, 0)) := heap_alloc_new w _
      have hrd : Kd.C (Kd.int .u8) (w.alloc (Obj.cells #[Value.slice A0 l0.length c0] 22)) A0 l0.length l0 := Kd.C_alloc hr0 _
      have hbe : Below w.heap.size w (w.alloc (Obj.cells #[Value.slice A0 l0.length c0] 22)) := (Below.refl _ _).alloc (Nat.le_refl _) _
      have HR := Lib.hid hrd
      have HK := Lib.hid hblk
      have HE := Lib.hid hbe
      clear hrd hblk hbe hr0
      generalize (w.alloc (Obj.cells #[Value.slice A0 l0.length c0] 22)) = w1 at HK HR HE ⊢
      go_loopw [5, 11] (fun v i wr => ∃ k : Nat, k ≤ 8 ∧ i = .int .i64 k ∧ v = .int .u64 (vpart l0 k) ∧ w1 = wr) (fun _ i _ => 8 - (intOf i).toNat)
      case atStart => exact ⟨0, by omega, rfl, rfl, rfl⟩
      case round =>
        obtain ⟨k, hk, rfl, rfl, rfl⟩ := hrel
        by_cases hlt : k < 8
        · have hkl : k < l0.length := by rw [H8.out]; exact hlt
          go_wp2_with fail
          refine (unkey1 k hlt _ A0 c0 l0 _ HK.out HR.out hkl (HBy.out _ (rd_mem hkl))).mono ?_
          rintro e w' ⟨rfl, rfl⟩
          go_wp2
          rw [part_step HBy.out H8.out hlt]
          go_roundw
          case rel => exact ⟨k + 1, by omega, by go_num, rfl, by first | rfl | trivial⟩
          case measure => simp [intOf]; omega
        · have hk8 : k = 8 := by omega
          subst hk8
          go_wp2
          go_ret2
          have e : vpart l0 8 = vbig l0 := by unfold vpart; rw [List.take_of_length_le (by rw [H8.out]; omega)]; simp
          rw [e]
          exact ⟨rfl, HE.out⟩
    · rw [if_neg hb] at h
      cases h
  · rw [if_neg h8] at h
    simp only [Option.some.injEq, Prod.mk.injEq] at h
    obtain ⟨rfl, rfl⟩ := h
    have c8 : ((l0.length : Int) != 8) = true := by rw [bne_iff_ne]; omega
    go_enter Try.func24, Try.ntmps24
    go_wp2
    go_ret2
    exact ⟨rfl, (Below.refl _ _).alloc (Nat.le_refl _) _⟩

end Go.Proofs.Ytenmjbcedadcbaa.PAll
