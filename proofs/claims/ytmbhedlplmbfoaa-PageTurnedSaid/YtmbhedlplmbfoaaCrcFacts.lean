/- What the reference's sum, printed, comes to: the sum. -/
import Derived.Test.YtmbhedlplmbfoaaCrcMath
import Derived.Test.YtmbhedlplmbfoaaExtCrc
import Derived.Test.YtmbhedlplmbfoaaPAllx3
namespace Go.Proofs.Ytmbhedlplmbfoaa.CrcFacts
open Go.RowKit Go.Proofs.Ytmbhedlplmbfoaa.PAll Go.Proofs.YtmbhedlplmbfoaaW.PrintWords Go.Proofs.YtmbhedlplmbfoaaW.PrintLast Go.Proofs.YtmbhedlplmbfoaaW.PrintMore Go.Proofs.Ytmbhedlplmbfoaa.Math

theorem rsum_step (k : Nat) (l : List Int) (c i j : Nat) (hc : c < 4294967296) (hj : j < 8) :
    cambiumref03_Sum.l1 (k + 1) l (c : Int) (i : Int) (j : Int) = cambiumref03_Sum.l1 k l ((L c : Nat) : Int) (i : Int) ((j + 1 : Nat) : Int) := by
  rw [cambiumref03_Sum.l1, if_pos (by omega), wrap_id (x := (j : Int) + 1) (by omega) (by omega)]
  have e1 : Int.tmod (c : Int) 2 = ((c % 2 : Nat) : Int) := by rw [Int.tmod_eq_emod_of_nonneg (by omega)]; omega
  have e2 : Int.tdiv (c : Int) 2 % 4294967296 = ((c / 2 : Nat) : Int) := by rw [Int.tdiv_eq_ediv_of_nonneg (by omega)]; omega
  rw [e1, e2]
  unfold L
  by_cases h : c % 2 = 1
  · rw [if_pos (by omega), if_pos h]
    have := u32_xor_nat (c / 2) 2197175160 (by omega) (by omega)
    rw [show (2197175160 : Int) = ((2197175160 : Nat) : Int) from rfl, this]; rfl
  · rw [if_neg (by omega), if_neg h]; rfl

theorem rsum_byte (l : List Int) (i : Nat) (n : Nat) : ∀ (k j c : Nat), c < 4294967296 → j + n = 8 → n < k → i < 140737488355328 →
    cambiumref03_Sum.l1 k l (c : Int) (i : Int) (j : Int) = cambiumref03_Sum.l0 (k - n - 1) l ((Li n c : Nat) : Int) ((i + 1 : Nat) : Int) := by
  induction n with
  | zero =>
    intro k j c hc hj hk hi
    obtain ⟨k, rfl⟩ : ∃ m, k = m + 1 := ⟨k - 1, by omega⟩
    rw [cambiumref03_Sum.l1, if_neg (by omega), wrap_id (x := (i : Int) + 1) (by omega) (by omega)]; rfl
  | succ n ih =>
    intro k j c hc hj hk hi
    obtain ⟨k, rfl⟩ : ∃ m, k = m + 1 := ⟨k - 1, by omega⟩
    rw [rsum_step k l c i j hc (by omega), ih k (j + 1) (L c) (L_lt hc) (by omega) (by omega) hi, Li, show k + 1 - (n + 1) - 1 = k - n - 1 by omega]

theorem rsum_l0 (l : List Int) (hb : IsB l) (hl : l.length < 140737488355328) (d : Nat) : ∀ (k i c : Nat), c < 4294967296 → i + d = l.length → 10 * d < k →
    cambiumref03_Sum.l0 k l (c : Int) (i : Int) = some (((4294967295 - crcN c (nats (l.drop i)) : Nat) : Int)) := by
  induction d with
  | zero =>
    intro k i c hc hi hk
    obtain ⟨k, rfl⟩ : ∃ m, k = m + 1 := ⟨k - 1, by omega⟩
    rw [cambiumref03_Sum.l0, if_neg (by omega), List.drop_of_length_le (by omega)]
    show some ((4294967295 - (c : Int)) % 4294967296) = some (((4294967295 - c : Nat) : Int))
    congr 1
    omega
  | succ d ih =>
    intro k i c hc hi hk
    obtain ⟨k, rfl⟩ : ∃ m, k = m + 1 := ⟨k - 1, by omega⟩
    have hr := rd_isB hb i
    obtain ⟨b, hbv⟩ := Int.eq_ofNat_of_zero_le hr.1
    rw [cambiumref03_Sum.l0, if_pos (by omega), if_pos (by omega), rd_drop (l := l) (i := i) (by omega), hbv]
    rw [hbv] at hr
    have e : Go.bits .xor .u32 (c : Int) ((b : Int) % 4294967296) = ((c ^^^ b : Nat) : Int) := by
      rw [show (b : Int) % 4294967296 = (b : Int) by omega]; exact u32_xor_nat c b hc (by omega)
    have hx : c ^^^ b < 4294967296 := Nat.xor_lt_two_pow (n := 32) hc (by omega)
    have := rsum_byte l i 8 k 0 (c ^^^ b) hx (by omega) (by omega) (by omega)
    rw [e]
    rw [show (0 : Int) = ((0 : Nat) : Int) from rfl, this, ih (k - 8 - 1) (i + 1) (Li 8 (c ^^^ b)) (Li_lt hx) (by omega) (by omega)]
    rfl

theorem rsum_eq (k : Nat) (l : List Int) (hb : IsB l) (hl : l.length < 140737488355328) (hk : 10 * l.length < k) : cambiumref03_Sum.f k l = some (crcSum l) := by
  unfold cambiumref03_Sum.f
  have := rsum_l0 l hb hl l.length k 0 4294967295 (by omega) (by omega) (by omega)
  rw [List.drop_zero] at this
  exact this

theorem sum_eq (l : List Int) (hb : IsB l) : crc_Sum.f l = some (crcSum l) := by unfold crc_Sum.f; rw [if_pos hb]
theorem more_eq (s : Int) (l : List Int) (h0 : 0 ≤ s) (h1 : s < 4294967296) (hb : IsB l) : crc_More.f s l = some (crcMore s l) := by unfold crc_More.f; rw [if_pos ⟨h0, h1, hb⟩]

end Go.Proofs.Ytmbhedlplmbfoaa.CrcFacts
