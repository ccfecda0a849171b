/- What the printed functions of the package num, and of its reference, come to: short numbers, and rows that are the same. -/
import Derived.Test.YtpeimbbgaccddaaRd
import Derived.Test.YtpeimbbgaccddaaPAllx1
namespace Go.Proofs.Ytpeimbbgaccddaa.NumFacts
open Go.RowKit Go.Proofs.Ytpeimbbgaccddaa.PAll Go.Proofs.YtpeimbbgaccddaaW.PrintWords Go.Proofs.YtpeimbbgaccddaaW.PrintLast Go.Proofs.YtpeimbbgaccddaaW.PrintMore Go.Proofs.Ytpeimbbgaccddaa.Math

theorem same_l0 (a b : List Int) (hab : a.length = b.length) (hn : a.length ≤ 140737488355328) (d : Nat) : ∀ (k i : Nat), i ≤ a.length → a.length - i = d → d < k →
    cambiumref01_Same.l0 k a b (i : Int) = some (decide (a.drop i = b.drop i)) := by
  induction d with
  | zero =>
    intro k i h1 hd hk
    obtain ⟨k, rfl⟩ : ∃ m, k = m + 1 := ⟨k - 1, by omega⟩
    simp only [cambiumref01_Same.l0]
    rw [if_neg (by omega)]
    have : i = a.length := by omega
    subst this
    rw [List.drop_length, hab, List.drop_length]; simp
  | succ d ih =>
    intro k i h1 hd hk
    obtain ⟨k, rfl⟩ : ∃ m, k = m + 1 := ⟨k - 1, by omega⟩
    simp only [cambiumref01_Same.l0]
    rw [if_pos (by omega), if_pos (by omega), if_pos (by omega)]
    rw [rd_drop (l := a) (i := i) (by omega), rd_drop (l := b) (i := i) (by omega)]
    by_cases e : rd a (i : Int) = rd b (i : Int)
    · rw [if_pos e, wrap_id (by omega) (by omega)]
      have := ih k (i + 1) (by omega) (by omega) (by omega)
      rw [show (i : Int) + 1 = ((i + 1 : Nat) : Int) from rfl, this, e]
      simp
    · rw [if_neg e]
      simp [e]

/-- Same: whether two rows are one. -/
theorem same_eq (k : Nat) (a b : List Int) (hn : a.length ≤ 140737488355328) (hk : a.length < k) : cambiumref01_Same.f k a b = some (decide (a = b)) := by
  unfold cambiumref01_Same.f
  by_cases h : a.length = b.length
  · rw [if_pos (by omega)]
    have := same_l0 a b h hn a.length k 0 (by omega) (by omega) hk
    simpa using this
  · rw [if_neg (by omega)]
    have : ¬ a = b := fun e => h (by rw [e])
    simp [this]

theorem and128 {c : Int} (h0 : 0 ≤ c) (h1 : c < 256) : (Go.bits .and .u8 c 128 = 0) ↔ c < 128 := by
  rw [u8_and c 128 h0 h1 (by omega) (by omega)]
  have := nat_bit 7 c.toNat
  have e : (2 : Nat) ^ 7 = 128 := rfl
  rw [e] at this
  have e2 : (128 : Int).toNat = 128 := rfl
  rw [e2, this]
  omega

theorem and127 {c : Int} (h0 : 0 ≤ c) (h1 : c < 256) : Go.bits .and .u8 c 127 = c % 128 := by
  rw [u8_and c 127 h0 h1 (by omega) (by omega)]
  have e2 : (127 : Int).toNat = 127 := rfl
  rw [e2, nat_mask7]
  omega

theorem or128 {c : Int} (h0 : 0 ≤ c) (h1 : c < 256) : Go.bits .or .u8 c 128 = c % 128 + 128 := by
  rw [u8_or c 128 h0 h1 (by omega) (by omega)]
  have e2 : (128 : Int).toNat = 128 := rfl
  rw [e2]
  by_cases h : c < 128
  · rw [Nat.or_comm, nat_join 7 128 c.toNat (by decide) (by omega)]; omega
  · have hc : c.toNat = 128 + (c.toNat - 128) := by omega
    have h3 : c.toNat = 128 ||| (c.toNat - 128) := by rw [nat_join 7 128 (c.toNat - 128) (by decide) (by omega)]; omega
    rw [h3, Nat.or_comm, ← Nat.or_assoc, Nat.or_self, ← h3]
    omega

theorem pow128 (i : Nat) : (128 : Int) ^ i = 2 ^ (7 * i) := by
  rw [Int.pow_mul]; rfl

/-- A part that is laid above what was read. -/
theorem or_part {v c : Int} {i : Nat} (hv : 0 ≤ v) (hv1 : v < 128 ^ i) (hc0 : 0 ≤ c) (hc1 : c < 128) (hi : i ≤ 9) (h9 : i = 9 → c ≤ 1) :
    Go.bits .or .u64 v (shl .u64 (IntKind.u64.wrap c) (wrap64 (7 * (i : Int)))) = v + c * 128 ^ i := by
  have e2 : IntKind.u64.wrap c = c := by rw [IntKind.wrap_u64]; omega
  have hp : (0 : Int) < 128 ^ i := Int.pow_pos (by omega)
  have h8 : (128 : Int) ^ 8 = 72057594037927936 := by decide
  have h99 : (128 : Int) ^ 9 = 9223372036854775808 := by decide
  have hb : c * 128 ^ i < 18446744073709551616 := by
    rcases Nat.lt_or_ge i 9 with h | h
    · have : (128 : Int) ^ i ≤ 128 ^ 8 := pow_le (by omega)
      have h2 : c * 128 ^ i ≤ 127 * 128 ^ i := Int.mul_le_mul_of_nonneg_right (by omega) (by omega)
      omega
    · have : i = 9 := by omega
      subst this
      have := h9 rfl
      rw [h99]; omega
  have hv2 : v < 18446744073709551616 := by
    have : (128 : Int) ^ i ≤ 128 ^ 9 := pow_le hi
    omega
  have hm : 0 ≤ c * 128 ^ i := Int.mul_nonneg hc0 (by omega)
  rw [wrap_id (x := 7 * (i : Int)) (by omega) (by omega), e2]
  clear e2
  unfold shl
  have e3 : min (7 * (i : Int)).toNat (IntKind.bits .u64) = 7 * i := by
    show min (7 * (i : Int)).toNat 64 = 7 * i
    omega
  rw [e3, ← pow128, IntKind.wrap_u64]
  have e4 : c * 128 ^ i % 18446744073709551616 = c * 128 ^ i := by omega
  rw [e4, u64_or _ _ hv hv2 hm hb, Nat.or_comm]
  have e5 : (c * 128 ^ i).toNat = c.toNat * 2 ^ (7 * i) := by
    have : c * 128 ^ i = ((c.toNat * 2 ^ (7 * i) : Nat) : Int) := by
      rw [pow128]; push_cast; rw [Int.toNat_of_nonneg hc0]
    rw [this, Int.toNat_natCast]
  have e6 : v.toNat < 2 ^ (7 * i) := by
    have : ((2 ^ (7 * i) : Nat) : Int) = 128 ^ i := by rw [pow128]; push_cast; rfl
    omega
  rw [nat_join (7 * i) _ _ (by rw [e5]; exact Nat.mul_mod_left _ _) e6]
  omega

theorem mn10 (l : List Int) : mn (l.length : Int) 10 = ((min l.length 10 : Nat) : Int) := by
  unfold mn; split <;> omega

theorem get_l0 (l : List Int) (hb : IsB l) (d : Nat) : ∀ (k i : Nat) (v : Int), i ≤ min l.length 10 → min l.length 10 - i = d → 2 * d < k → 0 ≤ v → v < 128 ^ i →
    num_Get.l0 k l v (mn (l.length : Int) 10) (i : Int) = some (vgo i v (l.drop i)) := by
  rw [mn10]
  induction d with
  | zero =>
    intro k i v h1 hd hk h0 hv
    obtain ⟨k, rfl⟩ : ∃ m, k = m + 1 := ⟨k - 1, by omega⟩
    simp only [num_Get.l0]
    rw [if_neg (by omega)]
    by_cases h : i < l.length
    · rw [rd_drop h, vgo, if_pos (by omega)]
    · rw [List.drop_of_length_le (by omega), vgo]
  | succ d ih =>
    intro k i v h1 hd hk h0 hv
    obtain ⟨k, rfl⟩ : ∃ m, k = m + 1 + 1 := ⟨k - 2, by omega⟩
    have hil : i < l.length := by omega
    have hi10 : i < 10 := by omega
    have hr := rd_isB hb i
    have e9 : num_Get.l0 (k + 1 + 1) l v ((min l.length 10 : Nat) : Int) (i : Int) = num_Get.j1 (k + 1) l v (i : Int) (rd l (i : Int)) ((min l.length 10 : Nat) : Int) (i : Int) (decide (i = 9 ∧ 1 < rd l (i : Int))) := by
      conv => lhs; unfold num_Get.l0
      rw [if_pos (by omega), if_pos (by omega), if_pos (by omega)]
      by_cases h : i = 9
      · rw [if_pos (by omega)]
        congr 1
        simp [h]
      · rw [if_neg (by omega)]
        congr 1
        simp [h]
    rw [e9, rd_drop hil]
    have hs := rd_isB hb i
    generalize rd l (i : Int) = c at hr hs ⊢
    unfold num_Get.j1 vgo
    rw [if_neg (by omega : ¬ 10 ≤ i)]
    by_cases h2 : i = 9 ∧ 1 < c
    · rw [if_pos (by simpa using h2), if_pos h2]
    rw [if_neg (by simpa using h2), if_neg h2]
    have e0 : 0 ≤ wrap64 (7 * (i : Int)) := by rw [wrap_id (by omega) (by omega)]; omega
    rw [if_pos e0, and127 hr.1 hr.2, or_part (c := c % 128) (i := i) h0 hv (by omega) (by omega) (by omega) (by omega), wrap_id (x := (i : Int) + 1) (by omega) (by omega)]
    clear e0
    by_cases h3 : c < 128
    · rw [if_pos ((and128 hr.1 hr.2).2 h3), if_pos h3]
      rw [show c % 128 = c by omega]
      by_cases h4 : c = 0
      · rw [if_pos h4]
        by_cases h5 : 0 < i
        · rw [if_pos (by omega), if_pos ⟨h4, h5⟩]
        · rw [if_neg (by omega), if_neg (by omega)]
      · rw [if_neg h4, if_neg (by omega)]
    · rw [if_neg (by rw [and128 hr.1 hr.2]; exact h3), if_neg h3]
      rw [show c - 128 = c % 128 by omega]
      refine ih k (i + 1) _ (by omega) (by omega) (by omega) ?_ ?_
      · have : 0 ≤ c % 128 * 128 ^ i := Int.mul_nonneg (by omega) (by have : (0 : Int) < 128 ^ i := Int.pow_pos (by omega); omega)
        omega
      · rw [Int.pow_succ]
        have hp : (0 : Int) < 128 ^ i := Int.pow_pos (by omega)
        have : c % 128 * 128 ^ i ≤ 127 * 128 ^ i := Int.mul_le_mul_of_nonneg_right (by omega) (by omega)
        omega

/-- Get: the short number with which bytes begin. -/
theorem get_eq (k : Nat) (l : List Int) (hb : IsB l) (hk : 20 < k) : num_Get.f k l = some (vget l) := by
  unfold num_Get.f
  have := get_l0 l hb (min l.length 10) k 0 0 (by omega) (by omega) (by omega) (by omega) (by simp)
  simpa [vget] using this

end Go.Proofs.Ytpeimbbgaccddaa.NumFacts
