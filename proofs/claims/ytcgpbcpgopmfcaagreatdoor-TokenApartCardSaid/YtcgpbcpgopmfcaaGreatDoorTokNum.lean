/- What the printed functions Put, Key, Put32 come to. -/
import Derived.Test.YtcgpbcpgopmfcaaGreatDoorExtGet
import Derived.Test.YtcgpbcpgopmfcaaGreatDoorTokMath
import Derived.Test.YtcgpbcpgopmfcaaGreatDoorPAllx1
namespace Go.Proofs.YtcgpbcpgopmfcaaGreatDoor.NumFacts
set_option linter.unusedVariables false
open Go.RowKit Go.Proofs.YtcgpbcpgopmfcaaGreatDoor.PAll Go.Proofs.YtcgpbcpgopmfcaaGreatDoorW.PrintWords Go.Proofs.YtcgpbcpgopmfcaaGreatDoorW.PrintLast Go.Proofs.YtcgpbcpgopmfcaaGreatDoorW.PrintMore Go.Proofs.YtcgpbcpgopmfcaaGreatDoor.Math

theorem or128 {c : Int} (h0 : 0 ≤ c) (h1 : c < 256) : Go.bits .or .u8 c 128 = c % 128 + 128 := by
  rw [u8_or c 128 h0 h1 (by omega) (by omega)]
  have e2 : (128 : Int).toNat = 128 := rfl
  rw [e2]
  by_cases h : c < 128
  · rw [Nat.or_comm, nat_join 7 128 c.toNat (by decide) (by omega)]; omega
  · have hc : c.toNat = 128 + (c.toNat - 128) := by omega
    have h3 : c.toNat = 128 ||| (c.toNat - 128) := by rw [nat_join 7 128 (c.toNat - 128) (by decide) (by omega)]; omega
    rw [h3, Nat.or_comm, ← Nat.or_assoc, Nat.or_self, ← h3]
    omega

theorem put_l0 (n : Nat) : ∀ (k : Nat) (v : Int) (acc : List Int), 0 ≤ v → v < 128 ^ (n + 1) → n + 1 < k → acc.length + n + 1 < 140737488355328 →
    num_Put.l0 k v acc = some (acc ++ vput v) := by
  induction n with
  | zero =>
    intro k v acc h0 h1 hk ha
    obtain ⟨k, rfl⟩ : ∃ m, k = m + 1 := ⟨k - 1, by omega⟩
    simp only [num_Put.l0]
    have h1' : v < 128 := by simpa using h1
    rw [if_neg (by omega), if_pos (by omega), vput_lt h1', show v % 256 = v by omega]
  | succ n ih =>
    intro k v acc h0 h1 hk ha
    obtain ⟨k, rfl⟩ : ∃ m, k = m + 1 := ⟨k - 1, by omega⟩
    simp only [num_Put.l0]
    by_cases h : 128 ≤ v
    · have h' : v < 128 * (128 : Int) ^ (n + 1) := by rw [Int.pow_succ] at h1; omega
      rw [if_pos (by omega), if_pos (by omega), or128 (by omega) (by omega), ih k (v / 128) _ (by omega) (by omega) (by omega) (by simp; omega), vput_ge h,
        show v % 256 % 128 = v % 128 by omega]
      simp
    · rw [if_neg (by omega), if_pos (by omega), vput_lt (by omega), show v % 256 = v by omega]

theorem put_eq (k : Nat) (v : Int) (h0 : 0 ≤ v) (h1 : v < 18446744073709551616) (hk : 11 ≤ k) : num_Put.f k v = some (vput v) := by
  unfold num_Put.f
  rw [put_l0 9 k v [] h0 (by omega) (by omega) (by simp)]; simp

def key8 (v : Int) : List Int := [v / 72057594037927936 % 256, v / 281474976710656 % 256, v / 1099511627776 % 256, v / 4294967296 % 256, v / 16777216 % 256, v / 65536 % 256, v / 256 % 256, v % 256]
theorem key8_len (v : Int) : (key8 v).length = 8 := rfl
theorem key8_isB (v : Int) : IsB (key8 v) := by
  intro x hx
  simp only [key8, List.mem_cons, List.not_mem_nil, or_false] at hx
  omega
theorem key_step (k : Nat) (v : Int) (l : List Int) (hl : l.length = 8) (i : Nat) (hi : i < 8) :
    num_Key.l0 (k + 1) v l 8 (i : Int) = num_Key.l0 k v (l.set (7 - i) (v / 256 ^ i % 256)) 8 ((i + 1 : Nat) : Int) := by
  rw [num_Key.l0, if_pos (by omega)]
  have e1 : wrap64 (8 * (i : Int)) = 8 * (i : Int) := wrap_id (by omega) (by omega)
  have e2 : wrap64 (7 - (i : Int)) = 7 - (i : Int) := wrap_id (by omega) (by omega)
  have e3 : wrap64 ((i : Int) + 1) = (i : Int) + 1 := wrap_id (by omega) (by omega)
  rw [e1, e2, e3]
  clear e1 e2 e3
  rw [if_pos (by omega), if_pos (by omega), if_pos (by omega)]
  have e4 : (7 - (i : Int)).toNat = 7 - i := by omega
  have e5 : shr .u64 v (8 * (i : Int)) = v / 256 ^ i := by
    unfold shr
    have : min (8 * (i : Int)).toNat (IntKind.bits .u64) = 8 * i := by
      show min (8 * (i : Int)).toNat 64 = 8 * i
      omega
    rw [this, Int.pow_mul]; rfl
  rw [e4, e5]; rfl

theorem key_eq (k : Nat) (v : Int) (hk : 9 ≤ k) : num_Key.f k v = some (key8 v) := by
  obtain ⟨k, rfl⟩ : ∃ m, k = m + 9 := ⟨k - 9, by omega⟩
  unfold num_Key.f
  rw [if_pos (by omega), Option.bind_some]
  show num_Key.l0 (k + 9) v [0, 0, 0, 0, 0, 0, 0, 0] 8 ((0 : Nat) : Int) = _
  rw [key_step _ _ _ rfl 0 (by omega), key_step _ _ _ rfl 1 (by omega), key_step _ _ _ rfl 2 (by omega), key_step _ _ _ rfl 3 (by omega), key_step _ _ _ rfl 4 (by omega), key_step _ _ _ rfl 5 (by omega), key_step _ _ _ rfl 6 (by omega), key_step _ _ _ rfl 7 (by omega), num_Key.l0, if_neg (by omega)]
  simp [key8]

def key4 (v : Int) : List Int := [v / 16777216 % 256, v / 65536 % 256, v / 256 % 256, v % 256]
theorem key4_isB (v : Int) : IsB (key4 v) := by
  intro x hx
  simp only [key4, List.mem_cons, List.not_mem_nil, or_false] at hx
  omega
theorem put32_eq (k : Nat) (v : Int) (h0 : 0 ≤ v) (h1 : v < 4294967296) (hk : 9 ≤ k) : num_Put32.f k v = some (key4 v) := by
  unfold num_Put32.f
  have e : IntKind.u64.wrap v = v := by rw [IntKind.wrap_u64]; omega
  rw [e, key_eq k _ hk, Option.bind_some, if_pos (by rw [key8_len]; omega)]
  rfl

theorem get32_eq (l : List Int) (hb : IsB l) : num_Get32.f l = some (vbig (pad4 l)) := by
  unfold num_Get32.f
  rw [if_pos (isB_take hb 4)]

theorem pad4_four {l : List Int} (hl : l.length = 4) : pad4 l = l := by
  unfold pad4; rw [List.take_append_of_le_length (by omega), List.take_of_length_le (by omega)]

end Go.Proofs.YtcgpbcpgopmfcaaGreatDoor.NumFacts
