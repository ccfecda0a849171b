/- Numbers of eight and of four bytes: what the printed functions Key, Put32, and the reference's, come to. -/
import Derived.Test.YtpeimbbgaccddaaNumFacts
import Derived.Test.YtpeimbbgaccddaaExt
import Derived.Test.YtpeimbbgaccddaaPAllx1
import Derived.Test.YtpeimbbgaccddaaPAllx3
import Derived.Test.YtpeimbbgaccddaaPAllx6
namespace Go.Proofs.Ytpeimbbgaccddaa.NumFacts
set_option linter.unusedVariables false
open Go.RowKit Go.Proofs.Ytpeimbbgaccddaa.PAll Go.Proofs.YtpeimbbgaccddaaW.PrintWords Go.Proofs.YtpeimbbgaccddaaW.PrintLast Go.Proofs.YtpeimbbgaccddaaW.PrintMore Go.Proofs.Ytpeimbbgaccddaa.Math

/-- A number's eight bytes, the greatest first. -/
def key8 (v : Int) : List Int := [v / 72057594037927936 % 256, v / 281474976710656 % 256, v / 1099511627776 % 256, v / 4294967296 % 256, v / 16777216 % 256, v / 65536 % 256, v / 256 % 256, v % 256]
theorem key8_len (v : Int) : (key8 v).length = 8 := rfl
theorem key8_isB (v : Int) : IsB (key8 v) := by
  intro x hx
  simp only [key8, List.mem_cons, List.not_mem_nil, or_false] at hx
  omega
theorem vbig_key8 {v : Int} (h0 : 0 ≤ v) (h1 : v < 18446744073709551616) : vbig (key8 v) = v := by
  simp only [vbig, key8, List.foldl_cons, List.foldl_nil]
  omega

theorem vbig_cons_inj : ∀ {a b : List Int}, a.length = b.length → IsB a → IsB b → vbig a = vbig b → a = b := by
  intro a
  induction a using snoc_ind with
  | h0 => intro b hl _ _ _; cases b with | nil => rfl | cons _ _ => simp at hl
  | h1 a x ih =>
    intro b hl ha hb h
    induction b using snoc_ind with
    | h0 => simp at hl
    | h1 b y _ =>
      rw [vbig_snoc, vbig_snoc] at h
      have hx := ha x (by simp)
      have hy := hb y (by simp)
      have := ih (b := b) (by simpa using hl) (fun z hz => ha z (List.mem_append_left _ hz)) (fun z hz => hb z (List.mem_append_left _ hz)) (by omega)
      rw [this, show x = y by omega]

/-- Eight bytes are those of what they come to. -/
theorem key8_vbig {l : List Int} (hl : l.length = 8) (hb : IsB l) : key8 (vbig l) = l := by
  have h0 := vbig_nonneg hb
  have h1 := vbig_lt hb
  rw [hl] at h1
  exact vbig_cons_inj (by rw [hl]; rfl) (key8_isB _) hb (vbig_key8 h0 (by omega))

theorem key_step (k : Nat) (v : Int) (l : List Int) (hl : l.length = 8) (i : Nat) (hi : i < 8) :
    num_Key.l0 (k + 1) v l 8 (i : Int) = num_Key.l0 k v (l.set (7 - i) (v / 256 ^ i % 256)) 8 ((i + 1 : Nat) : Int) := by
  rw [num_Key.l0, if_pos (by omega)]
  have e1 : wrap64 (8 * (i : Int)) = 8 * (i : Int) := wrap_id (by omega) (by omega)
  have e2 : wrap64 (7 - (i : Int)) = 7 - (i : Int) := wrap_id (by omega) (by omega)
  have e3 : wrap64 ((i : Int) + 1) = (i : Int) + 1 := wrap_id (by omega) (by omega)
  rw [e1, e2, e3]
  clear e1 e2 e3
  rw [if_pos (by omega), if_pos (by omega), if_pos (by omega)]
  have e4 : (7 - (i : Int)).toNat = 7 - i := by omega
  have e5 : shr .u64 v (8 * (i : Int)) = v / 256 ^ i := by
    unfold shr
    have : min (8 * (i : Int)).toNat (IntKind.bits .u64) = 8 * i := by
      show min (8 * (i : Int)).toNat 64 = 8 * i
      omega
    rw [this, Int.pow_mul]; rfl
  rw [e4, e5]; rfl

theorem key_eq (k : Nat) (v : Int) (hk : 9 ≤ k) : num_Key.f k v = some (key8 v) := by
  obtain ⟨k, rfl⟩ : ∃ m, k = m + 9 := ⟨k - 9, by omega⟩
  unfold num_Key.f
  rw [if_pos (by omega), Option.bind_some]
  show num_Key.l0 (k + 9) v [0, 0, 0, 0, 0, 0, 0, 0] 8 ((0 : Nat) : Int) = _
  rw [key_step _ _ _ rfl 0 (by omega), key_step _ _ _ rfl 1 (by omega), key_step _ _ _ rfl 2 (by omega), key_step _ _ _ rfl 3 (by omega), key_step _ _ _ rfl 4 (by omega), key_step _ _ _ rfl 5 (by omega), key_step _ _ _ rfl 6 (by omega), key_step _ _ _ rfl 7 (by omega), num_Key.l0, if_neg (by omega)]
  simp [key8]

theorem rkey_step (k : Nat) (v : Int) (acc : List Int) (i : Nat) (h0 : 0 ≤ v) (h1 : v < 18446744073709551616) (hi : i < 8) (ha : acc.length ≤ 8) :
    cambiumref01_Key.l0 (k + 1) v acc (i : Int) = cambiumref01_Key.l0 k (v / 256) ((v % 256) :: acc) ((i + 1 : Nat) : Int) := by
  have e1 : Int.tmod v 256 % 256 = v % 256 := by rw [Int.tmod_eq_emod_of_nonneg h0]; omega
  have e2 : IntKind.u64.wrap (Int.tdiv v 256) = v / 256 := by rw [IntKind.wrap_u64, Int.tdiv_eq_ediv_of_nonneg h0]; omega
  rw [cambiumref01_Key.l0, if_pos (by omega), Option.bind_some, if_pos (by simp; omega), e1, e2]
  clear e1 e2
  rw [wrap_id (x := (i : Int) + 1) (by omega) (by omega)]; rfl

theorem rkey_eq (k : Nat) (v : Int) (h0 : 0 ≤ v) (h1 : v < 18446744073709551616) (hk : 9 ≤ k) : cambiumref01_Key.f k v = some (key8 v) := by
  obtain ⟨k, rfl⟩ : ∃ m, k = m + 9 := ⟨k - 9, by omega⟩
  unfold cambiumref01_Key.f
  show cambiumref01_Key.l0 (k + 9) v [] ((0 : Nat) : Int) = _
  rw [rkey_step _ _ _ 0 (by omega) (by omega) (by omega) (by simp), rkey_step _ _ _ 1 (by omega) (by omega) (by omega) (by simp), rkey_step _ _ _ 2 (by omega) (by omega) (by omega) (by simp), rkey_step _ _ _ 3 (by omega) (by omega) (by omega) (by simp), rkey_step _ _ _ 4 (by omega) (by omega) (by omega) (by simp), rkey_step _ _ _ 5 (by omega) (by omega) (by omega) (by simp), rkey_step _ _ _ 6 (by omega) (by omega) (by omega) (by simp), rkey_step _ _ _ 7 (by omega) (by omega) (by omega) (by simp), cambiumref01_Key.l0, if_neg (by omega)]
  unfold key8
  congr 1
  simp only [List.cons.injEq, and_true]
  omega

/-- A number with a sign in order: above by 2^63. -/
def lift (v : Int) : Int := v + 9223372036854775808
theorem lift_bounds {v : Int} (h0 : -9223372036854775808 ≤ v) (h1 : v < 9223372036854775808) : 0 ≤ lift v ∧ lift v < 18446744073709551616 := by unfold lift; omega

theorem xor_top {v : Int} (h0 : 0 ≤ v) (h1 : v < 18446744073709551616) : Go.bits .xor .u64 v 9223372036854775808 = (v + 9223372036854775808) % 18446744073709551616 := by
  rw [u64_xor v _ h0 h1 (by omega) (by omega)]
  have e : (9223372036854775808 : Int).toNat = 2 ^ 63 := rfl
  rw [e]
  by_cases h : v < 9223372036854775808
  · have : v.toNat ^^^ 2 ^ 63 = 2 ^ 63 + v.toNat := by
      rw [Nat.xor_comm, ← nat_join 63 (2 ^ 63) v.toNat (by decide) (by omega)]
      apply Nat.eq_of_testBit_eq
      intro i
      rw [Nat.testBit_xor, Nat.testBit_or, Nat.testBit_two_pow]
      by_cases hi : 63 = i
      · subst hi
        have : v.toNat.testBit 63 = false := Nat.testBit_lt_two_pow (by omega)
        simp [this]
      · simp [hi]
    rw [this]; omega
  · have hv : v.toNat = 2 ^ 63 + (v.toNat - 2 ^ 63) := by omega
    have h2 : v.toNat = 2 ^ 63 ||| (v.toNat - 2 ^ 63) := by rw [nat_join 63 (2 ^ 63) _ (by decide) (by omega)]; omega
    have : v.toNat ^^^ 2 ^ 63 = v.toNat - 2 ^ 63 := by
      conv => lhs; rw [h2]
      apply Nat.eq_of_testBit_eq
      intro i
      rw [Nat.testBit_xor, Nat.testBit_or, Nat.testBit_two_pow]
      by_cases hi : 63 = i
      · subst hi
        have : (v.toNat - 2 ^ 63).testBit 63 = false := Nat.testBit_lt_two_pow (by omega)
        simp [this]
      · simp [hi]
    rw [this]; omega

theorem keyint_eq (k : Nat) (v : Int) (h0 : -9223372036854775808 ≤ v) (h1 : v < 9223372036854775808) (hk : 9 ≤ k) : num_KeyInt.f k v = some (key8 (lift v)) := by
  unfold num_KeyInt.f
  have e : Go.bits .xor .u64 (IntKind.u64.wrap v) 9223372036854775808 = lift v := by
    rw [IntKind.wrap_u64, xor_top (by omega) (by omega)]; unfold lift; omega
  rw [e, key_eq k _ hk]; rfl

theorem rkeyint_eq (k : Nat) (v : Int) (h0 : -9223372036854775808 ≤ v) (h1 : v < 9223372036854775808) (hk : 9 ≤ k) : cambiumref01_KeyInt.f k v = some (key8 (lift v)) := by
  unfold cambiumref01_KeyInt.f
  have e : IntKind.u64.wrap ((IntKind.u64.wrap v) + 9223372036854775808) = lift v := by
    rw [IntKind.wrap_u64, IntKind.wrap_u64]; unfold lift; omega
  have b := lift_bounds h0 h1
  rw [e, rkey_eq k _ b.1 b.2 hk]; rfl

/-- A number's four bytes. -/
def key4 (v : Int) : List Int := [v / 16777216 % 256, v / 65536 % 256, v / 256 % 256, v % 256]
theorem key4_isB (v : Int) : IsB (key4 v) := by
  intro x hx
  simp only [key4, List.mem_cons, List.not_mem_nil, or_false] at hx
  omega
theorem vbig_key4 {v : Int} (h0 : 0 ≤ v) (h1 : v < 4294967296) : vbig (key4 v) = v := by
  simp only [vbig, key4, List.foldl_cons, List.foldl_nil]
  omega
theorem key4_vbig {l : List Int} (hl : l.length = 4) (hb : IsB l) : key4 (vbig l) = l := by
  have h0 := vbig_nonneg hb
  have h1 := vbig_lt hb
  rw [hl] at h1
  exact vbig_cons_inj (by rw [hl]; rfl) (key4_isB _) hb (vbig_key4 h0 (by omega))

theorem put32_eq (k : Nat) (v : Int) (h0 : 0 ≤ v) (h1 : v < 4294967296) (hk : 9 ≤ k) : num_Put32.f k v = some (key4 v) := by
  unfold num_Put32.f
  have e : IntKind.u64.wrap v = v := by rw [IntKind.wrap_u64]; omega
  rw [e, key_eq k _ hk, Option.bind_some, if_pos (by rw [key8_len]; omega)]
  rfl

theorem get32_eq (l : List Int) (hb : IsB l) : num_Get32.f l = some (vbig (pad4 l)) := by
  unfold num_Get32.f
  rw [if_pos (isB_take hb 4)]

theorem pad4_four {l : List Int} (hl : l.length = 4) : pad4 l = l := by
  unfold pad4; rw [List.take_append_of_le_length (by omega), List.take_of_length_le (by omega)]

theorem rget32_step (k : Nat) (l : List Int) (hb : IsB l) (v : Int) (i : Nat) (hv : 0 ≤ v) (hv1 : v * 256 + 255 < 4294967296) (hi : i < 4) (hl : l.length ≤ 140737488355328) :
    cambiumref01_Get32.l0 (k + 1) l v (i : Int) = cambiumref01_Get32.l0 k l (v * 256 + rd (pad4 l) (i : Int)) ((i + 1 : Nat) : Int) := by
  rw [cambiumref01_Get32.l0, if_pos (by omega), pad4_rd l hi]
  have hr := rd_isB hb i
  rw [wrap_id (x := (i : Int) + 1) (by omega) (by omega)]
  by_cases h : i < l.length
  · rw [if_pos (by omega), if_pos (by omega), if_pos h]
    have e : ((v * 256) % 4294967296 + rd l (i : Int) % 4294967296) % 4294967296 = v * 256 + rd l (i : Int) := by omega
    rw [e]; rfl
  · rw [if_neg (by omega), if_neg h]
    have e : (v * 256) % 4294967296 = v * 256 + 0 := by omega
    rw [e]; rfl

theorem rget32_eq (k : Nat) (l : List Int) (hb : IsB l) (hl : l.length ≤ 140737488355328) (hk : 5 ≤ k) : cambiumref01_Get32.f k l = some (vbig (pad4 l)) := by
  obtain ⟨k, rfl⟩ : ∃ m, k = m + 5 := ⟨k - 5, by omega⟩
  unfold cambiumref01_Get32.f
  have hv : ∀ i : Nat, i < 4 → 0 ≤ rd (pad4 l) (i : Int) ∧ rd (pad4 l) (i : Int) < 256 := by
    intro i hi
    rw [pad4_rd l hi]
    split
    · exact rd_isB hb i
    · omega
  have hbig : vbig (pad4 l) = (((0 * 256 + rd (pad4 l) (0 : Nat)) * 256 + rd (pad4 l) (1 : Nat)) * 256 + rd (pad4 l) (2 : Nat)) * 256 + rd (pad4 l) (3 : Nat) := by
    have hl : (pad4 l).length = 4 := by unfold pad4; simp
    match hp : pad4 l, hl with
    | [a, b, c, d], _ => simp [vbig, rd]
  have v0 := hv 0 (by omega)
  have v1 := hv 1 (by omega)
  have v2 := hv 2 (by omega)
  have v3 := hv 3 (by omega)
  show cambiumref01_Get32.l0 (k + 5) l 0 ((0 : Nat) : Int) = _
  rw [rget32_step _ _ hb _ 0 (by omega) (by omega) (by omega) hl, rget32_step _ _ hb _ 1 (by omega) (by omega) (by omega) hl, rget32_step _ _ hb _ 2 (by omega) (by omega) (by omega) hl, rget32_step _ _ hb _ 3 (by omega) (by omega) (by omega) hl, cambiumref01_Get32.l0, if_neg (by omega), hbig]

end Go.Proofs.Ytpeimbbgaccddaa.NumFacts
