/- NumSigns: a number and the one whose bits are all turned have bytes that differ in the least bit of the first alone, and both are got again. For every number of 64 bits with a sign. -/
import Derived.Test.YtpeimbbgaccddaaNumMore
import Derived.Test.YtpeimbbgaccddaaPAllx4
namespace Go.Proofs.Ytpeimbbgaccddaa.Pure
open Go.RowKit Go.Proofs.Ytpeimbbgaccddaa.PAll Go.Proofs.YtpeimbbgaccddaaW.PrintWords Go.Proofs.YtpeimbbgaccddaaW.PrintLast Go.Proofs.Ytpeimbbgaccddaa.Math Go.Proofs.Ytpeimbbgaccddaa.NumFacts

theorem xor_ones_i64 {v : Int} (h0 : -9223372036854775808 ≤ v) (h1 : v < 9223372036854775808) : Go.bits .xor .i64 (-1) v = -v - 1 := by
  by_cases h : 0 ≤ v
  · obtain ⟨n, rfl⟩ := Int.eq_ofNat_of_zero_le h
    exact Lib.i64_not n (by omega)
  · have e2 := xor_i64_ones (x := -v - 1) (by omega) (by omega)
    rw [xor_i64_comm] at e2
    rw [show -(-v - 1) - 1 = v by omega] at e2
    have key : ∀ a : Int, -9223372036854775808 ≤ a → a < 9223372036854775808 → Go.bits .xor .i64 (-1) (Go.bits .xor .i64 (-1) a) = a := by
      intro a ha hb
      rw [xor_i64, xor_i64]
      have e : BitVec.ofInt 64 (IntKind.i64.wrap ((BitVec.ofInt 64 (-1) ^^^ BitVec.ofInt 64 a).toNat : Int)) = BitVec.ofInt 64 (-1) ^^^ BitVec.ofInt 64 a := by
        rw [IntKind.wrap_i64]
        generalize BitVec.ofInt 64 (-1) ^^^ BitVec.ofInt 64 a = b
        apply BitVec.eq_of_toNat_eq
        rw [BitVec.toNat_ofInt]
        have := b.isLt
        omega
      rw [e, ← BitVec.xor_assoc, BitVec.xor_self, BitVec.zero_xor, BitVec.toNat_ofInt, IntKind.wrap_i64]
      omega
    have := key (-v - 1) (by omega) (by omega)
    rw [e2] at this
    exact this

/-- The least bit of the first byte turned. -/
theorem turned {z : Int} (h0 : 0 ≤ z) (he : z % 2 = 0) : ∃ c r, 0 ≤ c ∧ c < 255 ∧ c % 2 = 0 ∧ vput z = c :: r ∧ vput (z + 1) = (c + 1) :: r := by
  by_cases h : 128 ≤ z
  · refine ⟨z % 128 + 128, vput (z / 128), by omega, by omega, by omega, vput_ge h, ?_⟩
    rw [vput_ge (by omega), show (z + 1) % 128 + 128 = z % 128 + 128 + 1 by omega, show (z + 1) / 128 = z / 128 by omega]
  · refine ⟨z, [], by omega, by omega, he, vput_lt (by omega), vput_lt (by omega)⟩

theorem xor_one {c : Int} (h0 : 0 ≤ c) (h1 : c < 255) (he : c % 2 = 0) : Go.bits .xor .u8 c (c + 1) = 1 ∧ Go.bits .xor .u8 (c + 1) c = 1 := by
  obtain ⟨n, rfl⟩ := Int.eq_ofNat_of_zero_le h0
  have hn : n < 255 := by omega
  have hm : n % 2 = 0 := by omega
  have e : n ^^^ (n + 1) = 1 := by
    have : n + 1 = n ||| 1 := by rw [nat_join 1 n 1 (by omega) (by omega)]
    rw [this]
    apply Nat.eq_of_testBit_eq
    intro i
    rw [Nat.testBit_xor, Nat.testBit_or]
    cases i with
    | zero => simp [Nat.testBit_zero, hm]
    | succ i => simp [Nat.testBit_succ]
  constructor
  · rw [show ((n : Nat) : Int) + 1 = ((n + 1 : Nat) : Int) from rfl, u8_xor_nat n (n + 1) (by omega) (by omega), e]; rfl
  · rw [show ((n : Nat) : Int) + 1 = ((n + 1 : Nat) : Int) from rfl, u8_xor_nat (n + 1) n (by omega) (by omega), Nat.xor_comm, e]; rfl

theorem NumSigns : cambiumlaw01_NumSigns.Pure := by
  intro v hv
  have b1 : -9223372036854775808 ≤ v ∧ v < 9223372036854775808 := by
    simp [Lit.wf, IntKind.min, IntKind.max, IntKind.bits, IntKind.signed] at hv; omega
  refine ⟨50, ?_⟩
  unfold cambiumlaw01_NumSigns.f
  rw [awake_eq 50 (by omega), Option.bind_some, if_pos rfl, xor_ones_i64 b1.1 b1.2]
  have z := zig_bounds b1.1 b1.2
  have z' := zig_bounds (v := -v - 1) (by omega) (by omega)
  rw [putint_eq 50 v b1.1 b1.2 (by omega), Option.bind_some, putint_eq 50 (-v - 1) (by omega) (by omega) (by omega), Option.bind_some,
    getint_eq 50 _ (vput_isB _ z.1) (by omega), Option.bind_some, getint_eq 50 _ (vput_isB _ z'.1) (by omega), Option.bind_some,
    vget_put' z.1 z.2, vget_put' z'.1 z'.2, zag_zig, zag_zig]
  have n0 := vput_len_pos (zig v)
  have n1 := vput_len_pos (zig (-v - 1))
  have n10 := vput_len10 z.2
  simp only [if_true]
  have main : ∃ c d r, vput (zig v) = c :: r ∧ vput (zig (-v - 1)) = d :: r ∧ Go.bits .xor .u8 c d = 1 := by
    by_cases h : 0 ≤ v
    · obtain ⟨c, r, c0, c1, ce, e1, e2⟩ := turned z.1 (by unfold zig; rw [if_pos h]; omega)
      refine ⟨c, c + 1, r, e1, ?_, (xor_one c0 c1 ce).1⟩
      rw [← e2]; congr 1; unfold zig; rw [if_pos h, if_neg (by omega)]; omega
    · obtain ⟨c, r, c0, c1, ce, e1, e2⟩ := turned z'.1 (by unfold zig; rw [if_pos (by omega)]; omega)
      refine ⟨c + 1, c, r, ?_, e1, (xor_one c0 c1 ce).2⟩
      rw [← e2]; congr 1; unfold zig; rw [if_neg h, if_pos (by omega)]; omega
  obtain ⟨c, d, r, e1, e2, e3⟩ := main
  rw [e1, e2]
  rw [e1] at n10
  simp only [List.length_cons, List.drop_one, List.tail_cons, rd, Int.toNat_zero, List.getD_cons_zero] at n10 ⊢
  rw [if_pos trivial, if_pos (by omega), if_pos (by omega), if_pos e3, if_pos (by omega), if_pos (by omega), same_eq 50 r r (by omega) (by omega)]
  simp

end Go.Proofs.Ytpeimbbgaccddaa.Pure
