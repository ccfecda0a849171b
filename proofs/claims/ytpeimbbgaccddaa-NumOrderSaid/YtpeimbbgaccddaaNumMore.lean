/- More of what the printed functions of num and its reference come to: written numbers, the reference's reading, numbers with a sign, numbers in order. -/
import Derived.Test.YtpeimbbgaccddaaNumFacts
import Derived.Lib.Zigzag
import Derived.Test.YtpeimbbgaccddaaPAllx3
import Derived.Test.YtpeimbbgaccddaaPAllx2
import Derived.Test.YtpeimbbgaccddaaPAllx5
import Derived.Test.YtpeimbbgaccddaaPAllx1
namespace Go.Proofs.Ytpeimbbgaccddaa.NumFacts
set_option linter.unusedVariables false
open Go.RowKit Go.Proofs.Ytpeimbbgaccddaa.PAll Go.Proofs.YtpeimbbgaccddaaW.PrintWords Go.Proofs.YtpeimbbgaccddaaW.PrintLast Go.Proofs.YtpeimbbgaccddaaW.PrintMore Go.Proofs.Ytpeimbbgaccddaa.Math

theorem put_l0 (n : Nat) : ∀ (k : Nat) (v : Int) (acc : List Int), 0 ≤ v → v < 128 ^ (n + 1) → n + 1 < k → acc.length + n + 1 < 140737488355328 →
    num_Put.l0 k v acc = some (acc ++ vput v) := by
  induction n with
  | zero =>
    intro k v acc h0 h1 hk ha
    obtain ⟨k, rfl⟩ : ∃ m, k = m + 1 := ⟨k - 1, by omega⟩
    simp only [num_Put.l0]
    have h1' : v < 128 := by simpa using h1
    rw [if_neg (by omega), if_pos (by omega), vput_lt h1', show v % 256 = v by omega]
  | succ n ih =>
    intro k v acc h0 h1 hk ha
    obtain ⟨k, rfl⟩ : ∃ m, k = m + 1 := ⟨k - 1, by omega⟩
    simp only [num_Put.l0]
    by_cases h : 128 ≤ v
    · have h' : v < 128 * (128 : Int) ^ (n + 1) := by rw [Int.pow_succ] at h1; omega
      rw [if_pos (by omega), if_pos (by omega), or128 (by omega) (by omega), ih k (v / 128) _ (by omega) (by omega) (by omega) (by simp; omega), vput_ge h,
        show v % 256 % 128 = v % 128 by omega]
      simp
    · rw [if_neg (by omega), if_pos (by omega), vput_lt (by omega), show v % 256 = v by omega]

theorem put_eq (k : Nat) (v : Int) (h0 : 0 ≤ v) (h1 : v < 18446744073709551616) (hk : 11 ≤ k) : num_Put.f k v = some (vput v) := by
  unfold num_Put.f
  rw [put_l0 9 k v [] h0 (by omega) (by omega) (by simp)]; simp

theorem rput_l0 (n : Nat) : ∀ (k : Nat) (v : Int) (acc : List Int), 0 ≤ v → v < 128 ^ (n + 1) → v < 18446744073709551616 → n + 1 < k → acc.length + n + 1 < 140737488355328 →
    cambiumref01_Put.l0 k v acc = some (acc ++ vput v) := by
  induction n with
  | zero =>
    intro k v acc h0 h1 _ hk ha
    obtain ⟨k, rfl⟩ : ∃ m, k = m + 1 := ⟨k - 1, by omega⟩
    simp only [cambiumref01_Put.l0]
    have h1' : v < 128 := by simpa using h1
    rw [if_neg (by omega), if_pos (by omega), vput_lt h1', show v % 256 = v by omega]
  | succ n ih =>
    intro k v acc h0 h1 hv hk ha
    obtain ⟨k, rfl⟩ : ∃ m, k = m + 1 := ⟨k - 1, by omega⟩
    simp only [cambiumref01_Put.l0]
    by_cases h : 128 ≤ v
    · have h' : v < 128 * (128 : Int) ^ (n + 1) := by rw [Int.pow_succ] at h1; omega
      have e1 : IntKind.u64.wrap (Int.tdiv v 128) = v / 128 := by
        rw [IntKind.wrap_u64, Int.tdiv_eq_ediv_of_nonneg h0]; omega
      have e2 : IntKind.u64.wrap ((Int.tmod v 128) + 128) % 256 = v % 128 + 128 := by
        rw [IntKind.wrap_u64, Int.tmod_eq_emod_of_nonneg h0]; omega
      rw [if_pos (by omega), if_pos (by omega), e1, e2, ih k (v / 128) _ (by omega) (by omega) (by omega) (by omega) (by simp; omega), vput_ge h]
      simp
    · rw [if_neg (by omega), if_pos (by omega), vput_lt (by omega), show v % 256 = v by omega]

theorem rput_eq (k : Nat) (v : Int) (h0 : 0 ≤ v) (h1 : v < 18446744073709551616) (hk : 11 ≤ k) : cambiumref01_Put.f k v = some (vput v) := by
  unfold cambiumref01_Put.f
  rw [rput_l0 9 k v [] h0 (by omega) h1 (by omega) (by simp)]; simp

/-- In bytes as they must be just the last is without the high bit. -/
theorem canon_rd : ∀ {q : List Int}, Canon q → (∀ j : Nat, j + 1 < q.length → 128 ≤ rd q (j : Int)) ∧ rd q ((q.length - 1 : Nat) : Int) < 128
  | [], h => by cases h
  | [c], h => by
    refine ⟨fun j hj => by simp at hj, ?_⟩
    simp [rd]; exact h.2
  | c :: d :: r, h => by
    obtain ⟨h1, h2⟩ := canon_rd h.2.1
    refine ⟨fun j hj => ?_, ?_⟩
    · cases j with
      | zero => simp [rd]; exact h.1.1
      | succ j =>
        have := h1 j (by simp at hj ⊢; omega)
        simpa [rd] using this
    · simpa [rd] using h2

/-- The first byte without the high bit is where the number ends. -/
theorem canon_len {q r : List Int} (hq : Canon q) {i : Nat} (hi : ∀ j : Nat, j < i → 128 ≤ rd (q ++ r) (j : Int)) (hl : rd (q ++ r) (i : Int) < 128) : q.length = i + 1 := by
  obtain ⟨h1, h2⟩ := canon_rd hq
  have hp : 1 ≤ q.length := by
    cases q with
    | nil => cases hq
    | cons _ _ => simp
  rcases Nat.lt_trichotomy (q.length - 1) i with h | h | h
  · have := hi (q.length - 1) h
    rw [rd_append (by omega)] at this
    omega
  · omega
  · have := h1 i (by omega)
    rw [rd_append (by omega)] at hl
    omega

theorem canon_vput_len {v : Int} (h : 0 ≤ v) {r : List Int} {i : Nat} (hi : ∀ j : Nat, j < i → 128 ≤ rd (vput v ++ r) (j : Int)) (hl : rd (vput v ++ r) (i : Int) < 128) : (vput v).length = i + 1 :=
  canon_len (vput_canon v h) hi hl

/-- No byte among the first ten is without the high bit: nothing is read. -/
theorem vget_high {l : List Int} (hb : IsB l) (n : Nat) (hn : n = min l.length 10) (hi : ∀ j : Nat, j < n → 128 ≤ rd l (j : Int)) : vget l = (0, 0) := by
  rcases vget_cases hb with h | ⟨v, r, h0, h1, e, h⟩
  · exact h
  · exfalso
    obtain ⟨_, h2⟩ := canon_rd (vput_canon v h0)
    have h10 := vput_len10 h1
    have hp := vput_len_pos v
    have hl : (vput v).length ≤ l.length := by rw [e]; simp
    have := hi ((vput v).length - 1) (by omega)
    rw [e, rd_append (by omega)] at this
    omega

theorem rget_l1 (l : List Int) (hb : IsB l) (n : Nat) (hn : n < l.length) (hn9 : n ≤ 9) (d : Nat) : ∀ (k : Nat) (v : Int), d ≤ n + 1 → d + 12 < k →
    v = vval ((l.take (n + 1)).drop d) % 18446744073709551616 →
    cambiumref01_Get.l1 k l (n : Int) v ((d : Int) - 1) =
      some (if vput (vval (l.take (n + 1)) % 18446744073709551616) = l.take (n + 1) then (vval (l.take (n + 1)) % 18446744073709551616, (n : Int) + 1) else (0, 0)) := by
  induction d with
  | zero =>
    intro k v hd hk hv
    obtain ⟨k, rfl⟩ : ∃ m, k = m + 1 := ⟨k - 1, by omega⟩
    rw [cambiumref01_Get.l1]
    rw [if_neg (by omega)]
    rw [List.drop_zero] at hv
    have hv0 : 0 ≤ v := by omega
    have hv1 : v < 18446744073709551616 := by omega
    rw [← hv]
    rw [wrap_id (x := (n : Int) + 1) (by omega) (by omega), rput_eq k v hv0 hv1 (by omega)]
    have e : ((n : Int) + 1).toNat = n + 1 := by omega
    rw [Option.bind_some, if_pos (by omega), if_pos (by omega), e, same_eq k _ _ (by have := vput_len10 hv1; omega) (by have := vput_len10 hv1; omega), Option.bind_some]
    by_cases h : vput v = l.take (n + 1)
    · rw [if_pos (by simpa using h), if_pos h]
    · rw [if_neg (by simpa using h), if_neg h]
  | succ d ih =>
    intro k v hd hk hv
    obtain ⟨k, rfl⟩ : ∃ m, k = m + 1 := ⟨k - 1, by omega⟩
    rw [cambiumref01_Get.l1]
    have e0 : ((d + 1 : Nat) : Int) - 1 = (d : Int) := by omega
    rw [e0]
    clear e0
    have hdl : d < (l.take (n + 1)).length := by rw [List.length_take]; omega
    have e1 := rd_drop hdl
    have e2 : rd (l.take (n + 1)) (d : Int) = rd l (d : Int) := by
      simp [rd, List.getD_eq_getElem?_getD, show d < n + 1 by omega]
    have hr := rd_isB hb d
    rw [if_pos (by omega), if_pos (by omega), if_pos (by omega), wrap_id (x := (d : Int) - 1) (by omega) (by omega)]
    refine ih k _ (by omega) (by omega) ?_
    rw [e1, e2, vval]
    rw [IntKind.wrap_u64, IntKind.wrap_u64, IntKind.wrap_u64, Int.tmod_eq_emod_of_nonneg hr.1]
    omega

theorem rget_end (l : List Int) (hb : IsB l) (n : Nat) (hn : n < l.length) (hn9 : n ≤ 9) (hi : ∀ j : Nat, j < n → 128 ≤ rd l (j : Int)) (hl : rd l (n : Int) < 128) :
    (if vput (vval (l.take (n + 1)) % 18446744073709551616) = l.take (n + 1) then (vval (l.take (n + 1)) % 18446744073709551616, (n : Int) + 1) else (0, 0)) = vget l := by
  have e0 : l = l.take (n + 1) ++ l.drop (n + 1) := (List.take_append_drop _ _).symm
  split
  · rename_i h
    have := vget_put (l.drop (n + 1)) (v := vval (l.take (n + 1)) % 18446744073709551616) (by omega) (by omega)
    rw [h, List.take_append_drop] at this
    rw [this, List.length_take]
    simp; omega
  · rename_i h
    rcases vget_cases hb with hz | ⟨v, r, h0, h1, e, hv⟩
    · exact hz.symm
    · exfalso
      have hlen := canon_vput_len h0 (r := r) (i := n) (by rw [← e]; exact hi) (by rw [← e]; exact hl)
      have et : l.take (n + 1) = vput v := by rw [e, ← hlen, List.take_left']; rfl
      rw [et, vval_vput v h0] at h
      rw [show v % 18446744073709551616 = v by omega] at h
      exact h rfl

theorem rget_l0 (l : List Int) (hb : IsB l) (d : Nat) : ∀ (k i : Nat), i ≤ min l.length 10 → min l.length 10 - i = d → d + 30 < k → (∀ j : Nat, j < i → 128 ≤ rd l (j : Int)) →
    cambiumref01_Get.l0 k l (i : Int) = some (vget l) := by
  induction d with
  | zero =>
    intro k i h1 hd hk hi
    obtain ⟨k, rfl⟩ : ∃ m, k = m + 1 + 1 + 1 := ⟨k - 3, by omega⟩
    rw [vget_high hb i (by omega) hi]
    rw [cambiumref01_Get.l0]
    by_cases h : (i : Int) < (l.length : Int)
    · rw [if_pos h, if_neg (by omega)]
      rw [cambiumref01_Get.j1]
      rw [if_neg (by omega)]
      rw [cambiumref01_Get.j2]
      rw [if_pos (by simp; omega)]
    · rw [if_neg h]
      rw [cambiumref01_Get.j1]
      rw [if_pos (by omega)]
      rw [cambiumref01_Get.j2]
      rw [if_pos rfl]
  | succ d ih =>
    intro k i h1 hd hk hi
    obtain ⟨k, rfl⟩ : ∃ m, k = m + 1 + 1 + 1 := ⟨k - 3, by omega⟩
    rw [cambiumref01_Get.l0]
    rw [if_pos (by omega), if_pos (by omega), if_pos (by omega)]
    by_cases h : 128 ≤ rd l (i : Int)
    · rw [if_pos (by omega), wrap_id (x := (i : Int) + 1) (by omega) (by omega)]
      refine ih (k + 1 + 1) (i + 1) (by omega) (by omega) (by omega) ?_
      intro j hj
      by_cases e : j = i
      · rw [e]; exact h
      · exact hi j (by omega)
    · rw [if_neg (by omega)]
      rw [cambiumref01_Get.j1]
      rw [if_neg (by omega)]
      rw [cambiumref01_Get.j2]
      rw [if_neg (by simp; omega)]
      have h9 : i ≤ 9 := by omega
      have hlt : i < l.length := by omega
      have := rget_l1 l hb i hlt h9 (i + 1) k 0 (by omega) (by omega) (by rw [List.drop_of_length_le (by rw [List.length_take]; omega)]; rfl)
      rw [show ((i + 1 : Nat) : Int) - 1 = (i : Int) by omega] at this
      rw [this, rget_end l hb i hlt h9 hi (by omega)]

/-- The reference's Get: the same. -/
theorem rget_eq (k : Nat) (l : List Int) (hb : IsB l) (hk : 45 < k) : cambiumref01_Get.f k l = some (vget l) := by
  unfold cambiumref01_Get.f
  exact rget_l0 l hb (min l.length 10) k 0 (by omega) (by omega) (by omega) (by intro j hj; omega)

/-- A number with a sign as one without; and back. -/
def zig (v : Int) : Int := if 0 ≤ v then 2 * v else -2 * v - 1
def zag (v : Int) : Int := if v % 2 = 1 then -(v / 2) - 1 else v / 2
theorem zag_zig (v : Int) : zag (zig v) = v := by unfold zag zig; split <;> split <;> omega
theorem zig_bounds {v : Int} (h0 : -9223372036854775808 ≤ v) (h1 : v < 9223372036854775808) : 0 ≤ zig v ∧ zig v < 18446744073709551616 := by unfold zig; split <;> omega
theorem zag_bounds {v : Int} (h0 : 0 ≤ v) (h1 : v < 18446744073709551616) : -9223372036854775808 ≤ zag v ∧ zag v < 9223372036854775808 := by unfold zag; split <;> omega

theorem xor_i64 (a b : Int) : Go.bits .xor .i64 a b = IntKind.i64.wrap ((BitVec.ofInt 64 a ^^^ BitVec.ofInt 64 b).toNat : Int) := rfl
theorem xor_i64_comm (a b : Int) : Go.bits .xor .i64 a b = Go.bits .xor .i64 b a := by rw [xor_i64, xor_i64, BitVec.xor_comm]
theorem xor_i64_zero {x : Int} (h0 : 0 ≤ x) (h1 : x < 9223372036854775808) : Go.bits .xor .i64 x 0 = x := by
  obtain ⟨n, rfl⟩ := Int.eq_ofNat_of_zero_le h0
  rw [xor_i64]
  have h2 : (BitVec.ofInt 64 (n : Int)).toNat = n := by
    rw [BitVec.ofInt_natCast, BitVec.toNat_ofNat]; exact Nat.mod_eq_of_lt (by omega)
  have h3 : BitVec.ofInt 64 (0 : Int) = 0#64 := by decide
  rw [h3, BitVec.xor_zero, h2, IntKind.wrap_i64]; omega
theorem xor_i64_ones {x : Int} (h0 : 0 ≤ x) (h1 : x < 9223372036854775808) : Go.bits .xor .i64 x (-1) = -x - 1 := by
  obtain ⟨n, rfl⟩ := Int.eq_ofNat_of_zero_le h0
  rw [xor_i64_comm, Lib.i64_not n (by omega)]

theorem unsign {v : Int} (h0 : 0 ≤ v) (h1 : v < 18446744073709551616) :
    Go.bits .xor .i64 (wrap64 (v / 2)) (wrap64 (-(wrap64 (Go.bits .and .u64 v 1)))) = zag v := by
  rw [Lib.u64_and1 v h0 h1, wrap_id (x := v / 2) (by omega) (by omega), wrap_id (x := v % 2) (by omega) (by omega), wrap_id (x := -(v % 2)) (by omega) (by omega)]
  unfold zag
  by_cases h : v % 2 = 1
  · rw [if_pos h, h, xor_i64_ones (by omega) (by omega)]
  · rw [if_neg h, show v % 2 = 0 by omega]
    exact xor_i64_zero (by omega) (by omega)

theorem getint_eq (k : Nat) (l : List Int) (hb : IsB l) (hk : 20 < k) : num_GetInt.f k l = some (zag (vget l).1, (vget l).2) := by
  unfold num_GetInt.f
  have b := vget_bounds hb
  rw [get_eq k l hb hk, Option.bind_some, unsign b.1 b.2.1]

theorem rgetint_eq (k : Nat) (l : List Int) (hb : IsB l) (hk : 45 < k) : cambiumref01_GetInt.f k l = some (zag (vget l).1, (vget l).2) := by
  unfold cambiumref01_GetInt.f
  obtain ⟨b0, b1, -, -, -⟩ := vget_bounds hb
  rw [rget_eq k l hb hk, Option.bind_some]
  generalize (vget l).1 = v at b0 b1 ⊢
  rw [Int.tmod_eq_emod_of_nonneg b0, Int.tdiv_eq_ediv_of_nonneg b0, IntKind.wrap_u64, show v / 2 % 18446744073709551616 = v / 2 by omega, wrap_id (x := v / 2) (by omega) (by omega), wrap_id (x := -(v / 2)) (by omega) (by omega), wrap_id (x := -(v / 2) - 1) (by omega) (by omega)]
  unfold zag
  by_cases h : v % 2 = 1
  · rw [if_pos h, if_pos h]
  · rw [if_neg h, if_neg h]

theorem sign {v : Int} (h0 : -9223372036854775808 ≤ v) (h1 : v < 9223372036854775808) :
    Go.bits .xor .u64 (IntKind.u64.wrap ((IntKind.u64.wrap v) * 2)) (IntKind.u64.wrap (v / 9223372036854775808)) = zig v := by
  rw [IntKind.wrap_u64, IntKind.wrap_u64, IntKind.wrap_u64]
  unfold zig
  by_cases h : 0 ≤ v
  · rw [if_pos h, u64_xor _ _ (by omega) (by omega) (by omega) (by omega)]
    have e : (v / 9223372036854775808 % 18446744073709551616).toNat = 0 := by omega
    rw [e, Nat.xor_zero]; omega
  · rw [if_neg h, u64_xor _ _ (by omega) (by omega) (by omega) (by omega), Nat.xor_comm]
    have e : (v / 9223372036854775808 % 18446744073709551616).toNat = 2 ^ 64 - 1 := by
      rw [show v / 9223372036854775808 = -1 by omega]; rfl
    rw [e, Lib.xor_ones64 _ (by omega)]; omega

theorem putint_eq (k : Nat) (v : Int) (h0 : -9223372036854775808 ≤ v) (h1 : v < 9223372036854775808) (hk : 11 ≤ k) : num_PutInt.f k v = some (vput (zig v)) := by
  unfold num_PutInt.f
  have b := zig_bounds h0 h1
  rw [sign h0 h1, put_eq k _ b.1 b.2 hk]; rfl

theorem rputint_eq (k : Nat) (v : Int) (h0 : -9223372036854775808 ≤ v) (h1 : v < 9223372036854775808) (hk : 11 ≤ k) : cambiumref01_PutInt.f k v = some (vput (zig v)) := by
  unfold cambiumref01_PutInt.f
  have b := zig_bounds h0 h1
  by_cases h : v ≥ 0
  · have e : IntKind.u64.wrap (2 * IntKind.u64.wrap v) = zig v := by
      rw [IntKind.wrap_u64, IntKind.wrap_u64]; unfold zig; rw [if_pos (by omega)]; omega
    rw [if_pos h, e, rput_eq k _ b.1 b.2 hk]; rfl
  · have e : IntKind.u64.wrap (IntKind.u64.wrap (2 * IntKind.u64.wrap (wrap64 (-(wrap64 (v + 1))))) + 1) = zig v := by
      rw [wrap_id (x := v + 1) (by omega) (by omega), wrap_id (x := -(v + 1)) (by omega) (by omega), IntKind.wrap_u64, IntKind.wrap_u64, IntKind.wrap_u64]; unfold zig; rw [if_neg (by omega)]; omega
    rw [if_neg h, e, rput_eq k _ b.1 b.2 hk]; rfl

set_option maxRecDepth 10000 in
theorem awake_eq (k : Nat) (hk : 40 ≤ k) : cambiumlaw01_awake.f k = some true := at_rounds cambiumlaw01_awake.mono hk (by kernel_rfl)

end Go.Proofs.Ytpeimbbgaccddaa.NumFacts
