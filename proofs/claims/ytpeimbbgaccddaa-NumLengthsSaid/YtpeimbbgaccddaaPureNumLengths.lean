/- NumLengths: a short number has as many bytes as its bits by seven, one at least; one that is twice as great has at most one more. For every number of 64 bits. -/
import Derived.Test.YtpeimbbgaccddaaNumMore
import Derived.Test.YtpeimbbgaccddaaPAllx3
namespace Go.Proofs.Ytpeimbbgaccddaa.Pure
open Go.RowKit Go.Proofs.Ytpeimbbgaccddaa.PAll Go.Proofs.YtpeimbbgaccddaaW.PrintWords Go.Proofs.YtpeimbbgaccddaaW.PrintLast Go.Proofs.Ytpeimbbgaccddaa.Math Go.Proofs.Ytpeimbbgaccddaa.NumFacts

theorem canon_last : ∀ {q : List Int}, Canon q → 0 < vval q → rd q ((q.length - 1 : Nat) : Int) ≠ 0
  | [], h, _ => by cases h
  | [c], h, k => by
    simp [Canon] at h
    simp [vval] at k
    simp [rd]; omega
  | c :: d :: r, h, _ => by
    have : rd (c :: d :: r) (((c :: d :: r).length - 1 : Nat) : Int) = rd (d :: r) (((d :: r).length - 1 : Nat) : Int) := by simp [rd]
    rw [this]
    refine canon_last h.2.1 (canon_pos h.2.1 ?_)
    cases r with
    | nil => right; intro e; injection e with e _; exact h.2.2 rfl e
    | cons _ _ => left; simp

theorem vput_twice (n : Nat) : ∀ v : Int, v.toNat ≤ n → 0 ≤ v → (vput (2 * v)).length ≤ (vput v).length + 1 := by
  induction n with
  | zero =>
    intro v hn h0
    rw [show v = 0 by omega]
    rw [vput_lt (by omega), vput_lt (by omega)]; simp
  | succ n ih =>
    intro v hn h0
    by_cases h : 128 ≤ v
    · rw [vput_ge h, vput_ge (v := 2 * v) (by omega)]
      by_cases h2 : 2 * v / 128 = 2 * (v / 128)
      · rw [h2]
        have := ih (v / 128) (by omega) (by omega)
        simp only [List.length_cons]; omega
      · have h3 : 2 * v / 128 = 2 * (v / 128) + 1 := by omega
        have h4 : (vput (2 * v / 128)).length = (vput (2 * (v / 128))).length := by
          rw [h3]
          generalize v / 128 = u
          by_cases h5 : 128 ≤ 2 * u
          · rw [vput_ge h5, vput_ge (v := 2 * u + 1) (by omega), show (2 * u + 1) / 128 = 2 * u / 128 by omega]; simp
          · rw [vput_lt (v := 2 * u) (by omega), vput_lt (v := 2 * u + 1) (by omega)]; simp
        have := ih (v / 128) (by omega) (by omega)
        simp only [List.length_cons]; omega
    · rw [vput_lt (v := v) (by omega)]
      by_cases h2 : 128 ≤ 2 * v
      · rw [vput_ge h2, vput_lt (by omega)]; simp
      · rw [vput_lt (by omega)]; simp

theorem lengths_l0 (v : Int) (h0 : 0 ≤ v) (h1 : v < 18446744073709551616) (d : Nat) : ∀ (k n : Nat) (x : Int), 0 ≤ x → x < 18446744073709551616 → (vput x).length = d + 1 → n + d + 1 = (vput v).length + 1 → n ≥ 1 → d + 20 < k →
    cambiumlaw01_NumLengths.l0 k v (vput v) (n : Int) x = some true := by
  have n10 := vput_len10 h1
  induction d with
  | zero =>
    intro k n x hx0 hx1 hl hn hn1 hk
    obtain ⟨k, rfl⟩ : ∃ m, k = m + 1 + 1 := ⟨k - 2, by omega⟩
    rw [cambiumlaw01_NumLengths.l0]
    have hx : x < 128 := by
      rcases Int.lt_or_le x 128 with h | h
      · exact h
      · rw [vput_ge h] at hl
        have := vput_len_pos (x / 128)
        rw [List.length_cons] at hl; omega
    rw [if_neg (by omega), if_pos (by omega)]
    have hj : cambiumlaw01_NumLengths.j1 (k + 1) v (vput v) (n : Int) false = some true := by
      rw [cambiumlaw01_NumLengths.j1, if_neg (by simp)]
      split
      · rfl
      · rename_i hb
        have e : IntKind.u64.wrap (2 * v) = 2 * v := by rw [IntKind.wrap_u64]; omega
        have ht := vput_twice v.toNat v (Nat.le_refl _) h0
        rw [e, put_eq k (2 * v) (by omega) (by omega) (by omega), Option.bind_some]
        clear e
        rw [wrap_id (x := (n : Int) + 1) (by omega) (by omega), if_pos (by omega), put_eq k v h0 h1 (by omega), Option.bind_some, same_eq k _ _ (by omega) (by omega)]
        simp
    split
    · rename_i hp
      rw [wrap_id (x := (n : Int) - 1) (by omega) (by omega), if_pos (by omega), if_pos (by omega)]
      have hz := canon_last (vput_canon v h0) (by rw [vval_vput v h0]; omega)
      have e : (n : Int) - 1 = (((vput v).length - 1 : Nat) : Int) := by omega
      rw [e]
      rw [show (rd (vput v) (((vput v).length - 1 : Nat) : Int) == 0) = false from beq_eq_false_iff_ne.mpr hz]
      exact hj
    · exact hj
  | succ d ih =>
    intro k n x hx0 hx1 hl hn hn1 hk
    obtain ⟨k, rfl⟩ : ∃ m, k = m + 1 := ⟨k - 1, by omega⟩
    rw [cambiumlaw01_NumLengths.l0]
    have hx : 128 ≤ x := by
      rcases Int.lt_or_le x 128 with h | h
      · rw [vput_lt h] at hl; simp at hl
      · exact h
    have e : IntKind.u64.wrap (Int.tdiv x 128) = x / 128 := by rw [IntKind.wrap_u64, Int.tdiv_eq_ediv_of_nonneg hx0]; omega
    rw [if_pos (by omega), e]
    clear e
    rw [wrap_id (x := (n : Int) + 1) (by omega) (by omega)]
    refine ih k (n + 1) (x / 128) (by omega) (by omega) ?_ (by omega) (by omega) (by omega)
    rw [vput_ge hx] at hl
    simpa using hl

theorem NumLengths : cambiumlaw01_NumLengths.Pure := by
  intro v hv
  have b0 : 0 ≤ v ∧ v < 18446744073709551616 := by
    simp [Lit.wf, IntKind.min, IntKind.max, IntKind.bits, IntKind.signed] at hv; omega
  refine ⟨50, ?_⟩
  unfold cambiumlaw01_NumLengths.f
  rw [awake_eq 50 (by omega), Option.bind_some, if_pos rfl, put_eq 50 v b0.1 b0.2 (by omega), Option.bind_some]
  have n0 := vput_len_pos v
  have n1 := vput_len10 b0.2
  exact lengths_l0 v b0.1 b0.2 ((vput v).length - 1) 50 1 v b0.1 b0.2 (by omega) (by omega) (by omega) (by omega)

end Go.Proofs.Ytpeimbbgaccddaa.Pure
