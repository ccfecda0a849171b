/- NumOrder's plain facts. -/
import Derived.Test.YtpeimbbgaccddaaNumKey
import Derived.Test.YtpeimbbgaccddaaLess
import Derived.Test.YtpeimbbgaccddaaPAllx6
namespace Go.Proofs.Ytpeimbbgaccddaa.NumFacts
open Go.RowKit Go.Proofs.Ytpeimbbgaccddaa.PAll Go.Proofs.YtpeimbbgaccddaaW.PrintWords Go.Proofs.YtpeimbbgaccddaaW.PrintLast Go.Proofs.YtpeimbbgaccddaaW.PrintMore Go.Proofs.Ytpeimbbgaccddaa.Math
set_option linter.unusedVariables false

theorem vbig_cons (a : Int) (s : List Int) : vbig (a :: s) = a * 256 ^ s.length + vbig s := by
  have : ∀ (s : List Int) (v : Int), s.foldl (fun v b => v * 256 + b) v = v * 256 ^ s.length + vbig s := by
    intro s
    induction s using snoc_ind with
    | h0 => intro v; simp [vbig]
    | h1 s x ih =>
      intro v
      rw [List.foldl_append, List.foldl_cons, List.foldl_nil, ih, vbig_snoc, List.length_append, List.length_singleton, Int.pow_succ, Int.add_mul, Int.mul_assoc]
      omega
  have h := this s a
  simp only [vbig, List.foldl_cons] at h ⊢
  simpa using h
theorem lex_vbig : ∀ {a b : List Int}, a.length = b.length → IsB a → IsB b → lexLt a b = decide (vbig a < vbig b)
  | [], [], _, _, _ => by simp [lexLt]
  | [], _ :: _, h, _, _ => by simp at h
  | _ :: _, [], h, _, _ => by simp at h
  | x :: a, y :: b, h, ha, hb => by
    have hl : a.length = b.length := by simpa using h
    have ha' : IsB a := fun z hz => ha z (by simp [hz])
    have hb' : IsB b := fun z hz => hb z (by simp [hz])
    rw [vbig_cons, vbig_cons, ← hl]
    simp only [lexLt]
    have a0 := vbig_nonneg ha'
    have a1 := vbig_lt ha'
    have b0 := vbig_nonneg hb'
    have b1 := vbig_lt hb'
    rw [← hl] at b1
    by_cases e : x = y
    · subst e
      rw [if_pos rfl, lex_vbig hl ha' hb']
      congr 1
      simp
    · rw [if_neg e]
      generalize (256 : Int) ^ a.length = P at *
      have hP : 0 < P := by omega
      rcases Int.lt_or_lt_of_ne e with h1 | h1
      · have := Int.mul_le_mul_of_nonneg_right (show x + 1 ≤ y by omega) (Int.le_of_lt hP)
        rw [Int.add_mul, Int.one_mul] at this
        rw [decide_eq_true h1, decide_eq_true (by omega)]
      · have := Int.mul_le_mul_of_nonneg_right (show y + 1 ≤ x by omega) (Int.le_of_lt hP)
        rw [Int.add_mul, Int.one_mul] at this
        rw [decide_eq_false (by omega), decide_eq_false (by omega)]
theorem less_key (k : Nat) (a b : Int) (a0 : 0 ≤ a) (a1 : a < 18446744073709551616) (b0 : 0 ≤ b) (b1 : b < 18446744073709551616) (hk : 20 ≤ k) : cambiumref01_Less.f k (key8 a) (key8 b) = some (decide (a < b)) := by
  rw [less_eq k _ _ (by rw [key8_len]; omega) (by rw [key8_len]; omega), lex_vbig (by rw [key8_len, key8_len]) (key8_isB _) (key8_isB _), vbig_key8 a0 a1, vbig_key8 b0 b1]

theorem unkey_key (v : Int) (h0 : 0 ≤ v) (h1 : v < 18446744073709551616) : num_Unkey.f (key8 v) = some (v, true) := by
  unfold num_Unkey.f
  rw [if_pos (key8_len v), if_pos (key8_isB v), vbig_key8 h0 h1]
theorem unkeyint_of (l : List Int) (hb : IsB l) : num_UnkeyInt.f l = some (if l.length = 8 then (wrap64 ((vbig l + 9223372036854775808) % 18446744073709551616), true) else (0, false)) := by
  unfold num_UnkeyInt.f num_Unkey.f
  by_cases h : l.length = 8
  · have h1 := vbig_lt hb
    rw [h] at h1
    rw [if_pos h, if_pos hb, if_pos h, Option.bind_some, if_pos rfl, xor_top (vbig_nonneg hb) (by omega)]
  · rw [if_neg h, if_neg h]; simp
theorem unkeyint_key (v : Int) (h0 : -9223372036854775808 ≤ v) (h1 : v < 9223372036854775808) : num_UnkeyInt.f (key8 (lift v)) = some (v, true) := by
  have b := lift_bounds h0 h1
  rw [unkeyint_of _ (key8_isB _), if_pos (key8_len _), vbig_key8 b.1 b.2]
  unfold lift wrap64
  congr 2
  omega
theorem runkey_l0 (l : List Int) (hb : IsB l) (hl : l.length = 8) (d : Nat) : ∀ (k i : Nat), i ≤ 8 → 8 - i = d → d < k → cambiumref01_Unkey.l0 k l (vbig (l.take i)) (i : Int) = some (vbig l, true) := by
  induction d with
  | zero =>
    intro k i h1 hd hk
    obtain ⟨k, rfl⟩ : ∃ m, k = m + 1 := ⟨k - 1, by omega⟩
    rw [cambiumref01_Unkey.l0, if_neg (by omega), List.take_of_length_le (by omega)]
  | succ d ih =>
    intro k i h1 hd hk
    obtain ⟨k, rfl⟩ : ∃ m, k = m + 1 := ⟨k - 1, by omega⟩
    have ht := rd_take_succ (l := l) (k := i) (by omega)
    have hbt : IsB (l.take i) := fun z hz => hb z (List.mem_of_mem_take hz)
    have h0 := vbig_nonneg hbt
    have h2 := vbig_lt hbt
    have hlen : (l.take i).length = i := by rw [List.length_take]; omega
    rw [hlen] at h2
    have hr := rd_isB hb i
    have hp : (256 : Int) ^ i ≤ 256 ^ 7 := by
      have : (256 : Nat) ^ i ≤ 256 ^ 7 := Nat.pow_le_pow_right (by decide) (by omega)
      have h3 : ((256 ^ i : Nat) : Int) ≤ ((256 ^ 7 : Nat) : Int) := Int.ofNat_le.2 this
      rw [Int.natCast_pow, Int.natCast_pow] at h3
      exact h3
    have e7 : (256 : Int) ^ 7 = 72057594037927936 := by decide
    rw [e7] at hp
    rw [cambiumref01_Unkey.l0, if_pos (by omega), if_pos (by omega), if_pos (by omega), wrap_id (by omega) (by omega), IntKind.wrap_u64, IntKind.wrap_u64, IntKind.wrap_u64]
    have e : (vbig (l.take i) * 256 % 18446744073709551616 + rd l (i : Int) % 18446744073709551616) % 18446744073709551616 = vbig (l.take (i + 1)) := by
      rw [ht, vbig_snoc]
      omega
    rw [e]
    exact ih k (i + 1) (by omega) (by omega) (by omega)
theorem runkey_eq (k : Nat) (l : List Int) (hb : IsB l) (hk : 9 < k) : cambiumref01_Unkey.f k l = num_Unkey.f l := by
  unfold cambiumref01_Unkey.f num_Unkey.f
  by_cases h : l.length = 8
  · rw [if_pos (by omega), if_pos h, if_pos hb]
    exact runkey_l0 l hb h 8 k 0 (by omega) (by omega) (by omega)
  · rw [if_neg (by omega), if_neg h]

end Go.Proofs.Ytpeimbbgaccddaa.NumFacts
