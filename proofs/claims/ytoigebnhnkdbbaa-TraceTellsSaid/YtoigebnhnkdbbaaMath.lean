/- Plain facts on numbers as bytes: short numbers (seven bits a byte), numbers of eight bytes, comparing rows. No program in sight. -/
import Derived.Laws.BitsAllLaws
import Derived.RowKit
namespace Go.Proofs.Ytoigebnhnkdbbaa.Math
open Go.RowKit

theorem snoc_ind {α : Type} {P : List α → Prop} (h0 : P []) (h1 : ∀ l b, P l → P (l ++ [b])) (l : List α) : P l := by
  rw [← List.reverse_reverse l]
  induction l.reverse with
  | nil => exact h0
  | cons b r ih => rw [List.reverse_cons]; exact h1 _ _ ih

/-- All are bytes. -/
def IsB (l : List Int) : Prop := ∀ x ∈ l, 0 ≤ x ∧ x < 256

instance decIsB : DecidablePred IsB := fun l => by unfold IsB; infer_instance

theorem isB_nil : IsB [] := by intro x h; cases h
theorem isB_cons {x : Int} {l : List Int} (hx : 0 ≤ x ∧ x < 256) (h : IsB l) : IsB (x :: l) := by
  intro y hy
  rcases List.mem_cons.1 hy with rfl | hy
  · exact hx
  · exact h y hy
theorem isB_append {a b : List Int} (ha : IsB a) (hb : IsB b) : IsB (a ++ b) := by
  intro y hy
  rcases List.mem_append.1 hy with h | h
  · exact ha y h
  · exact hb y h
theorem isB_take {l : List Int} (h : IsB l) (n : Nat) : IsB (l.take n) := fun x hx => h x (List.mem_of_mem_take hx)
theorem isB_drop {l : List Int} (h : IsB l) (n : Nat) : IsB (l.drop n) := fun x hx => h x (List.mem_of_mem_drop hx)
theorem isB_head {x : Int} {l : List Int} (h : IsB (x :: l)) : 0 ≤ x ∧ x < 256 := h x (List.mem_cons_self)
theorem isB_tail {x : Int} {l : List Int} (h : IsB (x :: l)) : IsB l := fun y hy => h y (List.mem_cons_of_mem _ hy)
theorem isB_of_wf {l : List Int} (h : ∀ x ∈ l, (Lit.int .u8 x).wf = true) : IsB l := by
  intro x hx
  have := h x hx
  simp [Lit.wf, IntKind.min, IntKind.max, IntKind.bits, IntKind.signed] at this
  omega

theorem pow_le {a b : Nat} (h : a ≤ b) : (128 : Int) ^ a ≤ 128 ^ b := by
  have := Nat.pow_le_pow_right (n := 128) (by decide) h
  exact_mod_cast this

/-- A short number's bytes. -/
def vput (v : Int) : List Int := if 128 ≤ v then (v % 128 + 128) :: vput (v / 128) else [v]
termination_by v.toNat
decreasing_by omega

theorem vput_lt {v : Int} (h : v < 128) : vput v = [v] := by rw [vput, if_neg (by omega)]
theorem vput_ge {v : Int} (h : 128 ≤ v) : vput v = (v % 128 + 128) :: vput (v / 128) := by rw [vput, if_pos h]

/-- What short bytes come to. -/
def vval : List Int → Int
  | [] => 0
  | c :: r => c % 128 + 128 * vval r

/-- Short bytes as they must be: all but the last with the high bit, the last without it, and not 0 unless it is alone. -/
def Canon : List Int → Prop
  | [] => False
  | [c] => 0 ≤ c ∧ c < 128
  | c :: d :: r => (128 ≤ c ∧ c < 256) ∧ Canon (d :: r) ∧ (r = [] → d ≠ 0)

theorem vput_ne (v : Int) : vput v ≠ [] := by
  rw [vput]; split <;> simp

theorem vval_vput (v : Int) (h : 0 ≤ v) : vval (vput v) = v := by
  induction hn : v.toNat using Nat.strongRecOn generalizing v with
  | _ n ih =>
    by_cases h1 : 128 ≤ v
    · rw [vput_ge h1, vval, ih (v / 128).toNat (by omega) _ (by omega) rfl]; omega
    · rw [vput_lt (by omega)]; simp [vval]; omega

theorem vput_isB (v : Int) (h : 0 ≤ v) : IsB (vput v) := by
  induction hn : v.toNat using Nat.strongRecOn generalizing v with
  | _ n ih =>
    by_cases h1 : 128 ≤ v
    · rw [vput_ge h1]
      exact isB_cons (by omega) (ih (v / 128).toNat (by omega) _ (by omega) rfl)
    · rw [vput_lt (by omega)]
      exact isB_cons (by omega) isB_nil

/-- Its last byte is 0 only for 0. -/
theorem vput_canon (v : Int) (h : 0 ≤ v) : Canon (vput v) := by
  induction hn : v.toNat using Nat.strongRecOn generalizing v with
  | _ n ih =>
    by_cases h1 : 128 ≤ v
    · have hc := ih (v / 128).toNat (by omega) _ (by omega) rfl
      rw [vput_ge h1]
      cases hv : vput (v / 128) with
      | nil => exact absurd hv (vput_ne _)
      | cons d r =>
        rw [hv] at hc
        refine ⟨by omega, hc, ?_⟩
        rintro rfl rfl
        have := vval_vput (v / 128) (by omega)
        rw [hv] at this
        simp [vval] at this
        omega
    · rw [vput_lt (by omega)]
      exact ⟨h, by omega⟩

theorem canon_nonneg : ∀ {l : List Int}, Canon l → 0 ≤ vval l
  | [], h => by cases h
  | [c], h => by simp [vval]; omega
  | c :: d :: r, h => by
    have := canon_nonneg h.2.1
    rw [vval]; omega

theorem canon_pos : ∀ {l : List Int}, Canon l → (1 < l.length ∨ l ≠ [0]) → 0 < vval l
  | [], h, _ => by cases h
  | [c], h, k => by
    simp [Canon] at h
    simp at k
    simp [vval]; omega
  | c :: d :: r, h, _ => by
    have h2 := h.2.1
    have : 0 < vval (d :: r) := by
      refine canon_pos h2 ?_
      cases r with
      | nil => right; intro e; injection e with e _; exact h.2.2 rfl e
      | cons _ _ => left; simp
    rw [vval]; omega

theorem vput_vval : ∀ {l : List Int}, Canon l → vput (vval l) = l
  | [], h => by cases h
  | [c], h => by
    simp [Canon] at h
    have : vval [c] = c := by simp [vval]; omega
    rw [this, vput_lt (by omega)]
  | c :: d :: r, h => by
    have h2 := h.2.1
    have hp : 0 < vval (d :: r) := by
      refine canon_pos h2 ?_
      cases r with
      | nil => right; intro e; injection e with e _; exact h.2.2 rfl e
      | cons _ _ => left; simp
    have h1 := h.1
    have e : vval (c :: d :: r) = c % 128 + 128 * vval (d :: r) := rfl
    rw [vput_ge (by rw [e]; omega)]
    have e1 : vval (c :: d :: r) % 128 + 128 = c := by rw [e]; omega
    have e2 : vval (c :: d :: r) / 128 = vval (d :: r) := by rw [e]; omega
    rw [e1, e2, vput_vval h2]

theorem vput_len (n : Nat) : ∀ v : Int, v < 128 ^ (n + 1) → (vput v).length ≤ n + 1 := by
  induction n with
  | zero => intro v h; rw [vput_lt (by omega)]; simp
  | succ n ih =>
    intro v h
    by_cases h1 : 128 ≤ v
    · rw [vput_ge h1]
      have h' : v < 128 * (128 : Int) ^ (n + 1) := by rw [Int.pow_succ] at h; omega
      have := ih (v / 128) (by omega)
      simp only [List.length_cons]; omega
    · rw [vput_lt (by omega)]; simp

theorem vput_len10 {v : Int} (h : v < 18446744073709551616) : (vput v).length ≤ 10 := vput_len 9 v (by omega)

theorem vput_len_pos (v : Int) : 1 ≤ (vput v).length := by
  cases h : vput v with
  | nil => exact absurd h (vput_ne v)
  | cons _ _ => simp

theorem vput_inj {a b : Int} (ha : 0 ≤ a) (hb : 0 ≤ b) (h : vput a = vput b) : a = b := by
  rw [← vval_vput a ha, h, vval_vput b hb]

/-- Reading a short number: from place i on, what came before being v. -/
def vgo : Nat → Int → List Int → Int × Int
  | _, _, [] => (0, 0)
  | i, v, c :: r => if 10 ≤ i then (0, 0) else if i = 9 ∧ 1 < c then (0, 0) else
      if c < 128 then (if c = 0 ∧ 0 < i then (0, 0) else (v + c * 128 ^ i, (i : Int) + 1)) else vgo (i + 1) (v + (c - 128) * 128 ^ i) r

/-- The short number with which bytes begin, and how many it has. -/
def vget (l : List Int) : Int × Int := vgo 0 0 l

theorem vgo_put (r : List Int) : ∀ (v : Int) (i : Nat) (a : Int), 0 ≤ v → a + v * 128 ^ i < 18446744073709551616 → 0 ≤ a → (0 < i → 0 < v) →
    vgo i a (vput v ++ r) = (a + v * 128 ^ i, (i : Int) + (vput v).length) := by
  intro v
  induction hn : v.toNat using Nat.strongRecOn generalizing v with
  | _ n ih =>
    intro i a h0 hlt ha hpos
    have hp : (0 : Int) < 128 ^ i := Int.pow_pos (by omega)
    have hi : i ≤ 9 := by
      rcases Nat.lt_or_ge i 10 with h | h
      · omega
      · exfalso
        have h1 : 0 < v := hpos (by omega)
        have : (128 : Int) ^ 10 ≤ 128 ^ i := pow_le h
        have h2 : 128 ^ i * 1 ≤ 128 ^ i * v := Int.mul_le_mul_of_nonneg_left (by omega) (by omega)
        rw [Int.mul_comm v] at hlt
        have h3 : (128 : Int) ^ 10 = 1180591620717411303424 := by decide
        omega
    have h9 : i = 9 → v ≤ 1 := by
      rintro rfl
      have h3 : (128 : Int) ^ 9 = 9223372036854775808 := by decide
      rw [h3] at hlt
      omega
    by_cases h1 : 128 ≤ v
    · rw [vput_ge h1]
      simp only [List.cons_append, vgo]
      rw [if_neg (by omega), if_neg (by omega), if_neg (by omega)]
      have e : (v % 128 + 128 - 128) * 128 ^ i + v / 128 * 128 ^ (i + 1) = v * 128 ^ i := by
        have e1 : (128 : Int) ^ (i + 1) = 128 * 128 ^ i := by rw [Int.pow_succ, Int.mul_comm]
        have e2 : v = v % 128 + 128 * (v / 128) := by omega
        rw [e1]
        conv => rhs; rw [e2]
        rw [Int.add_mul, show v % 128 + 128 - 128 = v % 128 by omega, ← Int.mul_assoc, Int.mul_comm (v / 128) 128]
      have hge : 0 ≤ (v % 128 + 128 - 128) * 128 ^ i := Int.mul_nonneg (by omega) (by omega)
      rw [ih (v / 128).toNat (by omega) (v / 128) rfl (i + 1) _ (by omega) (by rw [Int.add_assoc, e]; exact hlt) (by omega) (by intro _; omega)]
      rw [Int.add_assoc, e]
      simp only [List.length_cons, Prod.mk.injEq, true_and]
      omega
    · rw [vput_lt (by omega)]
      simp only [List.cons_append, List.nil_append, vgo]
      rw [if_neg (by omega), if_neg (by omega), if_pos (by omega), if_neg (by omega)]
      simp

theorem vget_put (r : List Int) {v : Int} (h0 : 0 ≤ v) (h : v < 18446744073709551616) : vget (vput v ++ r) = (v, ((vput v).length : Int)) := by
  unfold vget
  rw [vgo_put r v 0 0 h0 (by simp; omega) (by omega) (by omega)]
  simp

theorem vget_put' {v : Int} (h0 : 0 ≤ v) (h : v < 18446744073709551616) : vget (vput v) = (v, ((vput v).length : Int)) := by
  have := vget_put [] h0 h
  rwa [List.append_nil] at this

/-- What is read: nothing, or a short number as it must be. -/
theorem vgo_cases : ∀ (l : List Int) (i : Nat) (a : Int), IsB l → vgo i a l = (0, 0) ∨
    ∃ p r, l = p ++ r ∧ Canon p ∧ p.length + i ≤ 10 ∧ (p = [0] → i = 0) ∧ (p.length + i = 10 → p.getLast? = some 1) ∧ vgo i a l = (a + vval p * 128 ^ i, (p.length : Int) + i)
  | [], i, a, _ => .inl rfl
  | c :: r, i, a, hb => by
    have hc := isB_head hb
    unfold vgo
    by_cases h1 : 10 ≤ i
    · rw [if_pos h1]; exact .inl rfl
    rw [if_neg h1]
    by_cases h2 : i = 9 ∧ 1 < c
    · rw [if_pos h2]; exact .inl rfl
    rw [if_neg h2]
    by_cases h3 : c < 128
    · rw [if_pos h3]
      by_cases h4 : c = 0 ∧ 0 < i
      · rw [if_pos h4]; exact .inl rfl
      · rw [if_neg h4]
        refine .inr ⟨[c], r, rfl, ⟨by omega, h3⟩, by simp; omega, ?_, ?_, ?_⟩
        · intro e; injection e with e _; omega
        · intro e; simp at e; simp; omega
        · have : vval [c] = c := by simp [vval]; omega
          rw [this]; simp; omega
    · rw [if_neg h3]
      rcases vgo_cases r (i + 1) (a + (c - 128) * 128 ^ i) (isB_tail hb) with h | ⟨p, q, rfl, hp, hl, hz, h10, h⟩
      · exact .inl h
      · refine .inr ⟨c :: p, q, rfl, ?_, by simp; omega, ?_, ?_, ?_⟩
        · cases p with
          | nil => cases hp
          | cons d s =>
            refine ⟨by omega, hp, ?_⟩
            rintro rfl rfl
            have := hz rfl
            omega
        · intro e; injection e with e _; omega
        · intro e
          cases p with
          | nil => cases hp
          | cons d s => rw [List.getLast?_cons_cons]; exact h10 (by simp at e ⊢; omega)
        · rw [h]
          have e1 : (128 : Int) ^ (i + 1) = 128 * 128 ^ i := by rw [Int.pow_succ, Int.mul_comm]
          have e2 : vval (c :: p) = (c - 128) + 128 * vval p := by rw [vval]; omega
          rw [e1, e2, Int.add_mul, Int.add_assoc, ← Int.mul_assoc, Int.mul_comm (vval p) 128]
          simp only [List.length_cons, Prod.mk.injEq, true_and]
          omega

theorem vval_lt : ∀ {p : List Int}, IsB p → vval p < 128 ^ p.length ∧ 0 ≤ vval p
  | [], _ => by simp [vval]
  | c :: r, h => by
    have ⟨h1, h2⟩ := vval_lt (isB_tail h)
    rw [vval, List.length_cons, Int.pow_succ]
    omega

theorem canon_lt : ∀ {p : List Int}, Canon p → p.length ≤ 10 → (p.length = 10 → p.getLast? = some 1) → IsB p → vval p < 18446744073709551616 := by
  intro p hp hl h10 hb
  have h9 : ∀ {q : List Int}, IsB q → q.length ≤ 9 → vval q < 9223372036854775808 := by
    intro q hq hq9
    have := (vval_lt hq).1
    have h : (128 : Int) ^ q.length ≤ 128 ^ 9 := pow_le hq9
    have h3 : (128 : Int) ^ 9 = 9223372036854775808 := by decide
    omega
  rcases Nat.lt_or_ge p.length 10 with h | h
  · have := h9 hb (by omega); omega
  · have h10' := h10 (by omega)
    have key : ∀ {n : Nat} {q : List Int}, IsB q → q.length = n + 1 → q.getLast? = some 1 → vval q < 2 * 128 ^ n := by
      intro n
      induction n with
      | zero =>
        intro q hq hn hg
        match q, hn with
        | [c], _ => simp at hg; simp [vval]; omega
      | succ n ih =>
        intro q hq hn hg
        match q, hn with
        | c :: d :: r, hn =>
          rw [List.getLast?_cons_cons] at hg
          have := ih (isB_tail hq) (by simpa using hn) hg
          rw [vval, Int.pow_succ]; omega
    have := key (n := 9) hb (by omega) h10'
    have h3 : (128 : Int) ^ 9 = 9223372036854775808 := by decide
    rw [h3] at this; omega

/-- What is read: nothing, or the number whose bytes stand ahead. -/
theorem vget_cases {l : List Int} (hb : IsB l) : vget l = (0, 0) ∨ ∃ v r, 0 ≤ v ∧ v < 18446744073709551616 ∧ l = vput v ++ r ∧ vget l = (v, ((vput v).length : Int)) := by
  unfold vget
  rcases vgo_cases l 0 0 hb with h | ⟨p, r, rfl, hp, hl, hz, h10, h⟩
  · exact .inl h
  · have hpb : IsB p := fun x hx => hb x (List.mem_append_left _ hx)
    refine .inr ⟨vval p, r, canon_nonneg hp, canon_lt hp (by omega) (by simpa using h10) hpb, by rw [vput_vval hp], ?_⟩
    rw [h, vput_vval hp]; simp

theorem vget_bounds {l : List Int} (hb : IsB l) : 0 ≤ (vget l).1 ∧ (vget l).1 < 18446744073709551616 ∧ 0 ≤ (vget l).2 ∧ (vget l).2 ≤ 10 ∧ (vget l).2 ≤ l.length := by
  rcases vget_cases hb with h | ⟨v, r, h0, h1, e, h⟩
  · rw [h]; simp
  · have := vput_len10 h1
    rw [h, e]; simp; omega

/-- Nothing is read, or the number is got whose bytes stand ahead, and no other. -/
theorem vget_zero {l : List Int} (hb : IsB l) (h : (vget l).2 = 0) : vget l = (0, 0) := by
  rcases vget_cases hb with e | ⟨v, r, h0, h1, e, k⟩
  · exact e
  · rw [k] at h
    have := vput_len_pos v
    have h' : ((vput v).length : Int) = 0 := h
    omega

end Go.Proofs.Ytoigebnhnkdbbaa.Math
