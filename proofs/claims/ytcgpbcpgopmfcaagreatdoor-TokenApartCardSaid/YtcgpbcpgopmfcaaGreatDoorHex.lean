/- Bytes as digits and back (chapter 24), plainly: no program in sight. -/
import Derived.Test.YtcgpbcpgopmfcaaGreatDoorMath
namespace Go.Proofs.YtcgpbcpgopmfcaaGreatDoor.Hex
open Go.Proofs.YtcgpbcpgopmfcaaGreatDoor.Math

/-- The digit of a half byte. -/
def hexD (n : Int) : Int := if n < 10 then 48 + n else 87 + n
def hexT : List Int → List Int
  | [] => []
  | c :: b => hexD (c / 16) :: hexD (c % 16) :: hexT b
/-- A digit's worth. -/
def digitF (r : Int) : Option Int := if 48 ≤ r ∧ r ≤ 57 then some (r - 48) else if 97 ≤ r ∧ r ≤ 102 then some (r - 87) else none
/-- What the digits of a text are, from a state of the loop on. -/
def plainG : List Int → List Int → Int → Bool → Option (List Int × Bool)
  | [], out, _, odd => some (out, !odd)
  | c :: s, out, half, odd => match digitF c with
    | none => none
    | some v => plainG s (if odd then out ++ [half * 16 + v] else out) v (!odd)
theorem digit_hex {n : Int} (h0 : 0 ≤ n) (h1 : n < 16) : digitF (hexD n) = some n := by
  unfold digitF hexD
  by_cases h : n < 10
  · rw [if_pos h, if_pos ⟨by omega, by omega⟩]
    congr 1
    omega
  · rw [if_neg h, if_neg (by omega), if_pos ⟨by omega, by omega⟩]
    congr 1
    omega
theorem hex_digit {r v : Int} (h : digitF r = some v) : 0 ≤ v ∧ v < 16 ∧ r = hexD v := by
  unfold digitF at h
  split at h
  · injection h with h
    subst h
    refine ⟨by omega, by omega, ?_⟩
    unfold hexD
    rw [if_pos (by omega)]
    omega
  · split at h
    · injection h with h
      subst h
      refine ⟨by omega, by omega, ?_⟩
      unfold hexD
      rw [if_neg (by omega)]
      omega
    · cases h
theorem hexT_len : ∀ b : List Int, (hexT b).length = 2 * b.length
  | [] => rfl
  | c :: b => by
    show (hexT b).length + 1 + 1 = 2 * (b.length + 1)
    rw [hexT_len b]
    omega
/-- Digits are read as they were laid. -/
theorem plain_hex : ∀ (b : List Int) (out : List Int) (half : Int), (∀ x ∈ b, 0 ≤ x ∧ x < 256) → plainG (hexT b) out half false = some (out ++ b, true)
  | [], out, half, _ => by
    rw [List.append_nil]
    rfl
  | c :: b, out, half, h => by
    have hc := h c (by simp)
    have h1 := digit_hex (n := c / 16) (by omega) (by omega)
    have h2 := digit_hex (n := c % 16) (by omega) (by omega)
    show plainG (hexD (c / 16) :: hexD (c % 16) :: hexT b) out half false = _
    rw [plainG, h1]
    show plainG (hexD (c % 16) :: hexT b) out (c / 16) true = _
    rw [plainG, h2]
    show plainG (hexT b) (out ++ [c / 16 * 16 + c % 16]) (c % 16) false = _
    rw [plain_hex b _ _ (fun x hx => h x (by simp [hx])), show c / 16 * 16 + c % 16 = c by omega, List.append_assoc]
    rfl
/-- What is read whole was laid so. -/
theorem plain_inv : ∀ (n : Nat) (s out : List Int) (half : Int) (r : List Int), s.length ≤ n → plainG s out half false = some (r, true) → ∃ b, (∀ x ∈ b, 0 ≤ x ∧ x < 256) ∧ r = out ++ b ∧ s = hexT b := by
  intro n
  induction n with
  | zero =>
    intro s out half r hl h
    have : s = [] := List.eq_nil_of_length_eq_zero (by omega)
    subst this
    rw [plainG] at h
    injection h with h
    injection h with h1 h2
    exact ⟨[], by simp, by rw [List.append_nil, h1], rfl⟩
  | succ n ih =>
    intro s out half r hl h
    match s, hl, h with
    | [], _, h =>
      rw [plainG] at h
      injection h with h
      injection h with h1 h2
      exact ⟨[], by simp, by rw [List.append_nil, h1], rfl⟩
    | [x], _, h =>
      rw [plainG] at h
      cases hx : digitF x with
      | none => rw [hx] at h; cases h
      | some v =>
        rw [hx] at h
        have h' : plainG [] out v true = some (r, true) := h
        rw [plainG] at h'
        injection h' with h'
        injection h' with h1 h2
        cases h2
    | x :: y :: s, hl, h =>
      rw [plainG] at h
      cases hx : digitF x with
      | none => rw [hx] at h; cases h
      | some v =>
        rw [hx] at h
        have h' : plainG (y :: s) out v true = some (r, true) := h
        rw [plainG] at h'
        cases hy : digitF y with
        | none => rw [hy] at h'; cases h'
        | some u =>
          rw [hy] at h'
          have h2 : plainG s (out ++ [v * 16 + u]) u false = some (r, true) := h'
          obtain ⟨b, hb, hr, hs⟩ := ih s _ u r (by simp at hl; omega) h2
          obtain ⟨v0, v1, hv⟩ := hex_digit hx
          obtain ⟨u0, u1, hu⟩ := hex_digit hy
          refine ⟨(v * 16 + u) :: b, fun z hz => ?_, by rw [hr, List.append_assoc]; rfl, ?_⟩
          · rcases List.mem_cons.1 hz with rfl | hz
            · omega
            · exact hb z hz
          · show x :: y :: s = hexD ((v * 16 + u) / 16) :: hexD ((v * 16 + u) % 16) :: hexT b
            rw [show (v * 16 + u) / 16 = v by omega, show (v * 16 + u) % 16 = u by omega, ← hv, ← hu, ← hs]
theorem hexT_get : ∀ (b : List Int) (k : Nat) (hk : k < b.length), (hexT b)[2 * k]? = some (hexD (b[k] / 16)) ∧ (hexT b)[2 * k + 1]? = some (hexD (b[k] % 16))
  | c :: b, 0, _ => ⟨rfl, rfl⟩
  | c :: b, k + 1, hk => by
    have ih := hexT_get b k (by simpa using hk)
    have e1 : 2 * (k + 1) = 2 * k + 1 + 1 := by omega
    refine ⟨?_, ?_⟩
    · rw [e1]
      exact ih.1
    · rw [e1]
      exact ih.2
theorem hexD_inj {a b : Int} (ha : 0 ≤ a) (ha1 : a < 16) (hb : 0 ≤ b) (hb1 : b < 16) (h : hexD a = hexD b) : a = b := by
  have h1 := digit_hex ha ha1
  rw [h, digit_hex hb hb1] at h1
  injection h1 with h1
  exact h1.symm
/-- Two rows of bytes have the same digits just if they are the same. -/
theorem hexT_inj {a b : List Int} (ha : ∀ x ∈ a, 0 ≤ x ∧ x < 256) (hb : ∀ x ∈ b, 0 ≤ x ∧ x < 256) (h : hexT a = hexT b) : a = b := by
  have h1 := plain_hex a [] 0 ha
  rw [h, plain_hex b [] 0 hb] at h1
  injection h1 with h1
  injection h1 with h1
  exact h1.symm
/-- One sign of the digits changed, and digits still: one byte is another, and no more. -/
theorem turned_inv {b : List Int} (hb : ∀ x ∈ b, 0 ≤ x ∧ x < 256) {i : Nat} (hi : i < (hexT b).length) {t : Int} (ht : (hexT b)[i]? ≠ some t) {r : List Int} (h : plainG ((hexT b).set i t) [] 0 false = some (r, true)) :
    ∃ v, r = b.set (i / 2) v ∧ 0 ≤ v ∧ v < 256 ∧ b[i / 2]? ≠ some v := by
  obtain ⟨b', hb', hr, hs⟩ := plain_inv _ _ _ _ _ (Nat.le_refl _) h
  rw [List.nil_append] at hr
  rw [hr]
  have hlen : b'.length = b.length := by
    have := congrArg List.length hs
    rw [List.length_set, hexT_len, hexT_len] at this
    omega
  have hk : i / 2 < b.length := by rw [hexT_len] at hi; omega
  have hk' : i / 2 < b'.length := by omega
  have hv := hb' _ (List.getElem_mem hk')
  refine ⟨b'[i / 2], ?_, hv.1, hv.2, ?_⟩
  · refine List.ext_getElem (by rw [List.length_set, hlen]) fun k h1 h2 => ?_
    by_cases he : i / 2 = k
    · subst he
      rw [List.getElem_set_self]
    · rw [List.getElem_set_ne he]
      have hkb : k < b.length := by omega
      obtain ⟨p1, p2⟩ := hexT_get b k hkb
      obtain ⟨p3, p4⟩ := hexT_get b' k h1
      rw [← hs, List.getElem?_set_ne (by omega), p1] at p3
      rw [← hs, List.getElem?_set_ne (by omega), p2] at p4
      injection p3 with p3
      injection p4 with p4
      have q1 := hb _ (List.getElem_mem hkb)
      have q2 := hb' _ (List.getElem_mem h1)
      have e1 := hexD_inj (by omega) (by omega) (by omega) (by omega) p3
      have e2 := hexD_inj (by omega) (by omega) (by omega) (by omega) p4
      omega
  · intro e
    rw [List.getElem?_eq_getElem hk] at e
    injection e with e
    have : b' = b := by
      refine List.ext_getElem hlen fun k h1 h2 => ?_
      by_cases he : i / 2 = k
      · subst he
        exact e.symm
      · obtain ⟨p1, p2⟩ := hexT_get b k h2
        obtain ⟨p3, p4⟩ := hexT_get b' k h1
        rw [← hs, List.getElem?_set_ne (by omega), p1] at p3
        rw [← hs, List.getElem?_set_ne (by omega), p2] at p4
        injection p3 with p3
        injection p4 with p4
        have q1 := hb _ (List.getElem_mem h2)
        have q2 := hb' _ (List.getElem_mem h1)
        have e1 := hexD_inj (by omega) (by omega) (by omega) (by omega) p3
        have e2 := hexD_inj (by omega) (by omega) (by omega) (by omega) p4
        omega
    rw [this] at hs
    apply ht
    rw [← hs, List.getElem?_set_self hi]
end Go.Proofs.YtcgpbcpgopmfcaaGreatDoor.Hex
