/- The bits of digits (chapter 24), plainly. -/
import Derived.Test.YtcgpbcpgopmfcaaGreatDoorHex
namespace Go.Proofs.YtcgpbcpgopmfcaaGreatDoor.Hex
open Go.RowKit Go.Proofs.YtcgpbcpgopmfcaaGreatDoor.Math

theorem nat_mask4 (x : Nat) : x &&& 15 = x % 16 := Nat.and_two_pow_sub_one_eq_mod x 4
theorem and15 {c : Int} (h0 : 0 ≤ c) (h1 : c < 256) : Go.bits .and .u8 c 15 = c % 16 := by
  rw [u8_and c 15 h0 h1 (by omega) (by omega)]
  have e2 : (15 : Int).toNat = 15 := rfl
  rw [e2, nat_mask4]
  omega
/-- Two half bytes as one. -/
theorem or_half {h v : Int} (h0 : 0 ≤ h) (h1 : h < 16) (v0 : 0 ≤ v) (v1 : v < 16) : Go.bits .or .u8 (h * 16) v = h * 16 + v := by
  rw [u8_or (h * 16) v (by omega) (by omega) v0 (by omega)]
  have e : (h * 16).toNat = 16 * h.toNat := by omega
  have e2 : 16 * h.toNat ||| v.toNat = 16 * h.toNat + v.toNat := by
    have := Nat.two_pow_add_eq_or_of_lt (i := 4) (b := v.toNat) (by omega) h.toNat
    exact this.symm
  rw [e, e2]
  omega
/-- The sixteen digits. -/
def digits16 : List Int := [48, 49, 50, 51, 52, 53, 54, 55, 56, 57, 97, 98, 99, 100, 101, 102]
theorem digits_at : ∀ k : Nat, k < 16 → digits16.getD k 0 = hexD (k : Int) := by decide
/-- A digit as the switch on runes tells it. -/
theorem digit_rune (r : Int) : digitF r = if 48 ≤ r ∧ r ≤ 57 then some (r - 48) else if 97 ≤ r ∧ r ≤ 102 then some (r - 87) else none := rfl
theorem digit_high {r : Int} (h : 128 ≤ r) : digitF r = none := by
  unfold digitF
  rw [if_neg (by omega), if_neg (by omega)]
/-- The loop's state behind a text: what is out, the half, whether one is over. -/
def plainS : List Int → List Int → Int → Bool → Option (List Int × Int × Bool)
  | [], out, half, odd => some (out, half, odd)
  | c :: s, out, half, odd => match digitF c with
    | none => none
    | some v => plainS s (if odd then out ++ [half * 16 + v] else out) v (!odd)
theorem plainS_snoc : ∀ (s out : List Int) (half : Int) (odd : Bool) (c : Int), plainS (s ++ [c]) out half odd = (plainS s out half odd).bind fun x => (digitF c).map fun v => (if x.2.2 then x.1 ++ [x.2.1 * 16 + v] else x.1, v, !x.2.2)
  | [], out, half, odd, c => by
    show plainS [c] out half odd = _
    rw [plainS, plainS]
    cases digitF c with
    | none => rfl
    | some v => rfl
  | x :: s, out, half, odd, c => by
    show plainS (x :: (s ++ [c])) out half odd = _
    rw [plainS, plainS]
    cases digitF x with
    | none => rfl
    | some v => exact plainS_snoc s _ _ _ c
theorem plainG_S : ∀ (s out : List Int) (half : Int) (odd : Bool), plainG s out half odd = (plainS s out half odd).map fun x => (x.1, !x.2.2)
  | [], out, half, odd => by rw [plainG, plainS]; rfl
  | c :: s, out, half, odd => by
    rw [plainG, plainS]
    cases digitF c with
    | none => rfl
    | some v => exact plainG_S s _ _ _
/-- A sign that is no digit ends it, wherever it stands. -/
theorem plainS_bad : ∀ (s r out : List Int) (half : Int) (odd : Bool) (c : Int), digitF c = none → plainS (s ++ c :: r) out half odd = none
  | [], r, out, half, odd, c, h => by
    show plainS (c :: r) out half odd = none
    rw [plainS, h]
  | x :: s, r, out, half, odd, c, h => by
    show plainS (x :: (s ++ c :: r)) out half odd = none
    rw [plainS]
    cases digitF x with
    | none => rfl
    | some v => exact plainS_bad s r _ _ _ c h
/-- The half is a half. -/
theorem plainS_half : ∀ (s out : List Int) (half : Int) (odd : Bool) (o : List Int) (h : Int) (od : Bool), 0 ≤ half → half < 16 → IsB out → plainS s out half odd = some (o, h, od) → 0 ≤ h ∧ h < 16 ∧ IsB o
  | [], out, half, odd, o, h, od, h0, h1, hb, e => by
    rw [plainS] at e
    injection e with e
    injection e with e1 e2
    injection e2 with e2 e3
    subst e1
    subst e2
    exact ⟨h0, h1, hb⟩
  | c :: s, out, half, odd, o, h, od, h0, h1, hb, e => by
    rw [plainS] at e
    cases hd : digitF c with
    | none => rw [hd] at e; cases e
    | some v =>
      rw [hd] at e
      obtain ⟨v0, v1, _⟩ := hex_digit hd
      refine plainS_half s _ v (!odd) o h od v0 v1 ?_ e
      cases odd with
      | false => exact hb
      | true =>
        intro x hx
        rcases List.mem_append.1 hx with hx | hx
        · exact hb x hx
        · rw [List.mem_singleton.1 hx]
          omega
end Go.Proofs.YtcgpbcpgopmfcaaGreatDoor.Hex
